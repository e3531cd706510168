/- part 21 of the proof -/
import Derived.Test.YtlgnfdodnhokjaaGreatDoorQ20
import Derived.ChangeKeysEq
namespace Go.Proofs.YtlgnfdodnhokjaaGreatDoor.Mq.ct
open Go Go.RowKit Go.Proofs Tryz
def mZ (v:Int):Nat:=if v=1 then 1 else if v=2 then 2 else if v=3 then 4 else if v=5∨v=6 then 16 else if v=7 then 32 else if v=8 then 64 else if v=9 then 128 else if v=53 then 512 else 0
theorem H8 (w:World) (v:Int):Calls prog 425 [.int .i64 v].toArray w (λe w'=>e= .returned (.int .i64 (mZ v:Int))∧Ext [] w w'):=by
 refine aV func425 ntmps425 ?_;refine eR ?_;refine aj (λd=>?_) (λd=>?_);refine aJ ?_;intro b a;exact⟨by rw[mZ,aw (show _ by omega)];rfl,a.ext⟩;refine al ?_;refine aj (λf=>?_) (λf=>?_);refine aJ ?_;intro b a;exact⟨by rw[mZ,ag (show ¬_ by omega),aw (show _ by omega)];rfl,a.ext⟩;refine al ?_;refine aj (λg=>?_) (λg=>?_);refine aJ ?_;intro b a;exact⟨by rw[mZ,ag (show ¬_ by omega),ag (show ¬_ by omega),aw (show _ by omega)];rfl,a.ext⟩;refine aC ?_;refine aj (λc=>?_) (λc=>?_);refine aq ?_;refine eE rfl ((bX c)) ?_;refine aJ ?_;intro b a;exact⟨by rw[mZ,ag (show ¬_ by omega),ag (show ¬_ by omega),ag (show ¬_ by omega),aw (show _ by omega)];rfl,a.ext⟩;refine ay ?_;refine aj (λh=>?_) (λh=>?_);refine aJ ?_;intro b a;exact⟨by rw[mZ,ag (show ¬_ by omega),ag (show ¬_ by omega),ag (show ¬_ by omega),aw (show _ by omega)];rfl,a.ext⟩;refine al ?_;refine aj (λi=>?_) (λi=>?_);refine aJ ?_;intro b a;exact⟨by rw[mZ,ag (show ¬_ by omega),ag (show ¬_ by omega),ag (show ¬_ by omega),ag (show ¬_ by omega),aw (show _ by omega)];rfl,a.ext⟩;refine al ?_;refine aj (λj=>?_) (λj=>?_);refine aJ ?_;intro b a;exact⟨by rw[mZ,ag (show ¬_ by omega),ag (show ¬_ by omega),ag (show ¬_ by omega),ag (show ¬_ by omega),ag (show ¬_ by omega),aw (show _ by omega)];rfl,a.ext⟩;refine al ?_;refine aj (λk=>?_) (λk=>?_);refine aJ ?_;intro b a;exact⟨by rw[mZ,ag (show ¬_ by omega),ag (show ¬_ by omega),ag (show ¬_ by omega),ag (show ¬_ by omega),ag (show ¬_ by omega),ag (show ¬_ by omega),aw (show _ by omega)];rfl,a.ext⟩;refine al ?_;refine aj (λl=>?_) (λl=>?_);refine aJ ?_;intro b a;exact⟨by rw[mZ,ag (show ¬_ by omega),ag (show ¬_ by omega),ag (show ¬_ by omega),ag (show ¬_ by omega),ag (show ¬_ by omega),ag (show ¬_ by omega),ag (show ¬_ by omega),aw (show _ by omega)];rfl,a.ext⟩;refine aQ ?_;intro b a;exact⟨by rw[mZ,ag (show ¬_ by omega),ag (show ¬_ by omega),ag (show ¬_ by omega),ag (show ¬_ by omega),ag (show ¬_ by omega),ag (show ¬_ by omega),ag (show ¬_ by omega),ag (show ¬_ by omega)];rfl,a.ext⟩
def nW (v:Int):Nat:=if v=22 then 3 else if v=23 then 4 else if v=24 then 264 else if v=25 then 16 else if v=27 then 32 else if v=28 then 64 else if v=29 then 128 else if v=55 then 512 else 0
theorem H9 (w:World) (v:Int):Calls prog 426 [.int .i64 v].toArray w (λe w'=>e= .returned (.int .i64 (nW v:Int))∧Ext [] w w'):=by
 refine aV func426 ntmps426 ?_;refine eR ?_;refine aj (λc=>?_) (λc=>?_);refine aJ ?_;intro b a;exact⟨by rw[nW,aw (show _ by omega)];rfl,a.ext⟩;refine al ?_;refine aj (λd=>?_) (λd=>?_);refine aJ ?_;intro b a;exact⟨by rw[nW,ag (show ¬_ by omega),aw (show _ by omega)];rfl,a.ext⟩;refine al ?_;refine aj (λf=>?_) (λf=>?_);refine aJ ?_;intro b a;exact⟨by rw[nW,ag (show ¬_ by omega),ag (show ¬_ by omega),aw (show _ by omega)];rfl,a.ext⟩;refine al ?_;refine aj (λg=>?_) (λg=>?_);refine aJ ?_;intro b a;exact⟨by rw[nW,ag (show ¬_ by omega),ag (show ¬_ by omega),ag (show ¬_ by omega),aw (show _ by omega)];rfl,a.ext⟩;refine al ?_;refine aj (λh=>?_) (λh=>?_);refine aJ ?_;intro b a;exact⟨by rw[nW,ag (show ¬_ by omega),ag (show ¬_ by omega),ag (show ¬_ by omega),ag (show ¬_ by omega),aw (show _ by omega)];rfl,a.ext⟩;refine al ?_;refine aj (λi=>?_) (λi=>?_);refine aJ ?_;intro b a;exact⟨by rw[nW,ag (show ¬_ by omega),ag (show ¬_ by omega),ag (show ¬_ by omega),ag (show ¬_ by omega),ag (show ¬_ by omega),aw (show _ by omega)];rfl,a.ext⟩;refine al ?_;refine aj (λj=>?_) (λj=>?_);refine aJ ?_;intro b a;exact⟨by rw[nW,ag (show ¬_ by omega),ag (show ¬_ by omega),ag (show ¬_ by omega),ag (show ¬_ by omega),ag (show ¬_ by omega),ag (show ¬_ by omega),aw (show _ by omega)];rfl,a.ext⟩;refine al ?_;refine aj (λk=>?_) (λk=>?_);refine aJ ?_;intro b a;exact⟨by rw[nW,ag (show ¬_ by omega),ag (show ¬_ by omega),ag (show ¬_ by omega),ag (show ¬_ by omega),ag (show ¬_ by omega),ag (show ¬_ by omega),ag (show ¬_ by omega),aw (show _ by omega)];rfl,a.ext⟩;refine aQ ?_;intro b a;exact⟨by rw[nW,ag (show ¬_ by omega),ag (show ¬_ by omega),ag (show ¬_ by omega),ag (show ¬_ by omega),ag (show ¬_ by omega),ag (show ¬_ by omega),ag (show ¬_ by omega),ag (show ¬_ by omega)];rfl,a.ext⟩
def vC (g:List Int):Nat:=if g[1]? = some 0 then 0 else if g[1]? = some 2 then 256 else 8
theorem Tk (w:World) (F:Nat→Prop) (A:Option Addr) (n c:Nat) (g:List Int) (m:Rd bT w F A n c g) (s:n≤1000000):
 Calls prog 395 [.slice A n c].toArray w (λe w'=>e= .returned (.int .i64 (vC g:Int))∧Ext [] w w'):=by
 have t:=m.len
 refine aV func395 ntmps395 ?_;refine bH ?_;refine aW 7 rfl (λh=>?_) (λh=>?_);have r:=aX h
 obtain⟨x,d⟩ : ∃x,g[1]? = some x:=⟨g[1]'aa,bE _⟩;obtain⟨u,o,_,p⟩:=m.at_ d;refine ah ?_;refine bC (q:=1) dL rfl rfl rfl o aa aa ?_;refine ar ?_;refine a_ bN rfl rfl (λw' i=>i.cu (p 0 _ rfl) (by simp[aB])) ?_;refine al ?_;refine aj (λf=>?_) (λf=>?_);refine aJ ?_;intro j a;exact⟨by rw[vC,d,aw (by rw[f])];rfl,a.ext⟩;refine al ?_;refine aW 17 rfl (λb=>?_) (λb=>?_);have k:=aX b
 refine ah ?_;refine bC (q:=1) dL rfl rfl rfl o aa aa ?_;refine ar ?_;refine a_ bN rfl rfl (λw' i=>i.cu (p 0 _ rfl) (by simp[aB])) ?_;refine al ?_;refine aj (λl=>?_) (λl=>?_);refine aJ ?_;intro j a;exact⟨by rw[vC,d,ag (by simpa using f),aw (by rw[l])];rfl,a.ext⟩;refine aQ ?_;intro j a;exact⟨by rw[vC,d,ag (by simpa using f),ag (by simpa using l)];rfl,a.ext⟩;have k:=bd b
 omega
 have r:=bd h
 have d:g[1]? = none:=kq aa
 refine cF ?_;refine aW 17 rfl (λb=>?_) (λb=>?_);have k:=aX b
 omega
 have k:=bd b
 refine eL ?_;intro j a;exact⟨by rw[vC,d,ag av,ag av];rfl,a.ext⟩
def pd (v low high:Int):Value:=if low≤v∧v<low+8 then .tuple #[ql 1 (v - low),.bool true] else if high≤v∧v<high+8 then .tuple #[ql 1 (v - high+8),.bool true] else .tuple #[ql 0 0,.bool (decide (v=low+9))]
theorem Tl (w:World) (v low high:Int) (j:0≤v∧v≤65535) (k:0≤low∧low≤1000) (l:0≤high∧high≤1000):
 Calls prog 427 [.int .i64 v,.int .i64 low,.int .i64 high].toArray w (λe w'=>e= .returned (pd v low high)∧Ext [] w w'):=by
 refine aV func427 ntmps427 ?_;refine ah ?_;intro m n o;refine bp ?_;refine aW 12 rfl (λd=>?_) (λd=>?_);have h:=aX d
 refine bx ?_;refine aj (λi=>?_) (λi=>?_);refine bH ?_;refine ik results427 (cy.eX gA rfl aT rfl rfl) (cy.tmp rfl) (λc a=>?_);exact⟨by rw[pd,aw aa];rfl,a.ext⟩;refine al ?_;refine aW 26 rfl (λb=>?_) (λb=>?_);have f:=aX b
 refine bx ?_;refine aj (λg=>?_) (λg=>?_);refine b7 ?_;refine ik results427 (cy.eX gA rfl aT rfl rfl) (cy.tmp rfl) (λc a=>?_);exact⟨by rw[pd,ag aa,aw aa];rfl,a.ext⟩;refine cF ?_;refine ik results427 (cy.eX gA rfl aT rfl rfl) (cy.tmp rfl) (λc a=>?_);exact⟨by rw[pd,ag aa,ag aa];rfl,a.ext⟩;have f:=bd b
 refine jF ?_;refine ik results427 (cy.eX gA rfl aT rfl rfl) (cy.tmp rfl) (λc a=>?_);exact⟨by rw[pd,ag aa,ag aa];rfl,a.ext⟩;have h:=bd d
 refine cF ?_;refine aW 26 rfl (λb=>?_) (λb=>?_);have f:=aX b
 refine bx ?_;refine aj (λg=>?_) (λg=>?_);refine b7 ?_;refine ik results427 (cy.eX gA rfl aT rfl rfl) (cy.tmp rfl) (λc a=>?_);exact⟨by rw[pd,ag aa,aw aa];rfl,a.ext⟩;refine cF ?_;refine ik results427 (cy.eX gA rfl aT rfl rfl) (cy.tmp rfl) (λc a=>?_);exact⟨by rw[pd,ag aa,ag aa];rfl,a.ext⟩;have f:=bd b
 refine jF ?_;refine ik results427 (cy.eX gA rfl aT rfl rfl) (cy.tmp rfl) (λc a=>?_);exact⟨by rw[pd,ag aa,ag aa];rfl,a.ext⟩
def m5 (L:List Int):Nat:=L.foldl (λn x=>n*256+(max 0 x).toNat) 0
def hU (L:List Int):Option (Int × Int):=if ∀x∈L,x≤255 then some (if L.length=1 then 1 else 2,(m5 L:Int)) else none
abbrev BE (o:Option (Int × Int)):List Value:=[ql (o.getD (0,0)).1 (o.getD (0,0)).2,.bool o.isSome]
theorem Tm (L:List Int) (x:Int):m5 (L++[x])=m5 L*256+(max 0 x).toNat:=by simp[m5]
theorem Tn {a b:Nat} (c:b<256):a*256 ||| b=a*256+b:=by
 have:=Nat.two_pow_add_eq_or_of_lt (i:=8) (a:=a) (b:=b) c
 rw[show (2 :Nat) ^ 8=256 by rfl,qQ] at this
 exact this.symm
theorem BF (w:World) (F:Nat→Prop) (A:Option Addr) (n c:Nat) (L:List Int) (j:Rd bT w F A n c L) (B:n≤3):
 Calls prog 424 [.slice A n c].toArray w (λe w'=>e= .returned (.tuple (BE (hU L)).toArray)∧Ext [] w w'):=by
 have C:=j.len
 refine aV func424 ntmps424 ?_;refine ah ?_;intro l D E;refine ey ?_;refine b2 (ι:=Nat) (λk=>[(0,.slice A n c),(2,.pointer (some ⟨l,0,none⟩)),(4,.int .i64 (m5 (L.take k):Int)),(7,.slice A n c),(8,.int .i64 (n:Int)),(9,.int .i64 (k:Int))]) (λ_=>af w [] [aD l [.int .i64 0,.int .i64 0] 123]) (λk=>k≤n∧(∀x∈L.take k,x≤255)∧m5 (L.take k)<256 ^ k) (λk=>n - k) ?_ ?_;exact λw a=>⟨0,⟨bP _,by simp,by simp[m5]⟩,(ip rfl rfl rfl rfl rfl rfl),a⟩
 rintro k ⟨G,b,o⟩;refine al ?_;refine aj (λu=>?_) (λu=>?_);obtain⟨x,d⟩ : ∃x,L[k]? = some x:=⟨L[k]'aa,bE _⟩;obtain⟨H,I,_,v⟩:=j.at_ d;have p:=kC d
 refine al ?_;refine bC (q:=k) dL rfl rfl rfl bv aa aa ?_;refine a_ bN rfl rfl (λw' f=>f.cu (v 0 _ rfl) (by simp[aB])) ?_;refine aQ ?_;refine aj (λg=>?_) (λg=>?_);refine b7 ?_;refine ik results424 (cy.eX gA rfl aT rfl rfl) (cy.tmp rfl) (λs a=>?_);refine⟨?_,a.ext⟩;rw[hU,ag (λh=>absurd (h x (da d)) aa)];rfl
 have J:m5 (L.take k)<65536:=by
  have:k≤2:=by omega
  refine pA o ?_;exact fp (qR aZ this) aZ
 have z: (max 0 x).toNat<256:=by omega
 have i:=Tm (L.take k) x
 rw[←p] at i
 refine aS ?_;refine oN (r:=((m5 (L.take k)*256 :Nat):Int)) rfl rfl rfl aZ (by rw[show min (8 :Int).toNat IntKind.i64.bits=8 by rfl,show (2 :Int) ^ 8=256 by rfl,tx aa aa];omega) ?_;refine aq ?_;refine mN (r:=(m5 (L.take (k+1)):Int)) rfl rfl rfl (or_eq (m:=m5 (L.take k)*256) (n:=(max 0 x).toNat) rfl aa (show _<18446744073709551616 by omega) (show _<18446744073709551616 by omega) (by rw[Tn z,i,tx aa aa])) ?_;refine aK ?_;refine bi (k+1) ⟨aa,λy t=>?_,?_⟩ aa (ip rfl rfl rfl rfl rfl rfl) (λw' f=>f);rw[p] at t
 rcases cZ.1 t with h | h
 exact b y h;rw[eb.1 h];omega
 rw[i,Nat.pow_succ];omega
 have e:L.take k=L:=ev aa
 rw[e] at b o ⊢
 refine bH ?_;refine aj (λg=>?_) (λg=>?_);refine aQ ?_;refine ik results424 (cy.eX gA rfl aT rfl rfl) (cy.tmp rfl) (λs a=>?_);refine⟨?_,a.ext⟩;rw[hU,aw b,aw aa];rfl
 refine bp ?_;refine ik results424 (cy.eX gA rfl aT rfl rfl) (cy.tmp rfl) (λs a=>?_);refine⟨?_,a.ext⟩;rw[hU,aw b,ag aa];rfl
def vD (g:List Int):Option (Int × Int):=if g[1]? = some 5∧g.length=3 then hU (g.drop 2) else if g[1]? = some 2∧(g.length=5∨g.length=6) then hU (g.drop (g.length - 3)) else none
theorem H_ (w:World) (F:Nat→Prop) (A:Option Addr) (n c:Nat) (g:List Int) (b:Rd bT w F A n c g) (K:n≤1000000) (L:2≤n):
 Calls prog 396 [.slice A n c].toArray w (λe w'=>e= .returned (.tuple (BE (vD g)).toArray)∧Ext [] w w'):=by
 have B:=b.len
 obtain⟨x,j⟩ : ∃x,g[1]? = some x:=⟨g[1]'aa,bE _⟩;obtain⟨M,s,_,t⟩:=b.at_ j;have C: (¬(x=5∧n=3))→(¬(x=2∧(n=5∨n=6)))→vD g=none:=λd f=>by
  rw[vD,j,ag (λh=>d ⟨by simpa using h.1,aa⟩),ag (λh=>f ⟨by simpa using h.1,aa⟩)]
 have N:=b.cap
 have O:=b.max
 refine aV func396 ntmps396 ?_;refine ah ?_;intro l P Q;refine al ?_;refine oF ([(4,.bool (decide (x=5∧n=3))),(0,.slice A n c),(2,.pointer (some ⟨l,0,none⟩))]) (af w [] [aD l [.int .i64 0,.int .i64 0] 123]) ?_ ?_;refine aq ?_;refine bC (q:=1) dL rfl rfl rfl s aa aa ?_;refine a_ bN rfl rfl (λw' a=>a.cu (t 0 _ rfl) (by simp[aB])) ?_;refine aq ?_;refine aW 9 rfl (λm=>?_) (λm=>?_);have D:=aX m
 refine aJ ?_;exact gy (Sub.cons (aU (λx=>some (Value.bool x)) (by rw[gQ];omega)) (iK rfl rfl)) (λ_ h=>h);have D:=bd m
 refine al ?_;exact gy (Sub.cons (aU (λx=>some (Value.bool x)) (by rw[eq_comm,e2];omega)) (iK rfl rfl)) (λ_ h=>h);refine ar ?_;refine aj (λd=>?_) (λd=>?_);obtain⟨y,u⟩ : ∃y,g[2]? = some y:=⟨g[2]'aa,bE _⟩;obtain⟨R,G,_,H⟩:=b.at_ u;have ak:g.drop 2=[y]:=by
  refine mz λk=>?_
  rw[mB];cases k with
  | zero=>simpa using u
  | succ k=>rw[kq aa];simp
 refine ah ?_;refine bC (q:=2) dL rfl rfl rfl G aa aa ?_;refine a_ bN rfl rfl (λw' a=>a.cu (H 0 _ rfl) (by simp[aB])) ?_;refine ar ?_;intro S T U;refine ao rfl Ao rfl (λw' a=>BF w' _ _ _ _ [y] (Rd.hp (E:=bT) a Has.head rfl aZ) aZ) ?_;refine aJ ?_;refine ik results396 (cy.eX gA rfl bJ rfl rfl) (cy.tmp rfl) (λv i=>?_);refine⟨?_,i.ext⟩;rw[vD,j,aw ⟨by rw[d.1],aa⟩,ak];rfl
 refine ar ?_;refine oF ([(21,.bool (decide (x=2∧(n=5∨n=6)))),(0,.slice A n c),(2,.pointer (some ⟨l,0,none⟩))]) (af w [] [aD l [.int .i64 0,.int .i64 0] 123]) ?_ ?_;refine aq ?_;refine bC (q:=1) dL rfl rfl rfl s aa aa ?_;refine a_ bN rfl rfl (λw' a=>a.cu (t 0 _ rfl) (by simp[aB])) ?_;refine aq ?_;refine aW 26 rfl (λf=>?_) (λf=>?_);have I:=aX f
 refine aK ?_;refine aW 30 rfl (λo=>?_) (λo=>?_);have J:=aX o
 refine aK ?_;exact gy (Sub.cons (aU (λx=>some (Value.bool x)) (by rw[eq_comm,decide_eq_true_iff];omega)) (iK rfl rfl)) (λ_ h=>h);have J:=bd o
 refine bp ?_;exact gy (Sub.cons (aU (λx=>some (Value.bool x)) (by rw[gQ];omega)) (iK rfl rfl)) (λ_ h=>h);have I:=bd f
 refine bp ?_;exact gy (Sub.cons (aU (λx=>some (Value.bool x)) (by rw[eq_comm,e2];omega)) (iK rfl rfl)) (λ_ h=>h);refine ar ?_;refine aj (λr=>?_) (λr=>?_);refine al ?_;refine fz (n - 3) n dL rfl rfl (.inl ⟨_,_,rfl,rfl,aa⟩) (.inr ⟨rfl,rfl⟩) aa aa ?_;have z:=b.cut (p:=n - 3) (q:=n) aa aa
 rw[ev aa] at z
 refine ao rfl Ao rfl (λw' a=>BF w' _ _ _ _ (g.drop (n - 3)) (z.ext a.ext av) aa) ?_;refine aJ ?_;refine ik results396 (cy.eX gA rfl aT rfl rfl) (cy.tmp rfl) (λv i=>?_);refine⟨?_,i.ext⟩;rw[vD,j,ag (λh=>d ⟨by simpa using h.1,aa⟩),aw ⟨by rw[r.1],aa⟩,B];rfl
 refine bp ?_;refine ik results396 (cy.eX gA rfl aT rfl rfl) (cy.tmp rfl) (λv i=>?_);refine⟨?_,i.ext⟩;rw[C d r];rfl
def m6 (gs:List (List Int)) (i:Nat):Nat:=if nV gs (i+1)=5 then 1 else if nV gs (i+1)=2 then 3 else 0
def qm (gs:List (List Int)) (i m:Nat):List Int:=(List.range m).map (λk=>nV gs (i+2+k))
theorem To (gs:List (List Int)) (i k:Nat):qm gs i (k+1)=qm gs i k++[nV gs (i+2+k)]:=by simp[qm,List.range_succ]
theorem Tp (gs:List (List Int)) (i m:Nat): (qm gs i m).length=m:=by simp[qm]
theorem Tq (gs:List (List Int)) (i:Nat):m6 gs i≤3:=by unfold m6;repeat (first | decide | split)
def m7 (gs:List (List Int)) (i:Nat):Option (Int × Int) × Nat:=
 if gs.length≤i+1+m6 gs i then (none,gs.length - 1 - i) else if m6 gs i=0 then (none,1) else (hU (qm gs i (m6 gs i)),1+m6 gs i)
theorem Ia (w:World) (F:Nat→Prop) (A:Option Addr) (n c:Nat) (gs:List (List Int)) (j:d9 w F A n c gs) (l:mY gs) (i:Nat) (hi:i<n):
 Calls prog 397 [.slice A n c,.int .i64 (i:Int)].toArray w (λe w'=>e= .returned (.tuple [ql ((m7 gs i).1.getD (0,0)).1 ((m7 gs i).1.getD (0,0)).2,Value.bool (m7 gs i).1.isSome,Value.int .i64 ((m7 gs i).2 :Int)].toArray)∧Ext [] w w'):=by
 have D:=j.len
 have G:=l.1
 have q:=Tq gs i
 refine aV func397 ntmps397 ?_;refine ah ?_;intro g H I;refine aQ ?_;refine oF ([(7,.int .i64 (m6 gs i:Int)),(0,.slice A n c),(1,.int .i64 (i:Int)),(4,.pointer (some ⟨g,0,none⟩))]) (af w [] [aD g [.int .i64 0,.int .i64 0] 123]) ?_ ?_;refine ay ?_;refine ao rfl Am rfl (λw' a=>BD w' _ _ _ _ gs (j.ext a.ext av) l (i+1) aa) ?_;refine aJ ?_;refine aj (λb=>?_) (λb=>?_);refine aS ?_;rw[m6,aw b];exact gy (cj rfl rfl rfl rfl) (λ_ h=>h);refine al ?_;refine aj (λd=>?_) (λd=>?_);refine aS ?_;rw[m6,ag b,aw d];exact gy (cj rfl rfl rfl rfl) (λ_ h=>h);refine aq ?_;rw[m6,ag b,ag d];exact gy (cj rfl rfl rfl rfl) (λ_ h=>h);generalize o:m6 gs i=m at q
 refine bH ?_;refine aj (λb=>?_) (λb=>?_);refine cF ?_;refine nn results397 (cy.eX gA rfl aT rfl rfl) (cy.tmp rfl) (cy.tmp rfl) (λp f=>?_);refine⟨?_,f.ext⟩;rw[m7,o,aw aa];dsimp only;rw[show ((gs.length - 1 - i:Nat):Int)=(n:Int) - 1 - (i:Int) by omega];rfl
 refine aJ ?_;refine aj (λd=>?_) (λd=>?_);refine aQ ?_;refine nn results397 (cy.eX gA rfl aT rfl rfl) (cy.tmp rfl) (cy.tmp rfl) (λp f=>?_);refine⟨?_,f.ext⟩;rw[m7,o,ag aa,aw aa];rfl
 refine ah ?_;refine jZ 3 1 ?_;refine bx ?_;refine b2 (ι:=Nat × Value) (λt=>[(0,.slice A n c),(1,.int .i64 (i:Int)),(4,.pointer (some ⟨g,0,none⟩)),(7,.int .i64 (m:Int)),(8,t.2),(36,.int .i64 (m:Int)),(37,.int .i64 (t.1 :Int))]) (λt=>af w [] [own 3 1 t.2 t.1 (bT.all (qm gs i t.1)),aD g [.int .i64 0,.int .i64 0] 123]) (λt=>t.1≤m) (λt=>m - t.1) ?_ ?_;exact λw' a=>⟨(0,.slice none 0 0),bP _,(gX rfl rfl rfl rfl rfl rfl rfl),a⟩
 rintro⟨k,u⟩ r;dsimp only at r ⊢
 refine al ?_;refine aj (λs=>?_) (λs=>?_);refine ey ?_;refine ao rfl Am rfl (λw' a=>BD w' _ _ _ _ gs (j.ext a.ext av) l (i+2+k) aa) ?_;refine ar ?_;intro J K L;refine gx dL rfl rfl rfl bj (λ_=>by exact cA) rfl (io rfl) (by simp only[maxLen];omega) aa (λx M=>?_);refine aK ?_;refine bi (k+1,x) bm bm (gX rfl rfl rfl rfl rfl rfl rfl) (λw' a=>?_);dsimp only;rw[To,bA.hn bT];exact a;have y:k=m:=by omega
 subst y;refine hE (v:=u) Has.head (λN O z P Q R S=>?_);subst z;refine aK ?_;refine ao (v:= .tuple (BE (hU (qm gs i k))).toArray) rfl Ao rfl (λw' a=>?_) ?_;obtain⟨T,U,B,C⟩:=Rd.gf (E:=bT) (a.has Has.head) (Tp gs i k);cases B
 exact BF w' _ _ _ _ _ C aa;refine aS ?_;intro V W X;refine dB ?_;refine nn results397 (cy.eX gA rfl cr rfl rfl) (cy.tmp rfl) (cy.tmp rfl) (λp f=>?_);refine⟨?_,f.ext⟩;rw[m7,o,ag aa,ag aa];dsimp only;rw[show ((1+k:Nat):Int)=1+(k:Int) by omega];rfl
theorem Tr {gs:List (List Int)} {i:Nat} (h:i<gs.length):i+(m7 gs i).2+1≤gs.length:=by
 unfold m7;split
 dsimp only;omega
 split
 dsimp only;omega
 dsimp only;omega
end Go.Proofs.YtlgnfdodnhokjaaGreatDoor.Mq.ct
namespace Go.Proofs.YtlgnfdodnhokjaaGreatDoor.Mq
open Go Go.RowKit Go.Proofs
section
section
variable {b:World} {S:List Nat} {cs cs':List Chunk} {w:World}
theorem af.Ts {l0 l1 cs1:List Chunk} {w':World} (h:af b S cs w) (c:bn cs (aR l0) (aR l1) cs1) (a:af w (aB l0) l1 w'):af b S cs1 w':=
 h.ie c a.ext a.all (λk d=>by
  rcases ej k w.heap.size with e | f
  exact .inl (a.ek k d e);exact .inr f) a.nodup
theorem af.kL {l:List Chunk} (h:af b S cs w) (a:Has cs (aR l)):a8 w l:=by
 refine⟨h.has a,?_⟩;obtain⟨x,y,e⟩:=List.append_of_mem a.mem;have c:=h.nodup
 rw[e,iI,fq] at c
 exact (fW.1 (fW.1 c).2.1).1
theorem af.Tt {l:List Chunk} (h:af b S cs w) (a:Has cs (aR l)) {c:Chunk} (d:Has l c):c.pred w:=h.has a c d.mem
end
section
variable {P:Program} {n:Nat} {ops:Array Oper} {Q:cq} {rest:List Oper} {l:Fr} {d:Nat} {ty:TypeId} {pos:String} {a7:Array Edge}
variable {b:World} {S:List Nat} {cs:List Chunk} {ι:Type} {args:List Operand} {db:Array TypeId} {f:FuncId} {vs:List Value} {v:ι→Value} {l0:List Chunk} {ok:ι→Prop}
theorem kM {l' cs1:ι→List Chunk} (c: ∀i,bn cs (aR l0) (aR (l' i)) (cs1 i)) (ak:Nat.blt d n=true) (g:ad P f) (j:cI l args=some vs)
 (k: ∀w,af b S cs w→Calls P f vs.toArray w (aP v l0 l' ok w))
 (h: ∀i,ok i→az P n ops Q rest ((d,v i)::l) (af b S (cs1 i))):
 az P n ops Q (⟨some d,.call ⟨.value (.func f),args.toArray,db⟩,ty,pos,a7,none⟩::rest) l (af b S cs):=by
 refine gT rfl ak g j λw a=>?_
 have:=k w a
 simp only[iA,i8];refine this.mono ?_;rintro e w' ⟨i,hi,rfl,m⟩;exact⟨v i,rfl,(h i hi).at (a.Ts (c i) m)⟩
end
def rz (lo hi:Nat) (Q:World→Prop) (d: ∀w w':World,(∀k,lo≤k→k<hi→w'.heap[k]? = w.heap[k]?)→Q w→Q w'):Chunk where
 ch:=List.range' lo (hi - lo)
 pred w:=(lo<hi→hi≤w.heap.size)∧Q w
 low w h k e:=by
  rw[ot] at e
  have:=h.1 aa
  omega
 loc w w' h ai:=by
  have b: ∀k,lo≤k→k<hi→w'.heap[k]? = w.heap[k]? :=λk c a=>h k (ot.2 ⟨c,aa⟩)
  refine⟨λf=>?_,d w w' b ai.2⟩
  have c:=ai.1 f
  have a:=b (hi - 1) aa aa
  have g:w.heap[hi - 1]? = some (w.heap[hi - 1]'aa):=qF _
  rw[g] at a
  have i:=(lH.1 a).1
  omega
theorem yk (lo hi:Nat) (Q:World→Prop) (a: ∀w w':World,(∀k,lo≤k→k<hi→w'.heap[k]? = w.heap[k]?)→Q w→Q w'): (rz lo hi Q a).ch.Nodup:=List.nodup_range' ..
abbrev au {α:Type} (e:TypeId) (E:bA α) (A:Option Addr) (c:Nat) (L:List α):Chunk:=own e E.sz (.slice A L.length c) L.length (E.all L)
theorem Ib {w:World} {e sz m:Nat} {v:Value} {xs:List Value} (h: (own e sz v m xs).pred w): ∃A c,v= .slice A m c:=wJ h
theorem bn.part {cs X:List Chunk} {c d:Chunk} (h:bn cs c d X): ∃R,List.Perm cs (c::R)∧List.Perm X (d::R):=by
 obtain⟨l,r,rfl,rfl⟩:=h.split;exact⟨l++r,ov,ov⟩
section
variable {P:Program} {n:Nat} {ops:Array Oper} {Q:cq} {rest:List Oper} {l:Fr} {d:Nat} {ty:TypeId} {pos:String} {a7:Array Edge}
variable {b:World} {S:List Nat} {cs:List Chunk}
theorem eC {α:Type} {E:bA α} {x y:Operand} {t e j:Nat} {z:List Value} {A g:Option Addr} {c c1:Nat} {L M:List α} {k:List Chunk} {cs':Option Addr→Nat→List Chunk} (p:c6 P t e E.sz j z) (ak:Nat.blt d n=true)
 (q:ba l x=some (.slice A L.length c)) (r:ba l y=some (.slice g M.length c1)) (s:bw cs (au e E g c1 M) k)
 (m: ∀a c',bn k (au e E A c L) (au e E a c' (L++M)) (cs' a c')) (u:L.length+M.length≤maxLen) (v: (L.length+M.length)*j≤140737488355328)
 (h: ∀a c',az P n ops Q rest ((d,.slice a (L++M).length c')::l) (af b S (cs' a c'))):
 az P n ops Q (⟨some d,.call ⟨.builtin .append,#[x,y],#[t,t]⟩,ty,pos,a7,none⟩::rest) l (af b S cs):=by
 obtain⟨R,dP,_⟩:=(m A c).part;have gk:List.Perm cs (au e E A c L::au e E g c1 M::R):=s.perm.trans ((dP.cons _).trans (List.Perm.swap _ _ _))
 refine gR (H':=af b S (au e E A c L::au e E g c1 M::R)) ?_ (Sub.refl _) (λ_ f=>f.perm gk);refine oH (E:=E) (src:=M) (F:=λ_=>True) (cs':=λi=>own e E.sz i (L.length+M.length) (E.all L++E.all M)::au e E g c1 M::R) p ak q r (λi=>bn.head) (λw f=>?_) u v (λi _=>?_)
 ·obtain⟨dG,c9,B,C⟩:=Rd.gf (E:=E) (show w.ownsRow 0 e E.sz (.slice g M.length c1) M.length (E.all M) from f.has (Has.tail Has.head)) rfl
  injection B with D _ G
  subst D G;exact C.dC (λ_ _=>a1)
 ·intro w f
  obtain⟨a,c',H⟩:=Ib (f.has Has.head);have o:i= .slice a (L++M).length c':=by rw[H,b6]
  obtain⟨I,m8,J⟩:=(m a c').part;have K:List.Perm R I:=(dP.symm.trans m8).cons_inv
  have N:own e E.sz i (L.length+M.length) (E.all L++E.all M)=au e E a c' (L++M):=by
   rw[o];simp only[au,b6,E.all_append]
  rw[N] at f
  rw[o];exact h a c' w ((f.rem (bw.tail bw.head)).perm ((K.cons _).trans J.symm))
end
section
variable {P:Program} {n:Nat} {ops:Array Oper} {Q:cq} {rest:List Oper} {l:Fr} {d:Nat} {ty:TypeId} {pos:String} {a7:Array Edge}
variable {b:World} {S:List Nat} {cs:List Chunk}
theorem af.Tu {α:Type} {E:bA α} {w:World} {cs':List Chunk} {g e:Nat} {a:α} (h:af b S cs w) (c:bn cs (aD g (E.enc a) e) (au e E (some ⟨g,0,none⟩) 1 [a]) cs'):af b S cs' w:=by
 have d:au e E (some ⟨g,0,none⟩) 1 [a]=own e E.sz (.slice (some ⟨g,0,none⟩) 1 1) 1 (E.enc a):=by
  simp[au,bA.all]
 rw[d] at c
 exact h.FF c (by rw[E.len];omega) aZ
theorem dy {α:Type} {E:bA α} {t e j:Nat} {z:List Value} {c:List (Nat × Operand)} {f:List (Nat × Value)} {out:List Value} (a:α) (m:c6 P t e E.sz j z) (ak:Nat.blt d n=true) (o: (Nat.ble (1*E.sz) 16777216 && !(Nat.beq 1 0))=true)
 (p:pG l c=some f) (q:hF (λi=>some (i*E.sz,E.sz)) (ff z 1) f=some out) (r:out=E.enc a)
 (h: ∀g,b.heap.size≤g→(∀k∈aB cs,k<g)→az P n ops Q rest ((d,.slice (some ⟨g,0,none⟩) 1 1)::l) (af b S (au e E (some ⟨g,0,none⟩) 1 [a]::cs))):
 az P n ops Q (⟨some d,.buildSlice t 1 c.toArray,ty,pos,a7,none⟩::rest) l (af b S cs):=by
 subst r;exact zs m ak o p q (λg s u=>gR (h g s u) (Sub.refl _) (λ_ v=>v.Tu bn.head))
end
theorem hv {α:Type} {E:bA α} {w:World} {e:TypeId} {A:Option Addr} {c:Nat} {L:List α} (h: (au e E A c L).pred w):Rd E w (λ_=>True) A L.length c L:=by
 obtain⟨dG,c9,a,b⟩:=Rd.gf (E:=E) (show w.ownsRow 0 e E.sz (.slice A L.length c) L.length (E.all L) from h) rfl;injection a with d _ f
 subst d f;exact b.dC (λ_ _=>a1)
def Tv (k:IntKind) (a b:Int):Int:=k.wrap ((BitVec.ofInt k.bits a ||| BitVec.ofInt k.bits b).toNat:Int)
def Tw (k:IntKind) (a b:Int):Int:=k.wrap ((BitVec.ofInt k.bits a &&& ~~~ BitVec.ofInt k.bits b).toNat:Int)
section
variable {P:Program} {n:Nat} {ops:Array Oper} {Q:cq} {rest:List Oper} {l:Fr} {H:World→Prop} {d:Nat} {ty:TypeId} {pos:String} {a7:Array Edge} {cv dx:TypeId} {x y:Operand} {k aH:IntKind} {a b:Int}
theorem Ic (ak:Nat.blt d n=true) (c:ba l x=some (.int k a)) (e:ba l y=some (.int k b))
 (h: ∀r,az P n ops Q rest ((d,.int k r)::l) H):az P n ops Q (⟨some d,.binOp .and cv x y dx,ty,pos,a7,none⟩::rest) l H:=rb ak c e rfl (h _)
theorem Id (ak:Nat.blt d n=true) (c:ba l x=some (.int k a)) (e:ba l y=some (.int k b))
 (h: ∀r,az P n ops Q rest ((d,.int k r)::l) H):az P n ops Q (⟨some d,.binOp .or cv x y dx,ty,pos,a7,none⟩::rest) l H:=mN ak c e rfl (h _)
theorem BG (ak:Nat.blt d n=true) (c:ba l x=some (.int k a)) (e:ba l y=some (.int k b))
 (h:az P n ops Q rest ((d,.int k (Tv k a b))::l) H):az P n ops Q (⟨some d,.binOp .or cv x y dx,ty,pos,a7,none⟩::rest) l H:=mN ak c e rfl h
theorem BH (ak:Nat.blt d n=true) (c:ba l x=some (.int k a)) (e:ba l y=some (.int k b))
 (h:az P n ops Q rest ((d,.int k (Tw k a b))::l) H):az P n ops Q (⟨some d,.binOp .andNot cv x y dx,ty,pos,a7,none⟩::rest) l H:=uT ak c e rfl h
theorem Tx (ak:Nat.blt d n=true) (c:ba l x=some (.int k a)) (e:ba l y=some (.int k b))
 (h: ∀r,az P n ops Q rest ((d,.int k r)::l) H):az P n ops Q (⟨some d,.binOp .andNot cv x y dx,ty,pos,a7,none⟩::rest) l H:=uT ak c e rfl (h _)
theorem Ie (ak:Nat.blt d n=true) (c:ba l x=some (.int k a)) (e:ba l y=some (.int aH b)) (f:0≤b)
 (h: ∀r,az P n ops Q rest ((d,.int k r)::l) H):az P n ops Q (⟨some d,.binOp .shl cv x y dx,ty,pos,a7,none⟩::rest) l H:=oN ak c e f rfl (h _)
end
section
variable {P:Program} {n:Nat} {ops:Array Oper} {Q:cq} {rest:List Oper} {l:Fr} {d:Nat} {ty:TypeId} {pos:String} {a7:Array Edge}
variable {b:World} {S:List Nat} {cs:List Chunk}
theorem BI {α:Type} {E:bA α} {w:World} {e:TypeId} {A:Option Addr} {c:Nat} {L:List α} (h: (au e E A c L).pred w) (d:0<L.length): ∃g,A=some ⟨g,0,none⟩:=by
 rcases h.2 with ⟨a,f⟩ | ⟨g,cap,am,a,_⟩
 injection a with _ b _;omega
 injection a with b _ _
 exact⟨g,b⟩
theorem af.gJ {α:Type} {E:bA α} {w:World} (h:af b S cs w) {e g c:Nat} {A:Option Addr} {L:List α} (d:Has cs (au e E A c L)) (f:A=some ⟨g,0,none⟩) {k:Nat} {a:α} (i:L[k]? = some a) (j:Nat) (u:Value) (l: (E.enc a)[j]? = some u):
 w.cell? (((⟨g,0,none⟩ :Addr).add (k*E.sz)).add j)=some u:=by
 subst f;exact h.k5 d i j u l
theorem af.If {α:Type} {E:bA α} {w:World} (h:af b S cs w) {e g c:Nat} {A:Option Addr} {L:List α} (d:Has cs (au e E A c L)) (f:A=some ⟨g,0,none⟩) {k:Nat} {a:α} (i:L[k]? = some a) (u:Value) (j: (E.enc a)[0]? = some u):
 w.cell? ((⟨g,0,none⟩ :Addr).add (k*E.sz))=some u:=by
 have:=h.gJ d f i 0 u j
 simpa [Addr.add] using this
theorem jr {α:Type} {E:bA α} {x i:Operand} {t e m:Nat} {z:List Value} {A:Option Addr} {c q:Nat} {L:List α} {k:IntKind} {j:Int} (o:Has cs (au e E A c L)) (p:c6 P t e E.sz m z) (ak:Nat.blt d n=true) (r:ba l x=some (.slice A L.length c)) (hi:ba l i=some (.int k j))
 (s:j=(q:Int)) (u:q<L.length)
 (h: ∀g,A=some ⟨g,0,none⟩→az P n ops Q rest ((d,.pointer (some ((⟨g,0,none⟩ :Addr).add (q*E.sz))))::l) (af b S cs)):az P n ops Q (⟨some d,.indexAddr t x i,ty,pos,a7,none⟩::rest) l (af b S cs):=by
 intro w a;obtain⟨g,f⟩:=BI (a.has o) aa;exact bC p ak r hi f s u (h g f) w a
end
def yl (P:Program) (s i:Nat):Option (TypeId × Nat):=match P.underlying s with
 | some (.struct c8)=>(c8[i]?).map (λf=>(f.type,f.offset))
 | _=>none
theorem Ig {P:Program} {s i off:Nat} {t:TypeId} (h:yl P s i=some (t,off)): ∃c8 f,P.underlying s=some (.struct c8)∧c8[i]? = some f∧f.type=t∧f.offset=off:=by
 unfold yl at h
 split at h
 rename_i c8 b;cases a:c8[i]? with
 | none=>rw[a] at h;cases h
 | some f=>
  rw[a] at h
  simp only[oz,dA,Prod.mk.injEq] at h
  exact⟨c8,f,b,a,h.1,h.2⟩
 cases h
section
variable {P:Program} {n:Nat} {ops:Array Oper} {Q:cq} {rest:List Oper} {l:Fr} {H:World→Prop} {d:Nat} {ty:TypeId} {pos:String} {a7:Array Edge} {x:Operand} {s i off:Nat} {t:TypeId}
theorem Ih {z v:Value} {cs:List Value} (a:yl P s i=some (t,off)) (b:cL P t z) (ak:Nat.blt d n=true) (c:ba l x=some (.agg cs.toArray)) (e:cs[off]? = some v)
 (h:az P n ops Q rest ((d,v)::l) H):az P n ops Q (⟨some d,.field s x i,ty,pos,a7,none⟩::rest) l H:=by
 obtain⟨c8,f,g,j,k,m⟩:=Ig a;obtain⟨u,o,p⟩:=b.fe;refine dd _ ak (λy w q=>?_) h;have r: (Instr.field s (.agg cs.toArray) i).run P w= .ok v w:=by
  simp[Instr.field,asAgg,Result.andThen,run_underlying g,j,k,m,part,pE o,p,e]
 simp[execOp,q x _ c,r]
theorem kd {sz:Nat} {z vs cs:List Value} (b:yl P s i=some (t,off)) (a:cD P t sz z) (ak:Nat.blt d n=true) (c:ba l x=some (.agg cs.toArray)) (e: (cs.drop off).take sz=vs)
 (h:az P n ops Q rest ((d,.agg vs.toArray)::l) H):az P n ops Q (⟨some d,.field s x i,ty,pos,a7,none⟩::rest) l H:=by
 obtain⟨c8,f,g,j,k,m⟩:=Ig b;obtain⟨A,o,p⟩:=a.fe;obtain⟨inf,q,B,r⟩:=a.inf;refine dd _ ak (λC w u=>?_) h;have v:cs.toArray.extract off (off+sz)=vs.toArray:=by
  rw[←e];simp
 have y: (Instr.field s (.agg cs.toArray) i).run P w= .ok (.agg vs.toArray) w:=by
  simp[Instr.field,asAgg,Result.andThen,run_underlying g,j,k,m,part,pE o,p,run_sizeOf q,r,←v]
 simp[execOp,u x _ c,y]
end
def ca {ι:Type} (v:ι→Value) (ok:ι→Prop) (w:World):Ending→World→Prop:=aP v [] (λ_=>[]) ok w
theorem ca.of {ι:Type} {v:ι→Value} {ok:ι→Prop} {w w':World} {x:Value} (i:ι) (hi:ok i) (a:x=v i) (h:Ext [] w w'):ca v ok w (.returned x) w':=⟨i,hi,by rw[a],⟨h,by simp[aB],by simp,by simp[aB]⟩⟩
end
end Go.Proofs.YtlgnfdodnhokjaaGreatDoor.Mq
namespace Go.Proofs.YtlgnfdodnhokjaaGreatDoor.Mq
open Go Go.RowKit
section
def nX (P:Program):Nat→TypeId→List Value→List Value→Bool
 | 0,_,_,_=>false
 | d+1,t,xs,dh=>match P.underlying t with
  | some (.int _)=>match xs,dh with
   | [.int k _],[.int a _]=>decide (k=a)
   | _,_=>false
  | some .bool=>match xs,dh with
   | [.bool _],[.bool _]=>true
   | _,_=>false
  | some (.struct c8)=> !P.stoodInHeld t && pK P (nX P d) c8.toList 0 xs dh
  | some (.array n e)=>(match P.info? e with
   | some i=>Nat.beq i.size 1 && Nat.beq (P.cellsOf e) 1
   | none=>false) && !jB P e && (P.underlying e).isSome && Nat.beq xs.length n && Nat.beq dh.length n && (List.range n).all (λj=>nX P d e ((xs.drop j).take 1) ((dh.drop j).take 1))
  | _=>false
theorem BJ {P:Program}: ∀(d:Nat) (t:TypeId) (xs dh:List Value),nX P d t xs dh=true→
 ∀e,∃b,∀w,(Op.equalIn (d+e) t (ho P t xs) (ho P t dh)).run P w= .ok b w
 | 0,_,_,_,h,_=>by simp[nX] at h
 | d+1,t,xs,dh,h,e=>by
  have g:d+1+e=(d+e)+1:=by omega
  rw[g];unfold nX at h
  split at h
  rename_i k c;split at h
  rename_i U a aH b;have A:U=aH:=by simpa using h
  subst A;exact⟨_,λw=>by simp[ho,jB,c,iJ,run_equalIn_int w _ _ _ _ _ _ c];rfl⟩;cases h
  rename_i c;split at h
  exact⟨_,λw=>by simp[ho,jB,c,iJ,Op.equalIn,run_underlying c];rfl⟩;cases h
  rename_i c8 c;simp only[d4,pz] at h
  obtain⟨V,W⟩:=h;have s: ∀p,ho P t p= .agg p.toArray:=λp=>by simp[ho,jB,c,iJ]
  have N:P.fieldsOf t=c8:=by simp[Program.fieldsOf,c]
  have O:=λw=>run_equalIn_struct (P:=P) w (d+e) t xs.toArray dh.toArray (by rw[N];exact c) V
  rw[N] at O
  have B: ∀(l:List Field) (off:Nat) (us vs:List Value),us=xs.drop off→vs=dh.drop off→pK P (nX P d) l off us vs=true→ ∃b,∀w,(Op.eqFields (d+e) xs.toArray dh.toArray l).run P w= .ok b w:=by
   intro l;induction l with
   | nil=>
    intro off us vs _ _ h;exact⟨true,λw=>by simp[Op.eqFields]⟩
   | cons f l C=>
    intro off us vs D E h;simp only[pK,d4] at h
    obtain⟨⟨⟨⟨⟨⟨m,Q⟩,u⟩,F⟩,G⟩,o⟩,R⟩:=h;have X:f.offset=off:=gd Q
    have H:=gd F
    have I:=gd G
    cases hi:P.info? f.type with
    | none=>rw[hi] at u;cases u.1
    | some i=>
     have S:ku P f.type=i.size:=by simp[ku,hi]
     rw[S] at H I o R
     have Y: ∃q,P.underlying f.type=some q:=by
      cases d with
      | zero=>simp[nX] at o
      | succ d=>
       unfold nX at o
       cases ak:P.underlying f.type with
       | none=>rw[ak] at o;cases o
       | some q=>exact⟨q,rfl⟩
     obtain⟨q,g⟩:=Y;have T:iJ q=true→i.size=1:=λZ=>by
      rw[←S];have r:=u.2
      rw[mx] at r
      rcases r with r | r
      simp[jB,g,Z] at r
      exact gd r
     have dP:=λw=>ss (P:=P) (w:=w) (cs:=xs) (off:=off) g hi T (by rw[←D];exact H)
     have gk:=λw=>ss (P:=P) (w:=w) (cs:=dh) (off:=off) g hi T (by rw[←E];exact I)
     rw[←D] at dP
     rw[←E] at gk
     obtain⟨v,J⟩:=BJ d f.type (us.take i.size) (vs.take i.size) o e;obtain⟨K,L⟩:=C (off+i.size) (us.drop i.size) (vs.drop i.size) (by rw[D,lJ]) (by rw[E,lJ]) R;have Za:f.name≠ "_":=by simpa using m
     refine⟨v && K,λw=>?_⟩;unfold Op.eqFields;rw[aw Za,X];simp only[Sem.run_bind,dP,gk,Result.andThen_ok,J];cases v with
     | true=>simpa using L w
     | false=>simp
  obtain⟨b,M⟩:=B c8.toList 0 xs dh av av W;exact⟨b,λw=>by rw[s,s,O w];exact M w⟩;rename_i n z c;simp only[d4] at h
  obtain⟨⟨⟨⟨⟨m,Q⟩,u⟩,F⟩,G⟩,o⟩:=h;have s: ∀p,ho P t p= .agg p.toArray:=λp=>by simp[ho,jB,c,iJ]
  cases hi:P.info? z with
  | none=>rw[hi] at m;cases m
  | some i=>
   rw[hi] at m
   simp only[d4] at m
   have x:=gd m.1
   have Zb:=gd m.2
   obtain⟨q,g⟩:=Option.isSome_iff_exists.1 u;have H:=gd F
   have I:=gd G
   have B: ∀l:List Nat,(∀j∈l,j<n∧nX P d z ((xs.drop j).take 1) ((dh.drop j).take 1)=true)→ ∃b,∀w,(Op.eqItems (d+e) z 1 xs.toArray dh.toArray l).run P w= .ok b w:=by
    intro l;induction l with
    | nil=>exact λ_=>⟨true,λw=>by simp[Op.eqItems]⟩
    | cons j l C=>
     intro y;obtain⟨Zd,Zc⟩:=y j av;have dP:=λw=>ss (P:=P) (w:=w) (cs:=xs) (off:=j) g hi (λ_=>x) (by rw[x];simp;omega)
     have gk:=λw=>ss (P:=P) (w:=w) (cs:=dh) (off:=j) g hi (λ_=>x) (by rw[x];simp;omega)
     rw[x] at dP gk
     obtain⟨v,J⟩:=BJ d z ((xs.drop j).take 1) ((dh.drop j).take 1) Zc e;obtain⟨K,L⟩:=C (λk A=>y k (by simp[A]));refine⟨v && K,λw=>?_⟩;unfold Op.eqItems;rw[Nat.mul_one];simp only[Sem.run_bind,dP,gk,Result.andThen_ok,J];cases v with
     | true=>simpa using L w
     | false=>simp
   obtain⟨b,M⟩:=B (List.range n) (λj y=>⟨List.mem_range.1 y,i_.1 o j y⟩);exact⟨b,λw=>by rw[s,s,run_equalIn_array (P:=P) (w:=w) (d+e) xs.toArray dh.toArray c hi,Zb];exact M w⟩
  cases h
section
variable {P:Program} {n:Nat} {ops:Array Oper} {Q:cq} {rest:List Oper} {l:Fr} {H:World→Prop} {d:Nat} {ty:TypeId} {pos:String} {a7:Array Edge}
variable {cv dx:TypeId} {x y:Operand} {xs dh:List Value}
theorem Ty {r:Bool} (c:su P cv) (ak:Nat.blt d n=true) (e:ba l x=some (.agg xs.toArray)) (f:ba l y=some (.agg dh.toArray)) (g: ∀w,(Op.equalIn 10000 cv (.agg xs.toArray) (.agg dh.toArray)).run P w= .ok r w)
 (h:az P n ops Q rest ((d,.bool (!r))::l) H):az P n ops Q (⟨some d,.binOp .neq cv x y dx,ty,pos,a7,none⟩::rest) l H:=by
 refine dd _ ak (λj w a=>?_) h;have i:=run_eqGuard_agg (P:=P) w .neq cv x y xs.toArray dh.toArray c.guard
 have b:=run_neq_struct (P:=P) w cv xs.toArray dh.toArray
 rw[g w] at b
 simp only[execOp,a x _ e,a y _ f];simp only[Sem.run_bind,i,Result.andThen_ok,b,Sem.run_pure]
end
end
end Go.Proofs.YtlgnfdodnhokjaaGreatDoor.Mq
namespace Go.Proofs.YtlgnfdodnhokjaaGreatDoor.Mq
open Go Go.RowKit Go.Proofs
def Av (c:Int):Int:=if c=237 then 159 else if c=244 then 143 else 191
structure ga where
 pre:Int
 head:List UInt8
 inter:List UInt8
 text:List UInt8
 last:Int
 ke:Bool
 cut:Bool
def nY:ga:=⟨0,[],[],[],0,false,false⟩
def BK:ga:=⟨0,[],[],[],0,true,false⟩
def ym (h:ga) (c:UInt8):ga:=
 if h.inter.length=2 then BK else if h.ke=true then h else { h with inter:=h.inter++[c] }
end Go.Proofs.YtlgnfdodnhokjaaGreatDoor.Mq
