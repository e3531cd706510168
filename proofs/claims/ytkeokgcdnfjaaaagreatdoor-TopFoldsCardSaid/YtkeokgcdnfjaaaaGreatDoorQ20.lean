/- part 20 of the proof -/
import Derived.Test.YtkeokgcdnfjaaaaGreatDoorQ19
import Derived.ChangeKeysEq
namespace Go.Proofs.YtkeokgcdnfjaaaaGreatDoor.Mq.cr
open Go Go.RowKit Go.Proofs Tryz
def mK (v:Int):Nat:=if v=1 then 1 else if v=2 then 2 else if v=3 then 4 else if v=5∨v=6 then 16 else if v=7 then 32 else if v=8 then 64 else if v=9 then 128 else if v=53 then 512 else 0
theorem Hl (w:World) (v:Int):Calls prog 423 [.int .i64 v].toArray w (λe w'=>e= .returned (.int .i64 (mK v:Int))∧Ext [] w w'):=by
 refine aW func423 ntmps423 ?_;refine eT ?_;refine aj (λd=>?_) (λd=>?_);refine aJ ?_;intro b a;exact⟨by rw[mK,ax (show _ by omega)];rfl,a.ext⟩;refine al ?_;refine aj (λf=>?_) (λf=>?_);refine aJ ?_;intro b a;exact⟨by rw[mK,ag (show ¬_ by omega),ax (show _ by omega)];rfl,a.ext⟩;refine al ?_;refine aj (λg=>?_) (λg=>?_);refine aJ ?_;intro b a;exact⟨by rw[mK,ag (show ¬_ by omega),ag (show ¬_ by omega),ax (show _ by omega)];rfl,a.ext⟩;refine aC ?_;refine aj (λc=>?_) (λc=>?_);refine ar ?_;refine ev rfl ((b1 c)) ?_;refine aJ ?_;intro b a;exact⟨by rw[mK,ag (show ¬_ by omega),ag (show ¬_ by omega),ag (show ¬_ by omega),ax (show _ by omega)];rfl,a.ext⟩;refine ay ?_;refine aj (λh=>?_) (λh=>?_);refine aJ ?_;intro b a;exact⟨by rw[mK,ag (show ¬_ by omega),ag (show ¬_ by omega),ag (show ¬_ by omega),ax (show _ by omega)];rfl,a.ext⟩;refine al ?_;refine aj (λi=>?_) (λi=>?_);refine aJ ?_;intro b a;exact⟨by rw[mK,ag (show ¬_ by omega),ag (show ¬_ by omega),ag (show ¬_ by omega),ag (show ¬_ by omega),ax (show _ by omega)];rfl,a.ext⟩;refine al ?_;refine aj (λj=>?_) (λj=>?_);refine aJ ?_;intro b a;exact⟨by rw[mK,ag (show ¬_ by omega),ag (show ¬_ by omega),ag (show ¬_ by omega),ag (show ¬_ by omega),ag (show ¬_ by omega),ax (show _ by omega)];rfl,a.ext⟩;refine al ?_;refine aj (λk=>?_) (λk=>?_);refine aJ ?_;intro b a;exact⟨by rw[mK,ag (show ¬_ by omega),ag (show ¬_ by omega),ag (show ¬_ by omega),ag (show ¬_ by omega),ag (show ¬_ by omega),ag (show ¬_ by omega),ax (show _ by omega)];rfl,a.ext⟩;refine al ?_;refine aj (λl=>?_) (λl=>?_);refine aJ ?_;intro b a;exact⟨by rw[mK,ag (show ¬_ by omega),ag (show ¬_ by omega),ag (show ¬_ by omega),ag (show ¬_ by omega),ag (show ¬_ by omega),ag (show ¬_ by omega),ag (show ¬_ by omega),ax (show _ by omega)];rfl,a.ext⟩;refine aR ?_;intro b a;exact⟨by rw[mK,ag (show ¬_ by omega),ag (show ¬_ by omega),ag (show ¬_ by omega),ag (show ¬_ by omega),ag (show ¬_ by omega),ag (show ¬_ by omega),ag (show ¬_ by omega),ag (show ¬_ by omega)];rfl,a.ext⟩
def nF (v:Int):Nat:=if v=22 then 3 else if v=23 then 4 else if v=24 then 264 else if v=25 then 16 else if v=27 then 32 else if v=28 then 64 else if v=29 then 128 else if v=55 then 512 else 0
theorem Hm (w:World) (v:Int):Calls prog 424 [.int .i64 v].toArray w (λe w'=>e= .returned (.int .i64 (nF v:Int))∧Ext [] w w'):=by
 refine aW func424 ntmps424 ?_;refine eT ?_;refine aj (λc=>?_) (λc=>?_);refine aJ ?_;intro b a;exact⟨by rw[nF,ax (show _ by omega)];rfl,a.ext⟩;refine al ?_;refine aj (λd=>?_) (λd=>?_);refine aJ ?_;intro b a;exact⟨by rw[nF,ag (show ¬_ by omega),ax (show _ by omega)];rfl,a.ext⟩;refine al ?_;refine aj (λf=>?_) (λf=>?_);refine aJ ?_;intro b a;exact⟨by rw[nF,ag (show ¬_ by omega),ag (show ¬_ by omega),ax (show _ by omega)];rfl,a.ext⟩;refine al ?_;refine aj (λg=>?_) (λg=>?_);refine aJ ?_;intro b a;exact⟨by rw[nF,ag (show ¬_ by omega),ag (show ¬_ by omega),ag (show ¬_ by omega),ax (show _ by omega)];rfl,a.ext⟩;refine al ?_;refine aj (λh=>?_) (λh=>?_);refine aJ ?_;intro b a;exact⟨by rw[nF,ag (show ¬_ by omega),ag (show ¬_ by omega),ag (show ¬_ by omega),ag (show ¬_ by omega),ax (show _ by omega)];rfl,a.ext⟩;refine al ?_;refine aj (λi=>?_) (λi=>?_);refine aJ ?_;intro b a;exact⟨by rw[nF,ag (show ¬_ by omega),ag (show ¬_ by omega),ag (show ¬_ by omega),ag (show ¬_ by omega),ag (show ¬_ by omega),ax (show _ by omega)];rfl,a.ext⟩;refine al ?_;refine aj (λj=>?_) (λj=>?_);refine aJ ?_;intro b a;exact⟨by rw[nF,ag (show ¬_ by omega),ag (show ¬_ by omega),ag (show ¬_ by omega),ag (show ¬_ by omega),ag (show ¬_ by omega),ag (show ¬_ by omega),ax (show _ by omega)];rfl,a.ext⟩;refine al ?_;refine aj (λk=>?_) (λk=>?_);refine aJ ?_;intro b a;exact⟨by rw[nF,ag (show ¬_ by omega),ag (show ¬_ by omega),ag (show ¬_ by omega),ag (show ¬_ by omega),ag (show ¬_ by omega),ag (show ¬_ by omega),ag (show ¬_ by omega),ax (show _ by omega)];rfl,a.ext⟩;refine aR ?_;intro b a;exact⟨by rw[nF,ag (show ¬_ by omega),ag (show ¬_ by omega),ag (show ¬_ by omega),ag (show ¬_ by omega),ag (show ¬_ by omega),ag (show ¬_ by omega),ag (show ¬_ by omega),ag (show ¬_ by omega)];rfl,a.ext⟩
def vd (g:List Int):Nat:=if g[1]? = some 0 then 0 else if g[1]? = some 2 then 256 else 8
theorem Sn (w:World) (F:Nat→Prop) (A:Option Addr) (n c:Nat) (g:List Int) (m:Rd bS w F A n c g) (s:n≤1000000):
 Calls prog 393 [.slice A n c].toArray w (λe w'=>e= .returned (.int .i64 (vd g:Int))∧Ext [] w w'):=by
 have t:=m.len
 refine aW func393 ntmps393 ?_;refine bH ?_;refine aV 7 rfl (λh=>?_) (λh=>?_);have r:=aY h
 obtain⟨x,d⟩ : ∃x,g[1]? = some x:=⟨g[1]'aa,bE _⟩;obtain⟨u,o,_,p⟩:=m.at_ d;refine ah ?_;refine bD (q:=1) dJ rfl rfl rfl o aa aa ?_;refine aq ?_;refine ba bM rfl rfl (λw' i=>i.ct (p 0 _ rfl) (by simp[aB])) ?_;refine al ?_;refine aj (λf=>?_) (λf=>?_);refine aJ ?_;intro j a;exact⟨by rw[vd,d,ax (by rw[f])];rfl,a.ext⟩;refine al ?_;refine aV 17 rfl (λb=>?_) (λb=>?_);have k:=aY b
 refine ah ?_;refine bD (q:=1) dJ rfl rfl rfl o aa aa ?_;refine aq ?_;refine ba bM rfl rfl (λw' i=>i.ct (p 0 _ rfl) (by simp[aB])) ?_;refine al ?_;refine aj (λl=>?_) (λl=>?_);refine aJ ?_;intro j a;exact⟨by rw[vd,d,ag (by simpa using f),ax (by rw[l])];rfl,a.ext⟩;refine aR ?_;intro j a;exact⟨by rw[vd,d,ag (by simpa using f),ag (by simpa using l)];rfl,a.ext⟩;have k:=a8 b
 omega
 have r:=a8 h
 have d:g[1]? = none:=kg aa
 refine cE ?_;refine aV 17 rfl (λb=>?_) (λb=>?_);have k:=aY b
 omega
 have k:=a8 b
 refine eG ?_;intro j a;exact⟨by rw[vd,d,ag av,ag av];rfl,a.ext⟩
def oW (v low high:Int):Value:=if low≤v∧v<low+8 then .tuple #[p_ 1 (v - low),.bool true] else if high≤v∧v<high+8 then .tuple #[p_ 1 (v - high+8),.bool true] else .tuple #[p_ 0 0,.bool (decide (v=low+9))]
theorem So (w:World) (v low high:Int) (j:0≤v∧v≤65535) (k:0≤low∧low≤1000) (l:0≤high∧high≤1000):
 Calls prog 425 [.int .i64 v,.int .i64 low,.int .i64 high].toArray w (λe w'=>e= .returned (oW v low high)∧Ext [] w w'):=by
 refine aW func425 ntmps425 ?_;refine ah ?_;intro m n o;refine bo ?_;refine aV 12 rfl (λd=>?_) (λd=>?_);have h:=aY d
 refine bw ?_;refine aj (λi=>?_) (λi=>?_);refine bH ?_;refine h_ results425 (cx.eR gq rfl aQ rfl rfl) (cx.tmp rfl) (λc a=>?_);exact⟨by rw[oW,ax aa];rfl,a.ext⟩;refine al ?_;refine aV 26 rfl (λb=>?_) (λb=>?_);have f:=aY b
 refine bw ?_;refine aj (λg=>?_) (λg=>?_);refine b5 ?_;refine h_ results425 (cx.eR gq rfl aQ rfl rfl) (cx.tmp rfl) (λc a=>?_);exact⟨by rw[oW,ag aa,ax aa];rfl,a.ext⟩;refine cE ?_;refine h_ results425 (cx.eR gq rfl aQ rfl rfl) (cx.tmp rfl) (λc a=>?_);exact⟨by rw[oW,ag aa,ag aa];rfl,a.ext⟩;have f:=a8 b
 refine jc ?_;refine h_ results425 (cx.eR gq rfl aQ rfl rfl) (cx.tmp rfl) (λc a=>?_);exact⟨by rw[oW,ag aa,ag aa];rfl,a.ext⟩;have h:=a8 d
 refine cE ?_;refine aV 26 rfl (λb=>?_) (λb=>?_);have f:=aY b
 refine bw ?_;refine aj (λg=>?_) (λg=>?_);refine b5 ?_;refine h_ results425 (cx.eR gq rfl aQ rfl rfl) (cx.tmp rfl) (λc a=>?_);exact⟨by rw[oW,ag aa,ax aa];rfl,a.ext⟩;refine cE ?_;refine h_ results425 (cx.eR gq rfl aQ rfl rfl) (cx.tmp rfl) (λc a=>?_);exact⟨by rw[oW,ag aa,ag aa];rfl,a.ext⟩;have f:=a8 b
 refine jc ?_;refine h_ results425 (cx.eR gq rfl aQ rfl rfl) (cx.tmp rfl) (λc a=>?_);exact⟨by rw[oW,ag aa,ag aa];rfl,a.ext⟩
def mL (L:List Int):Nat:=L.foldl (λn x=>n*256+(max 0 x).toNat) 0
def hJ (L:List Int):Option (Int × Int):=if ∀x∈L,x≤255 then some (if L.length=1 then 1 else 2,(mL L:Int)) else none
abbrev Bh (o:Option (Int × Int)):List Value:=[p_ (o.getD (0,0)).1 (o.getD (0,0)).2,.bool o.isSome]
theorem Sp (L:List Int) (x:Int):mL (L++[x])=mL L*256+(max 0 x).toNat:=by simp[mL]
theorem Sq {a b:Nat} (c:b<256):a*256 ||| b=a*256+b:=by
 have:=Nat.two_pow_add_eq_or_of_lt (i:=8) (a:=a) (b:=b) c
 rw[show (2 :Nat) ^ 8=256 by rfl,qC] at this
 exact this.symm
theorem Bi (w:World) (F:Nat→Prop) (A:Option Addr) (n c:Nat) (L:List Int) (j:Rd bS w F A n c L) (B:n≤3):
 Calls prog 422 [.slice A n c].toArray w (λe w'=>e= .returned (.tuple (Bh (hJ L)).toArray)∧Ext [] w w'):=by
 have C:=j.len
 refine aW func422 ntmps422 ?_;refine ah ?_;intro l D E;refine ef ?_;refine b3 (ι:=Nat) (λk=>[(0,.slice A n c),(2,.pointer (some ⟨l,0,none⟩)),(4,.int .i64 (mL (L.take k):Int)),(7,.slice A n c),(8,.int .i64 (n:Int)),(9,.int .i64 (k:Int))]) (λ_=>af w [] [aD l [.int .i64 0,.int .i64 0] 99]) (λk=>k≤n∧(∀x∈L.take k,x≤255)∧mL (L.take k)<256 ^ k) (λk=>n - k) ?_ ?_;exact λw a=>⟨0,⟨bN _,by simp,by simp[mL]⟩,(hg rfl rfl rfl rfl rfl rfl),a⟩
 rintro k ⟨G,b,o⟩;refine al ?_;refine aj (λu=>?_) (λu=>?_);obtain⟨x,d⟩ : ∃x,L[k]? = some x:=⟨L[k]'aa,bE _⟩;obtain⟨H,I,_,v⟩:=j.at_ d;have p:=kr d
 refine al ?_;refine bD (q:=k) dJ rfl rfl rfl bz aa aa ?_;refine ba bM rfl rfl (λw' f=>f.ct (v 0 _ rfl) (by simp[aB])) ?_;refine aR ?_;refine aj (λg=>?_) (λg=>?_);refine b5 ?_;refine h_ results422 (cx.eR gq rfl aQ rfl rfl) (cx.tmp rfl) (λs a=>?_);refine⟨?_,a.ext⟩;rw[hJ,ag (λh=>absurd (h x (c8 d)) aa)];rfl
 have J:mL (L.take k)<65536:=by
  have:k≤2:=by omega
  refine pk o ?_;exact fp (qD a1 this) a1
 have z: (max 0 x).toNat<256:=by omega
 have i:=Sp (L.take k) x
 rw[←p] at i
 refine aS ?_;refine ox (r:=((mL (L.take k)*256 :Nat):Int)) rfl rfl rfl a1 (by rw[show min (8 :Int).toNat IntKind.i64.bits=8 by rfl,show (2 :Int) ^ 8=256 by rfl,s9 aa aa];omega) ?_;refine ar ?_;refine mz (r:=(mL (L.take (k+1)):Int)) rfl rfl rfl (or_eq (m:=mL (L.take k)*256) (n:=(max 0 x).toNat) rfl aa (show _<18446744073709551616 by omega) (show _<18446744073709551616 by omega) (by rw[Sq z,i,s9 aa aa])) ?_;refine aK ?_;refine bg (k+1) ⟨aa,λy t=>?_,?_⟩ aa (hg rfl rfl rfl rfl rfl rfl) (λw' f=>f);rw[p] at t
 rcases cX.1 t with h | h
 exact b y h;rw[eL.1 h];omega
 rw[i,Nat.pow_succ];omega
 have e:L.take k=L:=eu aa
 rw[e] at b o ⊢
 refine bH ?_;refine aj (λg=>?_) (λg=>?_);refine aR ?_;refine h_ results422 (cx.eR gq rfl aQ rfl rfl) (cx.tmp rfl) (λs a=>?_);refine⟨?_,a.ext⟩;rw[hJ,ax b,ax aa];rfl
 refine bo ?_;refine h_ results422 (cx.eR gq rfl aQ rfl rfl) (cx.tmp rfl) (λs a=>?_);refine⟨?_,a.ext⟩;rw[hJ,ax b,ag aa];rfl
def ve (g:List Int):Option (Int × Int):=if g[1]? = some 5∧g.length=3 then hJ (g.drop 2) else if g[1]? = some 2∧(g.length=5∨g.length=6) then hJ (g.drop (g.length - 3)) else none
theorem Hn (w:World) (F:Nat→Prop) (A:Option Addr) (n c:Nat) (g:List Int) (b:Rd bS w F A n c g) (K:n≤1000000) (L:2≤n):
 Calls prog 394 [.slice A n c].toArray w (λe w'=>e= .returned (.tuple (Bh (ve g)).toArray)∧Ext [] w w'):=by
 have B:=b.len
 obtain⟨x,j⟩ : ∃x,g[1]? = some x:=⟨g[1]'aa,bE _⟩;obtain⟨M,s,_,t⟩:=b.at_ j;have C: (¬(x=5∧n=3))→(¬(x=2∧(n=5∨n=6)))→ve g=none:=λd f=>by
  rw[ve,j,ag (λh=>d ⟨by simpa using h.1,aa⟩),ag (λh=>f ⟨by simpa using h.1,aa⟩)]
 have N:=b.cap
 have O:=b.max
 refine aW func394 ntmps394 ?_;refine ah ?_;intro l P Q;refine al ?_;refine oi ([(4,.bool (decide (x=5∧n=3))),(0,.slice A n c),(2,.pointer (some ⟨l,0,none⟩))]) (af w [] [aD l [.int .i64 0,.int .i64 0] 99]) ?_ ?_;refine ar ?_;refine bD (q:=1) dJ rfl rfl rfl s aa aa ?_;refine ba bM rfl rfl (λw' a=>a.ct (t 0 _ rfl) (by simp[aB])) ?_;refine ar ?_;refine aV 9 rfl (λm=>?_) (λm=>?_);have D:=aY m
 refine aJ ?_;exact gn (Sub.cons (aX (λx=>some (Value.bool x)) (by rw[gG];omega)) (iA rfl rfl)) (λ_ h=>h);have D:=a8 m
 refine al ?_;exact gn (Sub.cons (aX (λx=>some (Value.bool x)) (by rw[eq_comm,e2];omega)) (iA rfl rfl)) (λ_ h=>h);refine aq ?_;refine aj (λd=>?_) (λd=>?_);obtain⟨y,u⟩ : ∃y,g[2]? = some y:=⟨g[2]'aa,bE _⟩;obtain⟨R,G,_,H⟩:=b.at_ u;have ak:g.drop 2=[y]:=by
  refine ml λk=>?_
  rw[mm];cases k with
  | zero=>simpa using u
  | succ k=>rw[kg aa];simp
 refine ah ?_;refine bD (q:=2) dJ rfl rfl rfl G aa aa ?_;refine ba bM rfl rfl (λw' a=>a.ct (H 0 _ rfl) (by simp[aB])) ?_;refine aq ?_;intro S T U;refine ao rfl zZ rfl (λw' a=>Bi w' _ _ _ _ [y] (Rd.hf (E:=bS) a Has.head rfl a1) a1) ?_;refine aJ ?_;refine h_ results394 (cx.eR gq rfl bF rfl rfl) (cx.tmp rfl) (λv i=>?_);refine⟨?_,i.ext⟩;rw[ve,j,ax ⟨by rw[d.1],aa⟩,ak];rfl
 refine aq ?_;refine oi ([(21,.bool (decide (x=2∧(n=5∨n=6)))),(0,.slice A n c),(2,.pointer (some ⟨l,0,none⟩))]) (af w [] [aD l [.int .i64 0,.int .i64 0] 99]) ?_ ?_;refine ar ?_;refine bD (q:=1) dJ rfl rfl rfl s aa aa ?_;refine ba bM rfl rfl (λw' a=>a.ct (t 0 _ rfl) (by simp[aB])) ?_;refine ar ?_;refine aV 26 rfl (λf=>?_) (λf=>?_);have I:=aY f
 refine aK ?_;refine aV 30 rfl (λo=>?_) (λo=>?_);have J:=aY o
 refine aK ?_;exact gn (Sub.cons (aX (λx=>some (Value.bool x)) (by rw[eq_comm,decide_eq_true_iff];omega)) (iA rfl rfl)) (λ_ h=>h);have J:=a8 o
 refine bo ?_;exact gn (Sub.cons (aX (λx=>some (Value.bool x)) (by rw[gG];omega)) (iA rfl rfl)) (λ_ h=>h);have I:=a8 f
 refine bo ?_;exact gn (Sub.cons (aX (λx=>some (Value.bool x)) (by rw[eq_comm,e2];omega)) (iA rfl rfl)) (λ_ h=>h);refine aq ?_;refine aj (λr=>?_) (λr=>?_);refine al ?_;refine fh (n - 3) n dJ rfl rfl (.inl ⟨_,_,rfl,rfl,aa⟩) (.inr ⟨rfl,rfl⟩) aa aa ?_;have z:=b.cut (p:=n - 3) (q:=n) aa aa
 rw[eu aa] at z
 refine ao rfl zZ rfl (λw' a=>Bi w' _ _ _ _ (g.drop (n - 3)) (z.ext a.ext av) aa) ?_;refine aJ ?_;refine h_ results394 (cx.eR gq rfl aQ rfl rfl) (cx.tmp rfl) (λv i=>?_);refine⟨?_,i.ext⟩;rw[ve,j,ag (λh=>d ⟨by simpa using h.1,aa⟩),ax ⟨by rw[r.1],aa⟩,B];rfl
 refine bo ?_;refine h_ results394 (cx.eR gq rfl aQ rfl rfl) (cx.tmp rfl) (λv i=>?_);refine⟨?_,i.ext⟩;rw[C d r];rfl
def mM (gs:List (List Int)) (i:Nat):Nat:=if nE gs (i+1)=5 then 1 else if nE gs (i+1)=2 then 3 else 0
def qa (gs:List (List Int)) (i m:Nat):List Int:=(List.range m).map (λk=>nE gs (i+2+k))
theorem Sr (gs:List (List Int)) (i k:Nat):qa gs i (k+1)=qa gs i k++[nE gs (i+2+k)]:=by simp[qa,List.range_succ]
theorem Ss (gs:List (List Int)) (i m:Nat): (qa gs i m).length=m:=by simp[qa]
theorem St (gs:List (List Int)) (i:Nat):mM gs i≤3:=by unfold mM;repeat (first | decide | split)
def mN (gs:List (List Int)) (i:Nat):Option (Int × Int) × Nat:=
 if gs.length≤i+1+mM gs i then (none,gs.length - 1 - i) else if mM gs i=0 then (none,1) else (hJ (qa gs i (mM gs i)),1+mM gs i)
theorem Ho (w:World) (F:Nat→Prop) (A:Option Addr) (n c:Nat) (gs:List (List Int)) (j:d8 w F A n c gs) (l:mJ gs) (i:Nat) (hi:i<n):
 Calls prog 395 [.slice A n c,.int .i64 (i:Int)].toArray w (λe w'=>e= .returned (.tuple [p_ ((mN gs i).1.getD (0,0)).1 ((mN gs i).1.getD (0,0)).2,Value.bool (mN gs i).1.isSome,Value.int .i64 ((mN gs i).2 :Int)].toArray)∧Ext [] w w'):=by
 have D:=j.len
 have G:=l.1
 have q:=St gs i
 refine aW func395 ntmps395 ?_;refine ah ?_;intro g H I;refine aR ?_;refine oi ([(7,.int .i64 (mM gs i:Int)),(0,.slice A n c),(1,.int .i64 (i:Int)),(4,.pointer (some ⟨g,0,none⟩))]) (af w [] [aD g [.int .i64 0,.int .i64 0] 99]) ?_ ?_;refine ay ?_;refine ao rfl zX rfl (λw' a=>Bg w' _ _ _ _ gs (j.ext a.ext av) l (i+1) aa) ?_;refine aJ ?_;refine aj (λb=>?_) (λb=>?_);refine aS ?_;rw[mM,ax b];exact gn (cu rfl rfl rfl rfl) (λ_ h=>h);refine al ?_;refine aj (λd=>?_) (λd=>?_);refine aS ?_;rw[mM,ag b,ax d];exact gn (cu rfl rfl rfl rfl) (λ_ h=>h);refine ar ?_;rw[mM,ag b,ag d];exact gn (cu rfl rfl rfl rfl) (λ_ h=>h);generalize o:mM gs i=m at q
 refine bH ?_;refine aj (λb=>?_) (λb=>?_);refine cE ?_;refine m7 results395 (cx.eR gq rfl aQ rfl rfl) (cx.tmp rfl) (cx.tmp rfl) (λp f=>?_);refine⟨?_,f.ext⟩;rw[mN,o,ax aa];dsimp only;rw[show ((gs.length - 1 - i:Nat):Int)=(n:Int) - 1 - (i:Int) by omega];rfl
 refine aJ ?_;refine aj (λd=>?_) (λd=>?_);refine aR ?_;refine m7 results395 (cx.eR gq rfl aQ rfl rfl) (cx.tmp rfl) (cx.tmp rfl) (λp f=>?_);refine⟨?_,f.ext⟩;rw[mN,o,ag aa,ax aa];rfl
 refine ah ?_;refine jM 3 1 ?_;refine bw ?_;refine b3 (ι:=Nat × Value) (λt=>[(0,.slice A n c),(1,.int .i64 (i:Int)),(4,.pointer (some ⟨g,0,none⟩)),(7,.int .i64 (m:Int)),(8,t.2),(36,.int .i64 (m:Int)),(37,.int .i64 (t.1 :Int))]) (λt=>af w [] [own 3 1 t.2 t.1 (bS.all (qa gs i t.1)),aD g [.int .i64 0,.int .i64 0] 99]) (λt=>t.1≤m) (λt=>m - t.1) ?_ ?_;exact λw' a=>⟨(0,.slice none 0 0),bN _,(hE rfl rfl rfl rfl rfl rfl rfl),a⟩
 rintro⟨k,u⟩ r;dsimp only at r ⊢
 refine al ?_;refine aj (λs=>?_) (λs=>?_);refine ef ?_;refine ao rfl zX rfl (λw' a=>Bg w' _ _ _ _ gs (j.ext a.ext av) l (i+2+k) aa) ?_;refine aq ?_;intro J K L;refine gm dJ rfl rfl rfl bi (λ_=>by exact cz) rfl (ic rfl) (by simp only[maxLen];omega) aa (λx M=>?_);refine aK ?_;refine bg (k+1,x) bm bm (hE rfl rfl rfl rfl rfl rfl rfl) (λw' a=>?_);dsimp only;rw[Sr,bA.hc bS];exact a;have y:k=m:=by omega
 subst y;refine hv (v:=u) Has.head (λN O z P Q R S=>?_);subst z;refine aK ?_;refine ao (v:= .tuple (Bh (hJ (qa gs i k))).toArray) rfl zZ rfl (λw' a=>?_) ?_;obtain⟨T,U,B,C⟩:=Rd.fX (E:=bS) (a.has Has.head) (Ss gs i k);cases B
 exact Bi w' _ _ _ _ _ C aa;refine aS ?_;intro V W X;refine dB ?_;refine m7 results395 (cx.eR gq rfl cp rfl rfl) (cx.tmp rfl) (cx.tmp rfl) (λp f=>?_);refine⟨?_,f.ext⟩;rw[mN,o,ag aa,ag aa];dsimp only;rw[show ((1+k:Nat):Int)=1+(k:Int) by omega];rfl
theorem Su {gs:List (List Int)} {i:Nat} (h:i<gs.length):i+(mN gs i).2+1≤gs.length:=by
 unfold mN;split
 dsimp only;omega
 split
 dsimp only;omega
 dsimp only;omega
end Go.Proofs.YtkeokgcdnfjaaaaGreatDoor.Mq.cr
namespace Go.Proofs.YtkeokgcdnfjaaaaGreatDoor.Mq
open Go Go.RowKit Go.Proofs
section
section
variable {b:World} {S:List Nat} {cs cs':List Chunk} {w:World}
theorem af.Sv {l0 l1 cs1:List Chunk} {w':World} (h:af b S cs w) (c:bn cs (aT l0) (aT l1) cs1) (a:af w (aB l0) l1 w'):af b S cs1 w':=
 h.hV c a.ext a.all (λk d=>by
  rcases e1 k w.heap.size with e | f
  exact .inl (a.ee k d e);exact .inr f) a.nodup
theorem af.kA {l:List Chunk} (h:af b S cs w) (a:Has cs (aT l)):bb w l:=by
 refine⟨h.has a,?_⟩;obtain⟨x,y,e⟩:=List.append_of_mem a.mem;have c:=h.nodup
 rw[e,ix,ff] at c
 exact (fK.1 (fK.1 c).2.1).1
theorem af.Sw {l:List Chunk} (h:af b S cs w) (a:Has cs (aT l)) {c:Chunk} (d:Has l c):c.pred w:=h.has a c d.mem
end
section
variable {P:Program} {n:Nat} {ops:Array Oper} {Q:cl} {rest:List Oper} {l:Fr} {d:Nat} {ty:TypeId} {pos:String} {a6:Array Edge}
variable {b:World} {S:List Nat} {cs:List Chunk} {ι:Type} {args:List Operand} {c_:Array TypeId} {f:FuncId} {vs:List Value} {v:ι→Value} {l0:List Chunk} {ok:ι→Prop}
theorem kB {l' cs1:ι→List Chunk} (c: ∀i,bn cs (aT l0) (aT (l' i)) (cs1 i)) (ak:Nat.blt d n=true) (g:ad P f) (j:cH l args=some vs)
 (k: ∀w,af b S cs w→Calls P f vs.toArray w (aP v l0 l' ok w))
 (h: ∀i,ok i→az P n ops Q rest ((d,v i)::l) (af b S (cs1 i))):
 az P n ops Q (⟨some d,.call ⟨.value (.func f),args.toArray,c_⟩,ty,pos,a6,none⟩::rest) l (af b S cs):=by
 refine gJ rfl ak g j λw a=>?_
 have:=k w a
 simp only[ir,iP];refine this.mono ?_;rintro e w' ⟨i,hi,rfl,m⟩;exact⟨v i,rfl,(h i hi).at (a.Sv (c i) m)⟩
end
def rg (lo hi:Nat) (Q:World→Prop) (d: ∀w w':World,(∀k,lo≤k→k<hi→w'.heap[k]? = w.heap[k]?)→Q w→Q w'):Chunk where
 ce:=List.range' lo (hi - lo)
 pred w:=(lo<hi→hi≤w.heap.size)∧Q w
 low w h k e:=by
  rw[n8] at e
  have:=h.1 aa
  omega
 loc w w' h ai:=by
  have b: ∀k,lo≤k→k<hi→w'.heap[k]? = w.heap[k]? :=λk c a=>h k (n8.2 ⟨c,aa⟩)
  refine⟨λf=>?_,d w w' b ai.2⟩
  have c:=ai.1 f
  have a:=b (hi - 1) aa aa
  have g:w.heap[hi - 1]? = some (w.heap[hi - 1]'aa):=qq _
  rw[g] at a
  have i:=(lz.1 a).1
  omega
theorem xX (lo hi:Nat) (Q:World→Prop) (a: ∀w w':World,(∀k,lo≤k→k<hi→w'.heap[k]? = w.heap[k]?)→Q w→Q w'): (rg lo hi Q a).ce.Nodup:=List.nodup_range' ..
abbrev au {α:Type} (e:TypeId) (E:bA α) (A:Option Addr) (c:Nat) (L:List α):Chunk:=own e E.sz (.slice A L.length c) L.length (E.all L)
theorem Hp {w:World} {e sz m:Nat} {v:Value} {xs:List Value} (h: (own e sz v m xs).pred w): ∃A c,v= .slice A m c:=wi h
theorem bn.part {cs X:List Chunk} {c d:Chunk} (h:bn cs c d X): ∃R,List.Perm cs (c::R)∧List.Perm X (d::R):=by
 obtain⟨l,r,rfl,rfl⟩:=h.split;exact⟨l++r,n_,n_⟩
section
variable {P:Program} {n:Nat} {ops:Array Oper} {Q:cl} {rest:List Oper} {l:Fr} {d:Nat} {ty:TypeId} {pos:String} {a6:Array Edge}
variable {b:World} {S:List Nat} {cs:List Chunk}
theorem er {α:Type} {E:bA α} {x y:Operand} {t e j:Nat} {z:List Value} {A g:Option Addr} {c c1:Nat} {L M:List α} {k:List Chunk} {cs':Option Addr→Nat→List Chunk} (p:cY P t e E.sz j z) (ak:Nat.blt d n=true)
 (q:a_ l x=some (.slice A L.length c)) (r:a_ l y=some (.slice g M.length c1)) (s:bv cs (au e E g c1 M) k)
 (m: ∀a c',bn k (au e E A c L) (au e E a c' (L++M)) (cs' a c')) (u:L.length+M.length≤maxLen) (v: (L.length+M.length)*j≤140737488355328)
 (h: ∀a c',az P n ops Q rest ((d,.slice a (L++M).length c')::l) (af b S (cs' a c'))):
 az P n ops Q (⟨some d,.call ⟨.builtin .append,#[x,y],#[t,t]⟩,ty,pos,a6,none⟩::rest) l (af b S cs):=by
 obtain⟨R,dN,_⟩:=(m A c).part;have gc:List.Perm cs (au e E A c L::au e E g c1 M::R):=s.perm.trans ((dN.cons _).trans (List.Perm.swap _ _ _))
 refine ha (H':=af b S (au e E A c L::au e E g c1 M::R)) ?_ (Sub.refl _) (λ_ f=>f.perm gc);refine ol (E:=E) (src:=M) (F:=λ_=>True) (cs':=λi=>own e E.sz i (L.length+M.length) (E.all L++E.all M)::au e E g c1 M::R) p ak q r (λi=>bn.head) (λw f=>?_) u v (λi _=>?_)
 ·obtain⟨dE,c9,B,C⟩:=Rd.fX (E:=E) (show w.ownsRow 0 e E.sz (.slice g M.length c1) M.length (E.all M) from f.has (Has.tail Has.head)) rfl
  injection B with D _ G
  subst D G;exact C.dC (λ_ _=>aU)
 ·intro w f
  obtain⟨a,c',H⟩:=Hp (f.has Has.head);have o:i= .slice a (L++M).length c':=by rw[H,b0]
  obtain⟨I,mO,J⟩:=(m a c').part;have K:List.Perm R I:=(dN.symm.trans mO).cons_inv
  have N:own e E.sz i (L.length+M.length) (E.all L++E.all M)=au e E a c' (L++M):=by
   rw[o];simp only[au,b0,E.all_append]
  rw[N] at f
  rw[o];exact h a c' w ((f.rem (bv.tail bv.head)).perm ((K.cons _).trans J.symm))
end
section
variable {P:Program} {n:Nat} {ops:Array Oper} {Q:cl} {rest:List Oper} {l:Fr} {d:Nat} {ty:TypeId} {pos:String} {a6:Array Edge}
variable {b:World} {S:List Nat} {cs:List Chunk}
theorem af.Sx {α:Type} {E:bA α} {w:World} {cs':List Chunk} {g e:Nat} {a:α} (h:af b S cs w) (c:bn cs (aD g (E.enc a) e) (au e E (some ⟨g,0,none⟩) 1 [a]) cs'):af b S cs' w:=by
 have d:au e E (some ⟨g,0,none⟩) 1 [a]=own e E.sz (.slice (some ⟨g,0,none⟩) 1 1) 1 (E.enc a):=by
  simp[au,bA.all]
 rw[d] at c
 exact h.Fb c (by rw[E.len];omega) a1
theorem dx {α:Type} {E:bA α} {t e j:Nat} {z:List Value} {c:List (Nat × Operand)} {f:List (Nat × Value)} {out:List Value} (a:α) (m:cY P t e E.sz j z) (ak:Nat.blt d n=true) (o: (Nat.ble (1*E.sz) 16777216 && !(Nat.beq 1 0))=true)
 (p:ps l c=some f) (q:hx (λi=>some (i*E.sz,E.sz)) (e9 z 1) f=some out) (r:out=E.enc a)
 (h: ∀g,b.heap.size≤g→(∀k∈aB cs,k<g)→az P n ops Q rest ((d,.slice (some ⟨g,0,none⟩) 1 1)::l) (af b S (au e E (some ⟨g,0,none⟩) 1 [a]::cs))):
 az P n ops Q (⟨some d,.buildSlice t 1 c.toArray,ty,pos,a6,none⟩::rest) l (af b S cs):=by
 subst r;exact za m ak o p q (λg s u=>ha (h g s u) (Sub.refl _) (λ_ v=>v.Sx bn.head))
end
theorem gT {α:Type} {E:bA α} {w:World} {e:TypeId} {A:Option Addr} {c:Nat} {L:List α} (h: (au e E A c L).pred w):Rd E w (λ_=>True) A L.length c L:=by
 obtain⟨dE,c9,a,b⟩:=Rd.fX (E:=E) (show w.ownsRow 0 e E.sz (.slice A L.length c) L.length (E.all L) from h) rfl;injection a with d _ f
 subst d f;exact b.dC (λ_ _=>aU)
def Sy (k:IntKind) (a b:Int):Int:=k.wrap ((BitVec.ofInt k.bits a ||| BitVec.ofInt k.bits b).toNat:Int)
def Sz (k:IntKind) (a b:Int):Int:=k.wrap ((BitVec.ofInt k.bits a &&& ~~~ BitVec.ofInt k.bits b).toNat:Int)
section
variable {P:Program} {n:Nat} {ops:Array Oper} {Q:cl} {rest:List Oper} {l:Fr} {H:World→Prop} {d:Nat} {ty:TypeId} {pos:String} {a6:Array Edge} {cn du:TypeId} {x y:Operand} {k aH:IntKind} {a b:Int}
theorem Hq (ak:Nat.blt d n=true) (c:a_ l x=some (.int k a)) (e:a_ l y=some (.int k b))
 (h: ∀r,az P n ops Q rest ((d,.int k r)::l) H):az P n ops Q (⟨some d,.binOp .and cn x y du,ty,pos,a6,none⟩::rest) l H:=qV ak c e rfl (h _)
theorem Hr (ak:Nat.blt d n=true) (c:a_ l x=some (.int k a)) (e:a_ l y=some (.int k b))
 (h: ∀r,az P n ops Q rest ((d,.int k r)::l) H):az P n ops Q (⟨some d,.binOp .or cn x y du,ty,pos,a6,none⟩::rest) l H:=mz ak c e rfl (h _)
theorem Bj (ak:Nat.blt d n=true) (c:a_ l x=some (.int k a)) (e:a_ l y=some (.int k b))
 (h:az P n ops Q rest ((d,.int k (Sy k a b))::l) H):az P n ops Q (⟨some d,.binOp .or cn x y du,ty,pos,a6,none⟩::rest) l H:=mz ak c e rfl h
theorem Bk (ak:Nat.blt d n=true) (c:a_ l x=some (.int k a)) (e:a_ l y=some (.int k b))
 (h:az P n ops Q rest ((d,.int k (Sz k a b))::l) H):az P n ops Q (⟨some d,.binOp .andNot cn x y du,ty,pos,a6,none⟩::rest) l H:=uz ak c e rfl h
theorem SA (ak:Nat.blt d n=true) (c:a_ l x=some (.int k a)) (e:a_ l y=some (.int k b))
 (h: ∀r,az P n ops Q rest ((d,.int k r)::l) H):az P n ops Q (⟨some d,.binOp .andNot cn x y du,ty,pos,a6,none⟩::rest) l H:=uz ak c e rfl (h _)
theorem Hs (ak:Nat.blt d n=true) (c:a_ l x=some (.int k a)) (e:a_ l y=some (.int aH b)) (f:0≤b)
 (h: ∀r,az P n ops Q rest ((d,.int k r)::l) H):az P n ops Q (⟨some d,.binOp .shl cn x y du,ty,pos,a6,none⟩::rest) l H:=ox ak c e f rfl (h _)
end
section
variable {P:Program} {n:Nat} {ops:Array Oper} {Q:cl} {rest:List Oper} {l:Fr} {d:Nat} {ty:TypeId} {pos:String} {a6:Array Edge}
variable {b:World} {S:List Nat} {cs:List Chunk}
theorem Bl {α:Type} {E:bA α} {w:World} {e:TypeId} {A:Option Addr} {c:Nat} {L:List α} (h: (au e E A c L).pred w) (d:0<L.length): ∃g,A=some ⟨g,0,none⟩:=by
 rcases h.2 with ⟨a,f⟩ | ⟨g,cap,am,a,_⟩
 injection a with _ b _;omega
 injection a with b _ _
 exact⟨g,b⟩
theorem af.gx {α:Type} {E:bA α} {w:World} (h:af b S cs w) {e g c:Nat} {A:Option Addr} {L:List α} (d:Has cs (au e E A c L)) (f:A=some ⟨g,0,none⟩) {k:Nat} {a:α} (i:L[k]? = some a) (j:Nat) (u:Value) (l: (E.enc a)[j]? = some u):
 w.cell? (((⟨g,0,none⟩ :Addr).add (k*E.sz)).add j)=some u:=by
 subst f;exact h.kX d i j u l
theorem af.Ht {α:Type} {E:bA α} {w:World} (h:af b S cs w) {e g c:Nat} {A:Option Addr} {L:List α} (d:Has cs (au e E A c L)) (f:A=some ⟨g,0,none⟩) {k:Nat} {a:α} (i:L[k]? = some a) (u:Value) (j: (E.enc a)[0]? = some u):
 w.cell? ((⟨g,0,none⟩ :Addr).add (k*E.sz))=some u:=by
 have:=h.gx d f i 0 u j
 simpa [Addr.add] using this
theorem iL {α:Type} {E:bA α} {x i:Operand} {t e m:Nat} {z:List Value} {A:Option Addr} {c q:Nat} {L:List α} {k:IntKind} {j:Int} (o:Has cs (au e E A c L)) (p:cY P t e E.sz m z) (ak:Nat.blt d n=true) (r:a_ l x=some (.slice A L.length c)) (hi:a_ l i=some (.int k j))
 (s:j=(q:Int)) (u:q<L.length)
 (h: ∀g,A=some ⟨g,0,none⟩→az P n ops Q rest ((d,.pointer (some ((⟨g,0,none⟩ :Addr).add (q*E.sz))))::l) (af b S cs)):az P n ops Q (⟨some d,.indexAddr t x i,ty,pos,a6,none⟩::rest) l (af b S cs):=by
 intro w a;obtain⟨g,f⟩:=Bl (a.has o) aa;exact bD p ak r hi f s u (h g f) w a
end
def xY (P:Program) (s i:Nat):Option (TypeId × Nat):=match P.underlying s with
 | some (.struct c6)=>(c6[i]?).map (λf=>(f.type,f.offset))
 | _=>none
theorem Hu {P:Program} {s i off:Nat} {t:TypeId} (h:xY P s i=some (t,off)): ∃c6 f,P.underlying s=some (.struct c6)∧c6[i]? = some f∧f.type=t∧f.offset=off:=by
 unfold xY at h
 split at h
 rename_i c6 b;cases a:c6[i]? with
 | none=>rw[a] at h;cases h
 | some f=>
  rw[a] at h
  simp only[oc,dz,Prod.mk.injEq] at h
  exact⟨c6,f,b,a,h.1,h.2⟩
 cases h
section
variable {P:Program} {n:Nat} {ops:Array Oper} {Q:cl} {rest:List Oper} {l:Fr} {H:World→Prop} {d:Nat} {ty:TypeId} {pos:String} {a6:Array Edge} {x:Operand} {s i off:Nat} {t:TypeId}
theorem Hv {z v:Value} {cs:List Value} (a:xY P s i=some (t,off)) (b:cJ P t z) (ak:Nat.blt d n=true) (c:a_ l x=some (.agg cs.toArray)) (e:cs[off]? = some v)
 (h:az P n ops Q rest ((d,v)::l) H):az P n ops Q (⟨some d,.field s x i,ty,pos,a6,none⟩::rest) l H:=by
 obtain⟨c6,f,g,j,k,m⟩:=Hu a;obtain⟨u,o,p⟩:=b.e8;refine da _ ak (λy w q=>?_) h;have r: (Instr.field s (.agg cs.toArray) i).run P w= .ok v w:=by
  simp[Instr.field,asAgg,Result.andThen,run_underlying g,j,k,m,part,pp o,p,e]
 simp[execOp,q x _ c,r]
theorem j2 {sz:Nat} {z vs cs:List Value} (b:xY P s i=some (t,off)) (a:cB P t sz z) (ak:Nat.blt d n=true) (c:a_ l x=some (.agg cs.toArray)) (e: (cs.drop off).take sz=vs)
 (h:az P n ops Q rest ((d,.agg vs.toArray)::l) H):az P n ops Q (⟨some d,.field s x i,ty,pos,a6,none⟩::rest) l H:=by
 obtain⟨c6,f,g,j,k,m⟩:=Hu b;obtain⟨A,o,p⟩:=a.e8;obtain⟨inf,q,B,r⟩:=a.inf;refine da _ ak (λC w u=>?_) h;have v:cs.toArray.extract off (off+sz)=vs.toArray:=by
  rw[←e];simp
 have y: (Instr.field s (.agg cs.toArray) i).run P w= .ok (.agg vs.toArray) w:=by
  simp[Instr.field,asAgg,Result.andThen,run_underlying g,j,k,m,part,pp o,p,run_sizeOf q,r,←v]
 simp[execOp,u x _ c,y]
end
def ca {ι:Type} (v:ι→Value) (ok:ι→Prop) (w:World):Ending→World→Prop:=aP v [] (λ_=>[]) ok w
theorem ca.of {ι:Type} {v:ι→Value} {ok:ι→Prop} {w w':World} {x:Value} (i:ι) (hi:ok i) (a:x=v i) (h:Ext [] w w'):ca v ok w (.returned x) w':=⟨i,hi,by rw[a],⟨h,by simp[aB],by simp,by simp[aB]⟩⟩
end
end Go.Proofs.YtkeokgcdnfjaaaaGreatDoor.Mq
namespace Go.Proofs.YtkeokgcdnfjaaaaGreatDoor.Mq
open Go Go.RowKit
section
def nG (P:Program):Nat→TypeId→List Value→List Value→Bool
 | 0,_,_,_=>false
 | d+1,t,xs,df=>match P.underlying t with
  | some (.int _)=>match xs,df with
   | [.int k _],[.int a _]=>decide (k=a)
   | _,_=>false
  | some .bool=>match xs,df with
   | [.bool _],[.bool _]=>true
   | _,_=>false
  | some (.struct c6)=> !P.stoodInHeld t && pw P (nG P d) c6.toList 0 xs df
  | some (.array n e)=>(match P.info? e with
   | some i=>Nat.beq i.size 1 && Nat.beq (P.cellsOf e) 1
   | none=>false) && !js P e && (P.underlying e).isSome && Nat.beq xs.length n && Nat.beq df.length n && (List.range n).all (λj=>nG P d e ((xs.drop j).take 1) ((df.drop j).take 1))
  | _=>false
theorem Bm {P:Program}: ∀(d:Nat) (t:TypeId) (xs df:List Value),nG P d t xs df=true→
 ∀e,∃b,∀w,(Op.equalIn (d+e) t (hd P t xs) (hd P t df)).run P w= .ok b w
 | 0,_,_,_,h,_=>by simp[nG] at h
 | d+1,t,xs,df,h,e=>by
  have g:d+1+e=(d+e)+1:=by omega
  rw[g];unfold nG at h
  split at h
  rename_i k c;split at h
  rename_i U a aH b;have A:U=aH:=by simpa using h
  subst A;exact⟨_,λw=>by simp[hd,js,c,iy,run_equalIn_int w _ _ _ _ _ _ c];rfl⟩;cases h
  rename_i c;split at h
  exact⟨_,λw=>by simp[hd,js,c,iy,Op.equalIn,run_underlying c];rfl⟩;cases h
  rename_i c6 c;simp only[dY,pj] at h
  obtain⟨V,W⟩:=h;have s: ∀p,hd P t p= .agg p.toArray:=λp=>by simp[hd,js,c,iy]
  have N:P.fieldsOf t=c6:=by simp[Program.fieldsOf,c]
  have O:=λw=>run_equalIn_struct (P:=P) w (d+e) t xs.toArray df.toArray (by rw[N];exact c) V
  rw[N] at O
  have B: ∀(l:List Field) (off:Nat) (us vs:List Value),us=xs.drop off→vs=df.drop off→pw P (nG P d) l off us vs=true→ ∃b,∀w,(Op.eqFields (d+e) xs.toArray df.toArray l).run P w= .ok b w:=by
   intro l;induction l with
   | nil=>
    intro off us vs _ _ h;exact⟨true,λw=>by simp[Op.eqFields]⟩
   | cons f l C=>
    intro off us vs D E h;simp only[pw,dY] at h
    obtain⟨⟨⟨⟨⟨⟨m,Q⟩,u⟩,F⟩,G⟩,o⟩,R⟩:=h;have X:f.offset=off:=fV Q
    have H:=fV F
    have I:=fV G
    cases hi:P.info? f.type with
    | none=>rw[hi] at u;cases u.1
    | some i=>
     have S:kk P f.type=i.size:=by simp[kk,hi]
     rw[S] at H I o R
     have Y: ∃q,P.underlying f.type=some q:=by
      cases d with
      | zero=>simp[nG] at o
      | succ d=>
       unfold nG at o
       cases ak:P.underlying f.type with
       | none=>rw[ak] at o;cases o
       | some q=>exact⟨q,rfl⟩
     obtain⟨q,g⟩:=Y;have T:iy q=true→i.size=1:=λZ=>by
      rw[←S];have r:=u.2
      rw[mh] at r
      rcases r with r | r
      simp[js,g,Z] at r
      exact fV r
     have dN:=λw=>r8 (P:=P) (w:=w) (cs:=xs) (off:=off) g hi T (by rw[←D];exact H)
     have gc:=λw=>r8 (P:=P) (w:=w) (cs:=df) (off:=off) g hi T (by rw[←E];exact I)
     rw[←D] at dN
     rw[←E] at gc
     obtain⟨v,J⟩:=Bm d f.type (us.take i.size) (vs.take i.size) o e;obtain⟨K,L⟩:=C (off+i.size) (us.drop i.size) (vs.drop i.size) (by rw[D,mj]) (by rw[E,mj]) R;have Za:f.name≠ "_":=by simpa using m
     refine⟨v && K,λw=>?_⟩;unfold Op.eqFields;rw[ax Za,X];simp only[Sem.run_bind,dN,gc,Result.andThen_ok,J];cases v with
     | true=>simpa using L w
     | false=>simp
  obtain⟨b,M⟩:=B c6.toList 0 xs df av av W;exact⟨b,λw=>by rw[s,s,O w];exact M w⟩;rename_i n z c;simp only[dY] at h
  obtain⟨⟨⟨⟨⟨m,Q⟩,u⟩,F⟩,G⟩,o⟩:=h;have s: ∀p,hd P t p= .agg p.toArray:=λp=>by simp[hd,js,c,iy]
  cases hi:P.info? z with
  | none=>rw[hi] at m;cases m
  | some i=>
   rw[hi] at m
   simp only[dY] at m
   have x:=fV m.1
   have Zb:=fV m.2
   obtain⟨q,g⟩:=Option.isSome_iff_exists.1 u;have H:=fV F
   have I:=fV G
   have B: ∀l:List Nat,(∀j∈l,j<n∧nG P d z ((xs.drop j).take 1) ((df.drop j).take 1)=true)→ ∃b,∀w,(Op.eqItems (d+e) z 1 xs.toArray df.toArray l).run P w= .ok b w:=by
    intro l;induction l with
    | nil=>exact λ_=>⟨true,λw=>by simp[Op.eqItems]⟩
    | cons j l C=>
     intro y;obtain⟨Zd,Zc⟩:=y j av;have dN:=λw=>r8 (P:=P) (w:=w) (cs:=xs) (off:=j) g hi (λ_=>x) (by rw[x];simp;omega)
     have gc:=λw=>r8 (P:=P) (w:=w) (cs:=df) (off:=j) g hi (λ_=>x) (by rw[x];simp;omega)
     rw[x] at dN gc
     obtain⟨v,J⟩:=Bm d z ((xs.drop j).take 1) ((df.drop j).take 1) Zc e;obtain⟨K,L⟩:=C (λk A=>y k (by simp[A]));refine⟨v && K,λw=>?_⟩;unfold Op.eqItems;rw[Nat.mul_one];simp only[Sem.run_bind,dN,gc,Result.andThen_ok,J];cases v with
     | true=>simpa using L w
     | false=>simp
   obtain⟨b,M⟩:=B (List.range n) (λj y=>⟨List.mem_range.1 y,iQ.1 o j y⟩);exact⟨b,λw=>by rw[s,s,run_equalIn_array (P:=P) (w:=w) (d+e) xs.toArray df.toArray c hi,Zb];exact M w⟩
  cases h
section
variable {P:Program} {n:Nat} {ops:Array Oper} {Q:cl} {rest:List Oper} {l:Fr} {H:World→Prop} {d:Nat} {ty:TypeId} {pos:String} {a6:Array Edge}
variable {cn du:TypeId} {x y:Operand} {xs df:List Value}
theorem SB {r:Bool} (c:r9 P cn) (ak:Nat.blt d n=true) (e:a_ l x=some (.agg xs.toArray)) (f:a_ l y=some (.agg df.toArray)) (g: ∀w,(Op.equalIn 10000 cn (.agg xs.toArray) (.agg df.toArray)).run P w= .ok r w)
 (h:az P n ops Q rest ((d,.bool (!r))::l) H):az P n ops Q (⟨some d,.binOp .neq cn x y du,ty,pos,a6,none⟩::rest) l H:=by
 refine da _ ak (λj w a=>?_) h;have i:=run_eqGuard_agg (P:=P) w .neq cn x y xs.toArray df.toArray c.guard
 have b:=run_neq_struct (P:=P) w cn xs.toArray df.toArray
 rw[g w] at b
 simp only[execOp,a x _ e,a y _ f];simp only[Sem.run_bind,i,Result.andThen_ok,b,Sem.run_pure]
end
end
end Go.Proofs.YtkeokgcdnfjaaaaGreatDoor.Mq
namespace Go.Proofs.YtkeokgcdnfjaaaaGreatDoor.Mq
open Go Go.RowKit Go.Proofs
def Ab (c:Int):Int:=if c=237 then 159 else if c=244 then 143 else 191
structure fQ where
 pre:Int
 head:List UInt8
 inter:List UInt8
 text:List UInt8
 last:Int
 j3:Bool
 cut:Bool
def nH:fQ:=⟨0,[],[],[],0,false,false⟩
def Bn:fQ:=⟨0,[],[],[],0,true,false⟩
def xZ (h:fQ) (c:UInt8):fQ:=
 if h.inter.length=2 then Bn else if h.j3=true then h else { h with inter:=h.inter++[c] }
end Go.Proofs.YtkeokgcdnfjaaaaGreatDoor.Mq
