/- part 20 of the proof -/
import Derived.Test.YtoghoobfpcadbaaGreatDoorQ19
import Derived.ChangeKeysEq
namespace Go.Proofs.YtoghoobfpcadbaaGreatDoor.Mq.cr
open Go Go.RowKit Go.Proofs Tryz
def mO (v:Int):Nat:=if v=1 then 1 else if v=2 then 2 else if v=3 then 4 else if v=5∨v=6 then 16 else if v=7 then 32 else if v=8 then 64 else if v=9 then 128 else if v=53 then 512 else 0
theorem Hs (w:World) (v:Int):Calls prog 439 [.int .i64 v].toArray w (λe w'=>e= .returned (.int .i64 (mO v:Int))∧Ext [] w w'):=by
 refine aW func439 ntmps439 ?_;refine e4 ?_;refine aj (λd=>?_) (λd=>?_);refine aJ ?_;intro b a;exact⟨by rw[mO,ay (show _ by omega)];rfl,a.ext⟩;refine al ?_;refine aj (λf=>?_) (λf=>?_);refine aJ ?_;intro b a;exact⟨by rw[mO,ag (show ¬_ by omega),ay (show _ by omega)];rfl,a.ext⟩;refine al ?_;refine aj (λg=>?_) (λg=>?_);refine aJ ?_;intro b a;exact⟨by rw[mO,ag (show ¬_ by omega),ag (show ¬_ by omega),ay (show _ by omega)];rfl,a.ext⟩;refine aD ?_;refine aj (λc=>?_) (λc=>?_);refine aq ?_;refine eA rfl ((b5 c)) ?_;refine aJ ?_;intro b a;exact⟨by rw[mO,ag (show ¬_ by omega),ag (show ¬_ by omega),ag (show ¬_ by omega),ay (show _ by omega)];rfl,a.ext⟩;refine ax ?_;refine aj (λh=>?_) (λh=>?_);refine aJ ?_;intro b a;exact⟨by rw[mO,ag (show ¬_ by omega),ag (show ¬_ by omega),ag (show ¬_ by omega),ay (show _ by omega)];rfl,a.ext⟩;refine al ?_;refine aj (λi=>?_) (λi=>?_);refine aJ ?_;intro b a;exact⟨by rw[mO,ag (show ¬_ by omega),ag (show ¬_ by omega),ag (show ¬_ by omega),ag (show ¬_ by omega),ay (show _ by omega)];rfl,a.ext⟩;refine al ?_;refine aj (λj=>?_) (λj=>?_);refine aJ ?_;intro b a;exact⟨by rw[mO,ag (show ¬_ by omega),ag (show ¬_ by omega),ag (show ¬_ by omega),ag (show ¬_ by omega),ag (show ¬_ by omega),ay (show _ by omega)];rfl,a.ext⟩;refine al ?_;refine aj (λk=>?_) (λk=>?_);refine aJ ?_;intro b a;exact⟨by rw[mO,ag (show ¬_ by omega),ag (show ¬_ by omega),ag (show ¬_ by omega),ag (show ¬_ by omega),ag (show ¬_ by omega),ag (show ¬_ by omega),ay (show _ by omega)];rfl,a.ext⟩;refine al ?_;refine aj (λl=>?_) (λl=>?_);refine aJ ?_;intro b a;exact⟨by rw[mO,ag (show ¬_ by omega),ag (show ¬_ by omega),ag (show ¬_ by omega),ag (show ¬_ by omega),ag (show ¬_ by omega),ag (show ¬_ by omega),ag (show ¬_ by omega),ay (show _ by omega)];rfl,a.ext⟩;refine aR ?_;intro b a;exact⟨by rw[mO,ag (show ¬_ by omega),ag (show ¬_ by omega),ag (show ¬_ by omega),ag (show ¬_ by omega),ag (show ¬_ by omega),ag (show ¬_ by omega),ag (show ¬_ by omega),ag (show ¬_ by omega)];rfl,a.ext⟩
def nM (v:Int):Nat:=if v=22 then 3 else if v=23 then 4 else if v=24 then 264 else if v=25 then 16 else if v=27 then 32 else if v=28 then 64 else if v=29 then 128 else if v=55 then 512 else 0
theorem Ht (w:World) (v:Int):Calls prog 440 [.int .i64 v].toArray w (λe w'=>e= .returned (.int .i64 (nM v:Int))∧Ext [] w w'):=by
 refine aW func440 ntmps440 ?_;refine e4 ?_;refine aj (λc=>?_) (λc=>?_);refine aJ ?_;intro b a;exact⟨by rw[nM,ay (show _ by omega)];rfl,a.ext⟩;refine al ?_;refine aj (λd=>?_) (λd=>?_);refine aJ ?_;intro b a;exact⟨by rw[nM,ag (show ¬_ by omega),ay (show _ by omega)];rfl,a.ext⟩;refine al ?_;refine aj (λf=>?_) (λf=>?_);refine aJ ?_;intro b a;exact⟨by rw[nM,ag (show ¬_ by omega),ag (show ¬_ by omega),ay (show _ by omega)];rfl,a.ext⟩;refine al ?_;refine aj (λg=>?_) (λg=>?_);refine aJ ?_;intro b a;exact⟨by rw[nM,ag (show ¬_ by omega),ag (show ¬_ by omega),ag (show ¬_ by omega),ay (show _ by omega)];rfl,a.ext⟩;refine al ?_;refine aj (λh=>?_) (λh=>?_);refine aJ ?_;intro b a;exact⟨by rw[nM,ag (show ¬_ by omega),ag (show ¬_ by omega),ag (show ¬_ by omega),ag (show ¬_ by omega),ay (show _ by omega)];rfl,a.ext⟩;refine al ?_;refine aj (λi=>?_) (λi=>?_);refine aJ ?_;intro b a;exact⟨by rw[nM,ag (show ¬_ by omega),ag (show ¬_ by omega),ag (show ¬_ by omega),ag (show ¬_ by omega),ag (show ¬_ by omega),ay (show _ by omega)];rfl,a.ext⟩;refine al ?_;refine aj (λj=>?_) (λj=>?_);refine aJ ?_;intro b a;exact⟨by rw[nM,ag (show ¬_ by omega),ag (show ¬_ by omega),ag (show ¬_ by omega),ag (show ¬_ by omega),ag (show ¬_ by omega),ag (show ¬_ by omega),ay (show _ by omega)];rfl,a.ext⟩;refine al ?_;refine aj (λk=>?_) (λk=>?_);refine aJ ?_;intro b a;exact⟨by rw[nM,ag (show ¬_ by omega),ag (show ¬_ by omega),ag (show ¬_ by omega),ag (show ¬_ by omega),ag (show ¬_ by omega),ag (show ¬_ by omega),ag (show ¬_ by omega),ay (show _ by omega)];rfl,a.ext⟩;refine aR ?_;intro b a;exact⟨by rw[nM,ag (show ¬_ by omega),ag (show ¬_ by omega),ag (show ¬_ by omega),ag (show ¬_ by omega),ag (show ¬_ by omega),ag (show ¬_ by omega),ag (show ¬_ by omega),ag (show ¬_ by omega)];rfl,a.ext⟩
def vq (g:List Int):Nat:=if g[1]? = some 0 then 0 else if g[1]? = some 2 then 256 else 8
theorem SE (w:World) (F:Nat→Prop) (A:Option Addr) (n c:Nat) (g:List Int) (m:Rd bX w F A n c g) (s:n≤1000000):
 Calls prog 409 [.slice A n c].toArray w (λe w'=>e= .returned (.int .i64 (vq g:Int))∧Ext [] w w'):=by
 have t:=m.len
 refine aW func409 ntmps409 ?_;refine bI ?_;refine aX 7 rfl (λh=>?_) (λh=>?_);have r:=a1 h
 obtain⟨x,d⟩ : ∃x,g[1]? = some x:=⟨g[1]'aa,bG _⟩;obtain⟨u,o,_,p⟩:=m.at_ d;refine ah ?_;refine bw (q:=1) dO rfl rfl rfl o aa aa ?_;refine ar ?_;refine a7 bM rfl rfl (λw' i=>i.ct (p 0 _ rfl) (by simp[aA])) ?_;refine al ?_;refine aj (λf=>?_) (λf=>?_);refine aJ ?_;intro j a;exact⟨by rw[vq,d,ay (by rw[f])];rfl,a.ext⟩;refine al ?_;refine aX 17 rfl (λb=>?_) (λb=>?_);have k:=a1 b
 refine ah ?_;refine bw (q:=1) dO rfl rfl rfl o aa aa ?_;refine ar ?_;refine a7 bM rfl rfl (λw' i=>i.ct (p 0 _ rfl) (by simp[aA])) ?_;refine al ?_;refine aj (λl=>?_) (λl=>?_);refine aJ ?_;intro j a;exact⟨by rw[vq,d,ag (by simpa using f),ay (by rw[l])];rfl,a.ext⟩;refine aR ?_;intro j a;exact⟨by rw[vq,d,ag (by simpa using f),ag (by simpa using l)];rfl,a.ext⟩;have k:=bc b
 omega
 have r:=bc h
 have d:g[1]? = none:=km aa
 refine cI ?_;refine aX 17 rfl (λb=>?_) (λb=>?_);have k:=a1 b
 omega
 have k:=bc b
 refine eM ?_;intro j a;exact⟨by rw[vq,d,ag av,ag av];rfl,a.ext⟩
def o1 (v low high:Int):Value:=if low≤v∧v<low+8 then .tuple #[qf 1 (v - low),.bool true] else if high≤v∧v<high+8 then .tuple #[qf 1 (v - high+8),.bool true] else .tuple #[qf 0 0,.bool (decide (v=low+9))]
theorem SF (w:World) (v low high:Int) (j:0≤v∧v≤65535) (k:0≤low∧low≤1000) (l:0≤high∧high≤1000):
 Calls prog 441 [.int .i64 v,.int .i64 low,.int .i64 high].toArray w (λe w'=>e= .returned (o1 v low high)∧Ext [] w w'):=by
 refine aW func441 ntmps441 ?_;refine ah ?_;intro m n o;refine bp ?_;refine aX 12 rfl (λd=>?_) (λd=>?_);have h:=a1 d
 refine bB ?_;refine aj (λi=>?_) (λi=>?_);refine bI ?_;refine ij results441 (cC.eR gz rfl aQ rfl rfl) (cC.tmp rfl) (λc a=>?_);exact⟨by rw[o1,ay aa];rfl,a.ext⟩;refine al ?_;refine aX 26 rfl (λb=>?_) (λb=>?_);have f:=a1 b
 refine bB ?_;refine aj (λg=>?_) (λg=>?_);refine b_ ?_;refine ij results441 (cC.eR gz rfl aQ rfl rfl) (cC.tmp rfl) (λc a=>?_);exact⟨by rw[o1,ag aa,ay aa];rfl,a.ext⟩;refine cI ?_;refine ij results441 (cC.eR gz rfl aQ rfl rfl) (cC.tmp rfl) (λc a=>?_);exact⟨by rw[o1,ag aa,ag aa];rfl,a.ext⟩;have f:=bc b
 refine jC ?_;refine ij results441 (cC.eR gz rfl aQ rfl rfl) (cC.tmp rfl) (λc a=>?_);exact⟨by rw[o1,ag aa,ag aa];rfl,a.ext⟩;have h:=bc d
 refine cI ?_;refine aX 26 rfl (λb=>?_) (λb=>?_);have f:=a1 b
 refine bB ?_;refine aj (λg=>?_) (λg=>?_);refine b_ ?_;refine ij results441 (cC.eR gz rfl aQ rfl rfl) (cC.tmp rfl) (λc a=>?_);exact⟨by rw[o1,ag aa,ay aa];rfl,a.ext⟩;refine cI ?_;refine ij results441 (cC.eR gz rfl aQ rfl rfl) (cC.tmp rfl) (λc a=>?_);exact⟨by rw[o1,ag aa,ag aa];rfl,a.ext⟩;have f:=bc b
 refine jC ?_;refine ij results441 (cC.eR gz rfl aQ rfl rfl) (cC.tmp rfl) (λc a=>?_);exact⟨by rw[o1,ag aa,ag aa];rfl,a.ext⟩
def mP (L:List Int):Nat:=L.foldl (λn x=>n*256+(max 0 x).toNat) 0
def hR (L:List Int):Option (Int × Int):=if ∀x∈L,x≤255 then some (if L.length=1 then 1 else 2,(mP L:Int)) else none
abbrev Bp (o:Option (Int × Int)):List Value:=[qf (o.getD (0,0)).1 (o.getD (0,0)).2,.bool o.isSome]
theorem SG (L:List Int) (x:Int):mP (L++[x])=mP L*256+(max 0 x).toNat:=by simp[mP]
theorem SH {a b:Nat} (c:b<256):a*256 ||| b=a*256+b:=by
 have:=Nat.two_pow_add_eq_or_of_lt (i:=8) (a:=a) (b:=b) c
 rw[show (2 :Nat) ^ 8=256 by rfl,qI] at this
 exact this.symm
theorem Bq (w:World) (F:Nat→Prop) (A:Option Addr) (n c:Nat) (L:List Int) (j:Rd bX w F A n c L) (B:n≤3):
 Calls prog 438 [.slice A n c].toArray w (λe w'=>e= .returned (.tuple (Bp (hR L)).toArray)∧Ext [] w w'):=by
 have C:=j.len
 refine aW func438 ntmps438 ?_;refine ah ?_;intro l D E;refine et ?_;refine b1 (ι:=Nat) (λk=>[(0,.slice A n c),(2,.pointer (some ⟨l,0,none⟩)),(4,.int .i64 (mP (L.take k):Int)),(7,.slice A n c),(8,.int .i64 (n:Int)),(9,.int .i64 (k:Int))]) (λ_=>af w [] [aE l [.int .i64 0,.int .i64 0] 86]) (λk=>k≤n∧(∀x∈L.take k,x≤255)∧mP (L.take k)<256 ^ k) (λk=>n - k) ?_ ?_;exact λw a=>⟨0,⟨bP _,by simp,by simp[mP]⟩,(gC rfl rfl rfl rfl rfl rfl),a⟩
 rintro k ⟨G,b,o⟩;refine al ?_;refine aj (λu=>?_) (λu=>?_);obtain⟨x,d⟩ : ∃x,L[k]? = some x:=⟨L[k]'aa,bG _⟩;obtain⟨H,I,_,v⟩:=j.at_ d;have p:=kx d
 refine al ?_;refine bw (q:=k) dO rfl rfl rfl bA aa aa ?_;refine a7 bM rfl rfl (λw' f=>f.ct (v 0 _ rfl) (by simp[aA])) ?_;refine aR ?_;refine aj (λg=>?_) (λg=>?_);refine b_ ?_;refine ij results438 (cC.eR gz rfl aQ rfl rfl) (cC.tmp rfl) (λs a=>?_);refine⟨?_,a.ext⟩;rw[hR,ag (λh=>absurd (h x (dc d)) aa)];rfl
 have J:mP (L.take k)<65536:=by
  have:k≤2:=by omega
  refine ps o ?_;exact fs (qJ aZ this) aZ
 have z: (max 0 x).toNat<256:=by omega
 have i:=SG (L.take k) x
 rw[←p] at i
 refine aS ?_;refine oC (r:=((mP (L.take k)*256 :Nat):Int)) rfl rfl rfl aZ (by rw[show min (8 :Int).toNat IntKind.i64.bits=8 by rfl,show (2 :Int) ^ 8=256 by rfl,th aa aa];omega) ?_;refine aq ?_;refine mD (r:=(mP (L.take (k+1)):Int)) rfl rfl rfl (or_eq (m:=mP (L.take k)*256) (n:=(max 0 x).toNat) rfl aa (show _<18446744073709551616 by omega) (show _<18446744073709551616 by omega) (by rw[SH z,i,th aa aa])) ?_;refine aL ?_;refine bg (k+1) ⟨aa,λy t=>?_,?_⟩ aa (gC rfl rfl rfl rfl rfl rfl) (λw' f=>f);rw[p] at t
 rcases db.1 t with h | h
 exact b y h;rw[ey.1 h];omega
 rw[i,Nat.pow_succ];omega
 have e:L.take k=L:=ez aa
 rw[e] at b o ⊢
 refine bI ?_;refine aj (λg=>?_) (λg=>?_);refine aR ?_;refine ij results438 (cC.eR gz rfl aQ rfl rfl) (cC.tmp rfl) (λs a=>?_);refine⟨?_,a.ext⟩;rw[hR,ay b,ay aa];rfl
 refine bp ?_;refine ij results438 (cC.eR gz rfl aQ rfl rfl) (cC.tmp rfl) (λs a=>?_);refine⟨?_,a.ext⟩;rw[hR,ay b,ag aa];rfl
def vr (g:List Int):Option (Int × Int):=if g[1]? = some 5∧g.length=3 then hR (g.drop 2) else if g[1]? = some 2∧(g.length=5∨g.length=6) then hR (g.drop (g.length - 3)) else none
theorem Hu (w:World) (F:Nat→Prop) (A:Option Addr) (n c:Nat) (g:List Int) (b:Rd bX w F A n c g) (K:n≤1000000) (L:2≤n):
 Calls prog 410 [.slice A n c].toArray w (λe w'=>e= .returned (.tuple (Bp (vr g)).toArray)∧Ext [] w w'):=by
 have B:=b.len
 obtain⟨x,j⟩ : ∃x,g[1]? = some x:=⟨g[1]'aa,bG _⟩;obtain⟨M,s,_,t⟩:=b.at_ j;have C: (¬(x=5∧n=3))→(¬(x=2∧(n=5∨n=6)))→vr g=none:=λd f=>by
  rw[vr,j,ag (λh=>d ⟨by simpa using h.1,aa⟩),ag (λh=>f ⟨by simpa using h.1,aa⟩)]
 have N:=b.cap
 have O:=b.max
 refine aW func410 ntmps410 ?_;refine ah ?_;intro l P Q;refine al ?_;refine ou ([(4,.bool (decide (x=5∧n=3))),(0,.slice A n c),(2,.pointer (some ⟨l,0,none⟩))]) (af w [] [aE l [.int .i64 0,.int .i64 0] 86]) ?_ ?_;refine aq ?_;refine bw (q:=1) dO rfl rfl rfl s aa aa ?_;refine a7 bM rfl rfl (λw' a=>a.ct (t 0 _ rfl) (by simp[aA])) ?_;refine aq ?_;refine aX 9 rfl (λm=>?_) (λm=>?_);have D:=a1 m
 refine aJ ?_;exact gw (Sub.cons (aV (λx=>some (Value.bool x)) (by rw[hf];omega)) (iJ rfl rfl)) (λ_ h=>h);have D:=bc m
 refine al ?_;exact gw (Sub.cons (aV (λx=>some (Value.bool x)) (by rw[eq_comm,e1];omega)) (iJ rfl rfl)) (λ_ h=>h);refine ar ?_;refine aj (λd=>?_) (λd=>?_);obtain⟨y,u⟩ : ∃y,g[2]? = some y:=⟨g[2]'aa,bG _⟩;obtain⟨R,G,_,H⟩:=b.at_ u;have ak:g.drop 2=[y]:=by
  refine ms λk=>?_
  rw[mu];cases k with
  | zero=>simpa using u
  | succ k=>rw[km aa];simp
 refine ah ?_;refine bw (q:=2) dO rfl rfl rfl G aa aa ?_;refine a7 bM rfl rfl (λw' a=>a.ct (H 0 _ rfl) (by simp[aA])) ?_;refine ar ?_;intro S T U;refine ao rfl Ac rfl (λw' a=>Bq w' _ _ _ _ [y] (Rd.ho (E:=bX) a Has.head rfl aZ) aZ) ?_;refine aJ ?_;refine ij results410 (cC.eR gz rfl bH rfl rfl) (cC.tmp rfl) (λv i=>?_);refine⟨?_,i.ext⟩;rw[vr,j,ay ⟨by rw[d.1],aa⟩,ak];rfl
 refine ar ?_;refine ou ([(21,.bool (decide (x=2∧(n=5∨n=6)))),(0,.slice A n c),(2,.pointer (some ⟨l,0,none⟩))]) (af w [] [aE l [.int .i64 0,.int .i64 0] 86]) ?_ ?_;refine aq ?_;refine bw (q:=1) dO rfl rfl rfl s aa aa ?_;refine a7 bM rfl rfl (λw' a=>a.ct (t 0 _ rfl) (by simp[aA])) ?_;refine aq ?_;refine aX 26 rfl (λf=>?_) (λf=>?_);have I:=a1 f
 refine aL ?_;refine aX 30 rfl (λo=>?_) (λo=>?_);have J:=a1 o
 refine aL ?_;exact gw (Sub.cons (aV (λx=>some (Value.bool x)) (by rw[eq_comm,decide_eq_true_iff];omega)) (iJ rfl rfl)) (λ_ h=>h);have J:=bc o
 refine bp ?_;exact gw (Sub.cons (aV (λx=>some (Value.bool x)) (by rw[hf];omega)) (iJ rfl rfl)) (λ_ h=>h);have I:=bc f
 refine bp ?_;exact gw (Sub.cons (aV (λx=>some (Value.bool x)) (by rw[eq_comm,e1];omega)) (iJ rfl rfl)) (λ_ h=>h);refine ar ?_;refine aj (λr=>?_) (λr=>?_);refine al ?_;refine ft (n - 3) n dO rfl rfl (.inl ⟨_,_,rfl,rfl,aa⟩) (.inr ⟨rfl,rfl⟩) aa aa ?_;have z:=b.cut (p:=n - 3) (q:=n) aa aa
 rw[ez aa] at z
 refine ao rfl Ac rfl (λw' a=>Bq w' _ _ _ _ (g.drop (n - 3)) (z.ext a.ext av) aa) ?_;refine aJ ?_;refine ij results410 (cC.eR gz rfl aQ rfl rfl) (cC.tmp rfl) (λv i=>?_);refine⟨?_,i.ext⟩;rw[vr,j,ag (λh=>d ⟨by simpa using h.1,aa⟩),ay ⟨by rw[r.1],aa⟩,B];rfl
 refine bp ?_;refine ij results410 (cC.eR gz rfl aQ rfl rfl) (cC.tmp rfl) (λv i=>?_);refine⟨?_,i.ext⟩;rw[C d r];rfl
def mQ (gs:List (List Int)) (i:Nat):Nat:=if nL gs (i+1)=5 then 1 else if nL gs (i+1)=2 then 3 else 0
def qg (gs:List (List Int)) (i m:Nat):List Int:=(List.range m).map (λk=>nL gs (i+2+k))
theorem SI (gs:List (List Int)) (i k:Nat):qg gs i (k+1)=qg gs i k++[nL gs (i+2+k)]:=by simp[qg,List.range_succ]
theorem SJ (gs:List (List Int)) (i m:Nat): (qg gs i m).length=m:=by simp[qg]
theorem SK (gs:List (List Int)) (i:Nat):mQ gs i≤3:=by unfold mQ;repeat (first | decide | split)
def mR (gs:List (List Int)) (i:Nat):Option (Int × Int) × Nat:=
 if gs.length≤i+1+mQ gs i then (none,gs.length - 1 - i) else if mQ gs i=0 then (none,1) else (hR (qg gs i (mQ gs i)),1+mQ gs i)
theorem Hv (w:World) (F:Nat→Prop) (A:Option Addr) (n c:Nat) (gs:List (List Int)) (j:ed w F A n c gs) (l:mN gs) (i:Nat) (hi:i<n):
 Calls prog 411 [.slice A n c,.int .i64 (i:Int)].toArray w (λe w'=>e= .returned (.tuple [qf ((mR gs i).1.getD (0,0)).1 ((mR gs i).1.getD (0,0)).2,Value.bool (mR gs i).1.isSome,Value.int .i64 ((mR gs i).2 :Int)].toArray)∧Ext [] w w'):=by
 have D:=j.len
 have G:=l.1
 have q:=SK gs i
 refine aW func411 ntmps411 ?_;refine ah ?_;intro g H I;refine aR ?_;refine ou ([(7,.int .i64 (mQ gs i:Int)),(0,.slice A n c),(1,.int .i64 (i:Int)),(4,.pointer (some ⟨g,0,none⟩))]) (af w [] [aE g [.int .i64 0,.int .i64 0] 86]) ?_ ?_;refine ax ?_;refine ao rfl Aa rfl (λw' a=>Bo w' _ _ _ _ gs (j.ext a.ext av) l (i+1) aa) ?_;refine aJ ?_;refine aj (λb=>?_) (λb=>?_);refine aS ?_;rw[mQ,ay b];exact gw (cw rfl rfl rfl rfl) (λ_ h=>h);refine al ?_;refine aj (λd=>?_) (λd=>?_);refine aS ?_;rw[mQ,ag b,ay d];exact gw (cw rfl rfl rfl rfl) (λ_ h=>h);refine aq ?_;rw[mQ,ag b,ag d];exact gw (cw rfl rfl rfl rfl) (λ_ h=>h);generalize o:mQ gs i=m at q
 refine bI ?_;refine aj (λb=>?_) (λb=>?_);refine cI ?_;refine nd results411 (cC.eR gz rfl aQ rfl rfl) (cC.tmp rfl) (cC.tmp rfl) (λp f=>?_);refine⟨?_,f.ext⟩;rw[mR,o,ay aa];dsimp only;rw[show ((gs.length - 1 - i:Nat):Int)=(n:Int) - 1 - (i:Int) by omega];rfl
 refine aJ ?_;refine aj (λd=>?_) (λd=>?_);refine aR ?_;refine nd results411 (cC.eR gz rfl aQ rfl rfl) (cC.tmp rfl) (cC.tmp rfl) (λp f=>?_);refine⟨?_,f.ext⟩;rw[mR,o,ag aa,ay aa];rfl
 refine ah ?_;refine jS 3 1 ?_;refine bB ?_;refine b1 (ι:=Nat × Value) (λt=>[(0,.slice A n c),(1,.int .i64 (i:Int)),(4,.pointer (some ⟨g,0,none⟩)),(7,.int .i64 (m:Int)),(8,t.2),(36,.int .i64 (m:Int)),(37,.int .i64 (t.1 :Int))]) (λt=>af w [] [own 3 1 t.2 t.1 (bX.all (qg gs i t.1)),aE g [.int .i64 0,.int .i64 0] 86]) (λt=>t.1≤m) (λt=>m - t.1) ?_ ?_;exact λw' a=>⟨(0,.slice none 0 0),bP _,(hq rfl rfl rfl rfl rfl rfl rfl),a⟩
 rintro⟨k,u⟩ r;dsimp only at r ⊢
 refine al ?_;refine aj (λs=>?_) (λs=>?_);refine et ?_;refine ao rfl Aa rfl (λw' a=>Bo w' _ _ _ _ gs (j.ext a.ext av) l (i+2+k) aa) ?_;refine ar ?_;intro J K L;refine gv dO rfl rfl rfl bi (λ_=>by exact cA) rfl (im rfl) (by simp only[maxLen];omega) aa (λx M=>?_);refine aL ?_;refine bg (k+1,x) bm bm (hq rfl rfl rfl rfl rfl rfl rfl) (λw' a=>?_);dsimp only;rw[SI,bx.hk bX];exact a;have y:k=m:=by omega
 subst y;refine hE (v:=u) Has.head (λN O z P Q R S=>?_);subst z;refine aL ?_;refine ao (v:= .tuple (Bp (hR (qg gs i k))).toArray) rfl Ac rfl (λw' a=>?_) ?_;obtain⟨T,U,B,C⟩:=Rd.ga (E:=bX) (a.has Has.head) (SJ gs i k);cases B
 exact Bq w' _ _ _ _ _ C aa;refine aS ?_;intro V W X;refine dx ?_;refine nd results411 (cC.eR gz rfl cu rfl rfl) (cC.tmp rfl) (cC.tmp rfl) (λp f=>?_);refine⟨?_,f.ext⟩;rw[mR,o,ag aa,ag aa];dsimp only;rw[show ((1+k:Nat):Int)=1+(k:Int) by omega];rfl
theorem SL {gs:List (List Int)} {i:Nat} (h:i<gs.length):i+(mR gs i).2+1≤gs.length:=by
 unfold mR;split
 dsimp only;omega
 split
 dsimp only;omega
 dsimp only;omega
end Go.Proofs.YtoghoobfpcadbaaGreatDoor.Mq.cr
namespace Go.Proofs.YtoghoobfpcadbaaGreatDoor.Mq
open Go Go.RowKit Go.Proofs
section
section
variable {b:World} {S:List Nat} {cs cs':List Chunk} {w:World}
theorem af.SM {l0 l1 cs1:List Chunk} {w':World} (h:af b S cs w) (c:bn cs (aU l0) (aU l1) cs1) (a:af w (aA l0) l1 w'):af b S cs1 w':=
 h.ic c a.ext a.all (λk d=>by
  rcases e0 k w.heap.size with e | f
  exact .inl (a.ei k d e);exact .inr f) a.nodup
theorem af.kG {l:List Chunk} (h:af b S cs w) (a:Has cs (aU l)):a8 w l:=by
 refine⟨h.has a,?_⟩;obtain⟨x,y,e⟩:=List.append_of_mem a.mem;have c:=h.nodup
 rw[e,iG,fi] at c
 exact (fS.1 (fS.1 c).2.1).1
theorem af.SN {l:List Chunk} (h:af b S cs w) (a:Has cs (aU l)) {c:Chunk} (d:Has l c):c.pred w:=h.has a c d.mem
end
section
variable {P:Program} {n:Nat} {ops:Array Oper} {Q:cq} {rest:List Oper} {l:Fr} {d:Nat} {ty:TypeId} {pos:String} {a6:Array Edge}
variable {b:World} {S:List Nat} {cs:List Chunk} {ι:Type} {args:List Operand} {da:Array TypeId} {f:FuncId} {vs:List Value} {v:ι→Value} {l0:List Chunk} {ok:ι→Prop}
theorem kH {l' cs1:ι→List Chunk} (c: ∀i,bn cs (aU l0) (aU (l' i)) (cs1 i)) (ak:Nat.blt d n=true) (g:ad P f) (j:cM l args=some vs)
 (k: ∀w,af b S cs w→Calls P f vs.toArray w (aO v l0 l' ok w))
 (h: ∀i,ok i→az P n ops Q rest ((d,v i)::l) (af b S (cs1 i))):
 az P n ops Q (⟨some d,.call ⟨.value (.func f),args.toArray,da⟩,ty,pos,a6,none⟩::rest) l (af b S cs):=by
 refine gO rfl ak g j λw a=>?_
 have:=k w a
 simp only[iA,iX];refine this.mono ?_;rintro e w' ⟨i,hi,rfl,m⟩;exact⟨v i,rfl,(h i hi).at (a.SM (c i) m)⟩
end
def rn (lo hi:Nat) (Q:World→Prop) (d: ∀w w':World,(∀k,lo≤k→k<hi→w'.heap[k]? = w.heap[k]?)→Q w→Q w'):Chunk where
 cm:=List.range' lo (hi - lo)
 pred w:=(lo<hi→hi≤w.heap.size)∧Q w
 low w h k e:=by
  rw[od] at e
  have:=h.1 aa
  omega
 loc w w' h ai:=by
  have b: ∀k,lo≤k→k<hi→w'.heap[k]? = w.heap[k]? :=λk c a=>h k (od.2 ⟨c,aa⟩)
  refine⟨λf=>?_,d w w' b ai.2⟩
  have c:=ai.1 f
  have a:=b (hi - 1) aa aa
  have g:w.heap[hi - 1]? = some (w.heap[hi - 1]'aa):=qy _
  rw[g] at a
  have i:=(lE.1 a).1
  omega
theorem x8 (lo hi:Nat) (Q:World→Prop) (a: ∀w w':World,(∀k,lo≤k→k<hi→w'.heap[k]? = w.heap[k]?)→Q w→Q w'): (rn lo hi Q a).cm.Nodup:=List.nodup_range' ..
abbrev au {α:Type} (e:TypeId) (E:bx α) (A:Option Addr) (c:Nat) (L:List α):Chunk:=own e E.sz (.slice A L.length c) L.length (E.all L)
theorem Hw {w:World} {e sz m:Nat} {v:Value} {xs:List Value} (h: (own e sz v m xs).pred w): ∃A c,v= .slice A m c:=wx h
theorem bn.part {cs X:List Chunk} {c d:Chunk} (h:bn cs c d X): ∃R,List.Perm cs (c::R)∧List.Perm X (d::R):=by
 obtain⟨l,r,rfl,rfl⟩:=h.split;exact⟨l++r,oh,oh⟩
section
variable {P:Program} {n:Nat} {ops:Array Oper} {Q:cq} {rest:List Oper} {l:Fr} {d:Nat} {ty:TypeId} {pos:String} {a6:Array Edge}
variable {b:World} {S:List Nat} {cs:List Chunk}
theorem ew {α:Type} {E:bx α} {x y:Operand} {t e j:Nat} {z:List Value} {A g:Option Addr} {c c1:Nat} {L M:List α} {k:List Chunk} {cs':Option Addr→Nat→List Chunk} (p:c6 P t e E.sz j z) (ak:Nat.blt d n=true)
 (q:ba l x=some (.slice A L.length c)) (r:ba l y=some (.slice g M.length c1)) (s:bv cs (au e E g c1 M) k)
 (m: ∀a c',bn k (au e E A c L) (au e E a c' (L++M)) (cs' a c')) (u:L.length+M.length≤maxLen) (v: (L.length+M.length)*j≤140737488355328)
 (h: ∀a c',az P n ops Q rest ((d,.slice a (L++M).length c')::l) (af b S (cs' a c'))):
 az P n ops Q (⟨some d,.call ⟨.builtin .append,#[x,y],#[t,t]⟩,ty,pos,a6,none⟩::rest) l (af b S cs):=by
 obtain⟨R,dS,_⟩:=(m A c).part;have gg:List.Perm cs (au e E A c L::au e E g c1 M::R):=s.perm.trans ((dS.cons _).trans (List.Perm.swap _ _ _))
 refine hg (H':=af b S (au e E A c L::au e E g c1 M::R)) ?_ (Sub.refl _) (λ_ f=>f.perm gg);refine nc (E:=E) (src:=M) (F:=λ_=>True) (cs':=λi=>own e E.sz i (L.length+M.length) (E.all L++E.all M)::au e E g c1 M::R) p ak q r (λi=>bn.head) (λw f=>?_) u v (λi _=>?_)
 ·obtain⟨dF,c9,B,C⟩:=Rd.ga (E:=E) (show w.ownsRow 0 e E.sz (.slice g M.length c1) M.length (E.all M) from f.has (Has.tail Has.head)) rfl
  injection B with D _ G
  subst D G;exact C.dJ (λ_ _=>aT)
 ·intro w f
  obtain⟨a,c',H⟩:=Hw (f.has Has.head);have o:i= .slice a (L++M).length c':=by rw[H,b8]
  obtain⟨I,mS,J⟩:=(m a c').part;have K:List.Perm R I:=(dS.symm.trans mS).cons_inv
  have N:own e E.sz i (L.length+M.length) (E.all L++E.all M)=au e E a c' (L++M):=by
   rw[o];simp only[au,b8,E.all_append]
  rw[N] at f
  rw[o];exact h a c' w ((f.rem (bv.tail bv.head)).perm ((K.cons _).trans J.symm))
end
section
variable {P:Program} {n:Nat} {ops:Array Oper} {Q:cq} {rest:List Oper} {l:Fr} {d:Nat} {ty:TypeId} {pos:String} {a6:Array Edge}
variable {b:World} {S:List Nat} {cs:List Chunk}
theorem af.SO {α:Type} {E:bx α} {w:World} {cs':List Chunk} {g e:Nat} {a:α} (h:af b S cs w) (c:bn cs (aE g (E.enc a) e) (au e E (some ⟨g,0,none⟩) 1 [a]) cs'):af b S cs' w:=by
 have d:au e E (some ⟨g,0,none⟩) 1 [a]=own e E.sz (.slice (some ⟨g,0,none⟩) 1 1) 1 (E.enc a):=by
  simp[au,bx.all]
 rw[d] at c
 exact h.Fl c (by rw[E.len];omega) aZ
theorem dG {α:Type} {E:bx α} {t e j:Nat} {z:List Value} {c:List (Nat × Operand)} {f:List (Nat × Value)} {out:List Value} (a:α) (m:c6 P t e E.sz j z) (ak:Nat.blt d n=true) (o: (Nat.ble (1*E.sz) 16777216 && !(Nat.beq 1 0))=true)
 (p:pz l c=some f) (q:hF (λi=>some (i*E.sz,E.sz)) (fa z 1) f=some out) (r:out=E.enc a)
 (h: ∀g,b.heap.size≤g→(∀k∈aA cs,k<g)→az P n ops Q rest ((d,.slice (some ⟨g,0,none⟩) 1 1)::l) (af b S (au e E (some ⟨g,0,none⟩) 1 [a]::cs))):
 az P n ops Q (⟨some d,.buildSlice t 1 c.toArray,ty,pos,a6,none⟩::rest) l (af b S cs):=by
 subst r;exact zi m ak o p q (λg s u=>hg (h g s u) (Sub.refl _) (λ_ v=>v.SO bn.head))
end
theorem gV {α:Type} {E:bx α} {w:World} {e:TypeId} {A:Option Addr} {c:Nat} {L:List α} (h: (au e E A c L).pred w):Rd E w (λ_=>True) A L.length c L:=by
 obtain⟨dF,c9,a,b⟩:=Rd.ga (E:=E) (show w.ownsRow 0 e E.sz (.slice A L.length c) L.length (E.all L) from h) rfl;injection a with d _ f
 subst d f;exact b.dJ (λ_ _=>aT)
def SP (k:IntKind) (a b:Int):Int:=k.wrap ((BitVec.ofInt k.bits a ||| BitVec.ofInt k.bits b).toNat:Int)
def SQ (k:IntKind) (a b:Int):Int:=k.wrap ((BitVec.ofInt k.bits a &&& ~~~ BitVec.ofInt k.bits b).toNat:Int)
section
variable {P:Program} {n:Nat} {ops:Array Oper} {Q:cq} {rest:List Oper} {l:Fr} {H:World→Prop} {d:Nat} {ty:TypeId} {pos:String} {a6:Array Edge} {cv dD:TypeId} {x y:Operand} {k aK:IntKind} {a b:Int}
theorem Hx (ak:Nat.blt d n=true) (c:ba l x=some (.int k a)) (e:ba l y=some (.int k b))
 (h: ∀r,az P n ops Q rest ((d,.int k r)::l) H):az P n ops Q (⟨some d,.binOp .and cv x y dD,ty,pos,a6,none⟩::rest) l H:=q1 ak c e rfl (h _)
theorem Hy (ak:Nat.blt d n=true) (c:ba l x=some (.int k a)) (e:ba l y=some (.int k b))
 (h: ∀r,az P n ops Q rest ((d,.int k r)::l) H):az P n ops Q (⟨some d,.binOp .or cv x y dD,ty,pos,a6,none⟩::rest) l H:=mD ak c e rfl (h _)
theorem Br (ak:Nat.blt d n=true) (c:ba l x=some (.int k a)) (e:ba l y=some (.int k b))
 (h:az P n ops Q rest ((d,.int k (SP k a b))::l) H):az P n ops Q (⟨some d,.binOp .or cv x y dD,ty,pos,a6,none⟩::rest) l H:=mD ak c e rfl h
theorem Bs (ak:Nat.blt d n=true) (c:ba l x=some (.int k a)) (e:ba l y=some (.int k b))
 (h:az P n ops Q rest ((d,.int k (SQ k a b))::l) H):az P n ops Q (⟨some d,.binOp .andNot cv x y dD,ty,pos,a6,none⟩::rest) l H:=uK ak c e rfl h
theorem SR (ak:Nat.blt d n=true) (c:ba l x=some (.int k a)) (e:ba l y=some (.int k b))
 (h: ∀r,az P n ops Q rest ((d,.int k r)::l) H):az P n ops Q (⟨some d,.binOp .andNot cv x y dD,ty,pos,a6,none⟩::rest) l H:=uK ak c e rfl (h _)
theorem Hz (ak:Nat.blt d n=true) (c:ba l x=some (.int k a)) (e:ba l y=some (.int aK b)) (f:0≤b)
 (h: ∀r,az P n ops Q rest ((d,.int k r)::l) H):az P n ops Q (⟨some d,.binOp .shl cv x y dD,ty,pos,a6,none⟩::rest) l H:=oC ak c e f rfl (h _)
end
section
variable {P:Program} {n:Nat} {ops:Array Oper} {Q:cq} {rest:List Oper} {l:Fr} {d:Nat} {ty:TypeId} {pos:String} {a6:Array Edge}
variable {b:World} {S:List Nat} {cs:List Chunk}
theorem x9 {α:Type} {E:bx α} {w:World} {e:TypeId} {A:Option Addr} {c:Nat} {L:List α} (h: (au e E A c L).pred w) (d:0<L.length): ∃g,A=some ⟨g,0,none⟩:=by
 rcases h.2 with ⟨a,f⟩ | ⟨g,cap,am,a,_⟩
 injection a with _ b _;omega
 injection a with b _ _
 exact⟨g,b⟩
theorem af.fO {α:Type} {E:bx α} {w:World} (h:af b S cs w) {e g c:Nat} {A:Option Addr} {L:List α} (d:Has cs (au e E A c L)) (f:A=some ⟨g,0,none⟩) {k:Nat} {a:α} (i:L[k]? = some a) (j:Nat) (u:Value) (l: (E.enc a)[j]? = some u):
 w.cell? (((⟨g,0,none⟩ :Addr).add (k*E.sz)).add j)=some u:=by
 subst f;exact h.k4 d i j u l
theorem af.HA {α:Type} {E:bx α} {w:World} (h:af b S cs w) {e g c:Nat} {A:Option Addr} {L:List α} (d:Has cs (au e E A c L)) (f:A=some ⟨g,0,none⟩) {k:Nat} {a:α} (i:L[k]? = some a) (u:Value) (j: (E.enc a)[0]? = some u):
 w.cell? ((⟨g,0,none⟩ :Addr).add (k*E.sz))=some u:=by
 have:=h.fO d f i 0 u j
 simpa [Addr.add] using this
theorem jm {α:Type} {E:bx α} {x i:Operand} {t e m:Nat} {z:List Value} {A:Option Addr} {c q:Nat} {L:List α} {k:IntKind} {j:Int} (o:Has cs (au e E A c L)) (p:c6 P t e E.sz m z) (ak:Nat.blt d n=true) (r:ba l x=some (.slice A L.length c)) (hi:ba l i=some (.int k j))
 (s:j=(q:Int)) (u:q<L.length)
 (h: ∀g,A=some ⟨g,0,none⟩→az P n ops Q rest ((d,.pointer (some ((⟨g,0,none⟩ :Addr).add (q*E.sz))))::l) (af b S cs)):az P n ops Q (⟨some d,.indexAddr t x i,ty,pos,a6,none⟩::rest) l (af b S cs):=by
 intro w a;obtain⟨g,f⟩:=x9 (a.has o) aa;exact bw p ak r hi f s u (h g f) w a
end
def x_ (P:Program) (s i:Nat):Option (TypeId × Nat):=match P.underlying s with
 | some (.struct c8)=>(c8[i]?).map (λf=>(f.type,f.offset))
 | _=>none
theorem HC {P:Program} {s i off:Nat} {t:TypeId} (h:x_ P s i=some (t,off)): ∃c8 f,P.underlying s=some (.struct c8)∧c8[i]? = some f∧f.type=t∧f.offset=off:=by
 unfold x_ at h
 split at h
 rename_i c8 b;cases a:c8[i]? with
 | none=>rw[a] at h;cases h
 | some f=>
  rw[a] at h
  simp only[ol,dI,Prod.mk.injEq] at h
  exact⟨c8,f,b,a,h.1,h.2⟩
 cases h
section
variable {P:Program} {n:Nat} {ops:Array Oper} {Q:cq} {rest:List Oper} {l:Fr} {H:World→Prop} {d:Nat} {ty:TypeId} {pos:String} {a6:Array Edge} {x:Operand} {s i off:Nat} {t:TypeId}
theorem HD {z v:Value} {cs:List Value} (a:x_ P s i=some (t,off)) (b:cN P t z) (ak:Nat.blt d n=true) (c:ba l x=some (.agg cs.toArray)) (e:cs[off]? = some v)
 (h:az P n ops Q rest ((d,v)::l) H):az P n ops Q (⟨some d,.field s x i,ty,pos,a6,none⟩::rest) l H:=by
 obtain⟨c8,f,g,j,k,m⟩:=HC a;obtain⟨u,o,p⟩:=b.e_;refine df _ ak (λy w q=>?_) h;have r: (Instr.field s (.agg cs.toArray) i).run P w= .ok v w:=by
  simp[Instr.field,asAgg,Result.andThen,run_underlying g,j,k,m,part,pw o,p,e]
 simp[execOp,q x _ c,r]
theorem j9 {sz:Nat} {z vs cs:List Value} (b:x_ P s i=some (t,off)) (a:cG P t sz z) (ak:Nat.blt d n=true) (c:ba l x=some (.agg cs.toArray)) (e: (cs.drop off).take sz=vs)
 (h:az P n ops Q rest ((d,.agg vs.toArray)::l) H):az P n ops Q (⟨some d,.field s x i,ty,pos,a6,none⟩::rest) l H:=by
 obtain⟨c8,f,g,j,k,m⟩:=HC b;obtain⟨A,o,p⟩:=a.e_;obtain⟨inf,q,B,r⟩:=a.inf;refine df _ ak (λC w u=>?_) h;have v:cs.toArray.extract off (off+sz)=vs.toArray:=by
  rw[←e];simp
 have y: (Instr.field s (.agg cs.toArray) i).run P w= .ok (.agg vs.toArray) w:=by
  simp[Instr.field,asAgg,Result.andThen,run_underlying g,j,k,m,part,pw o,p,run_sizeOf q,r,←v]
 simp[execOp,u x _ c,y]
end
def cf {ι:Type} (v:ι→Value) (ok:ι→Prop) (w:World):Ending→World→Prop:=aO v [] (λ_=>[]) ok w
theorem cf.of {ι:Type} {v:ι→Value} {ok:ι→Prop} {w w':World} {x:Value} (i:ι) (hi:ok i) (a:x=v i) (h:Ext [] w w'):cf v ok w (.returned x) w':=⟨i,hi,by rw[a],⟨h,by simp[aA],by simp,by simp[aA]⟩⟩
end
end Go.Proofs.YtoghoobfpcadbaaGreatDoor.Mq
namespace Go.Proofs.YtoghoobfpcadbaaGreatDoor.Mq
open Go Go.RowKit
section
def nN (P:Program):Nat→TypeId→List Value→List Value→Bool
 | 0,_,_,_=>false
 | d+1,t,xs,dh=>match P.underlying t with
  | some (.int _)=>match xs,dh with
   | [.int k _],[.int a _]=>decide (k=a)
   | _,_=>false
  | some .bool=>match xs,dh with
   | [.bool _],[.bool _]=>true
   | _,_=>false
  | some (.struct c8)=> !P.stoodInHeld t && pD P (nN P d) c8.toList 0 xs dh
  | some (.array n e)=>(match P.info? e with
   | some i=>Nat.beq i.size 1 && Nat.beq (P.cellsOf e) 1
   | none=>false) && !jy P e && (P.underlying e).isSome && Nat.beq xs.length n && Nat.beq dh.length n && (List.range n).all (λj=>nN P d e ((xs.drop j).take 1) ((dh.drop j).take 1))
  | _=>false
theorem Bt {P:Program}: ∀(d:Nat) (t:TypeId) (xs dh:List Value),nN P d t xs dh=true→
 ∀e,∃b,∀w,(Op.equalIn (d+e) t (hn P t xs) (hn P t dh)).run P w= .ok b w
 | 0,_,_,_,h,_=>by simp[nN] at h
 | d+1,t,xs,dh,h,e=>by
  have g:d+1+e=(d+e)+1:=by omega
  rw[g];unfold nN at h
  split at h
  rename_i k c;split at h
  rename_i U a aK b;have A:U=aK:=by simpa using h
  subst A;exact⟨_,λw=>by simp[hn,jy,c,iH,run_equalIn_int w _ _ _ _ _ _ c];rfl⟩;cases h
  rename_i c;split at h
  exact⟨_,λw=>by simp[hn,jy,c,iH,Op.equalIn,run_underlying c];rfl⟩;cases h
  rename_i c8 c;simp only[d_,pp] at h
  obtain⟨V,W⟩:=h;have s: ∀p,hn P t p= .agg p.toArray:=λp=>by simp[hn,jy,c,iH]
  have N:P.fieldsOf t=c8:=by simp[Program.fieldsOf,c]
  have O:=λw=>run_equalIn_struct (P:=P) w (d+e) t xs.toArray dh.toArray (by rw[N];exact c) V
  rw[N] at O
  have B: ∀(l:List Field) (off:Nat) (us vs:List Value),us=xs.drop off→vs=dh.drop off→pD P (nN P d) l off us vs=true→ ∃b,∀w,(Op.eqFields (d+e) xs.toArray dh.toArray l).run P w= .ok b w:=by
   intro l;induction l with
   | nil=>
    intro off us vs _ _ h;exact⟨true,λw=>by simp[Op.eqFields]⟩
   | cons f l C=>
    intro off us vs D E h;simp only[pD,d_] at h
    obtain⟨⟨⟨⟨⟨⟨m,Q⟩,u⟩,F⟩,G⟩,o⟩,R⟩:=h;have X:f.offset=off:=fZ Q
    have H:=fZ F
    have I:=fZ G
    cases hi:P.info? f.type with
    | none=>rw[hi] at u;cases u.1
    | some i=>
     have S:kp P f.type=i.size:=by simp[kp,hi]
     rw[S] at H I o R
     have Y: ∃q,P.underlying f.type=some q:=by
      cases d with
      | zero=>simp[nN] at o
      | succ d=>
       unfold nN at o
       cases ak:P.underlying f.type with
       | none=>rw[ak] at o;cases o
       | some q=>exact⟨q,rfl⟩
     obtain⟨q,g⟩:=Y;have T:iH q=true→i.size=1:=λZ=>by
      rw[←S];have r:=u.2
      rw[mo] at r
      rcases r with r | r
      simp[jy,g,Z] at r
      exact fZ r
     have dS:=λw=>sg (P:=P) (w:=w) (cs:=xs) (off:=off) g hi T (by rw[←D];exact H)
     have gg:=λw=>sg (P:=P) (w:=w) (cs:=dh) (off:=off) g hi T (by rw[←E];exact I)
     rw[←D] at dS
     rw[←E] at gg
     obtain⟨v,J⟩:=Bt d f.type (us.take i.size) (vs.take i.size) o e;obtain⟨K,L⟩:=C (off+i.size) (us.drop i.size) (vs.drop i.size) (by rw[D,mr]) (by rw[E,mr]) R;have Za:f.name≠ "_":=by simpa using m
     refine⟨v && K,λw=>?_⟩;unfold Op.eqFields;rw[ay Za,X];simp only[Sem.run_bind,dS,gg,Result.andThen_ok,J];cases v with
     | true=>simpa using L w
     | false=>simp
  obtain⟨b,M⟩:=B c8.toList 0 xs dh av av W;exact⟨b,λw=>by rw[s,s,O w];exact M w⟩;rename_i n z c;simp only[d_] at h
  obtain⟨⟨⟨⟨⟨m,Q⟩,u⟩,F⟩,G⟩,o⟩:=h;have s: ∀p,hn P t p= .agg p.toArray:=λp=>by simp[hn,jy,c,iH]
  cases hi:P.info? z with
  | none=>rw[hi] at m;cases m
  | some i=>
   rw[hi] at m
   simp only[d_] at m
   have x:=fZ m.1
   have Zb:=fZ m.2
   obtain⟨q,g⟩:=Option.isSome_iff_exists.1 u;have H:=fZ F
   have I:=fZ G
   have B: ∀l:List Nat,(∀j∈l,j<n∧nN P d z ((xs.drop j).take 1) ((dh.drop j).take 1)=true)→ ∃b,∀w,(Op.eqItems (d+e) z 1 xs.toArray dh.toArray l).run P w= .ok b w:=by
    intro l;induction l with
    | nil=>exact λ_=>⟨true,λw=>by simp[Op.eqItems]⟩
    | cons j l C=>
     intro y;obtain⟨Zd,Zc⟩:=y j av;have dS:=λw=>sg (P:=P) (w:=w) (cs:=xs) (off:=j) g hi (λ_=>x) (by rw[x];simp;omega)
     have gg:=λw=>sg (P:=P) (w:=w) (cs:=dh) (off:=j) g hi (λ_=>x) (by rw[x];simp;omega)
     rw[x] at dS gg
     obtain⟨v,J⟩:=Bt d z ((xs.drop j).take 1) ((dh.drop j).take 1) Zc e;obtain⟨K,L⟩:=C (λk A=>y k (by simp[A]));refine⟨v && K,λw=>?_⟩;unfold Op.eqItems;rw[Nat.mul_one];simp only[Sem.run_bind,dS,gg,Result.andThen_ok,J];cases v with
     | true=>simpa using L w
     | false=>simp
   obtain⟨b,M⟩:=B (List.range n) (λj y=>⟨List.mem_range.1 y,iY.1 o j y⟩);exact⟨b,λw=>by rw[s,s,run_equalIn_array (P:=P) (w:=w) (d+e) xs.toArray dh.toArray c hi,Zb];exact M w⟩
  cases h
section
variable {P:Program} {n:Nat} {ops:Array Oper} {Q:cq} {rest:List Oper} {l:Fr} {H:World→Prop} {d:Nat} {ty:TypeId} {pos:String} {a6:Array Edge}
variable {cv dD:TypeId} {x y:Operand} {xs dh:List Value}
theorem SS {r:Bool} (c:sh P cv) (ak:Nat.blt d n=true) (e:ba l x=some (.agg xs.toArray)) (f:ba l y=some (.agg dh.toArray)) (g: ∀w,(Op.equalIn 10000 cv (.agg xs.toArray) (.agg dh.toArray)).run P w= .ok r w)
 (h:az P n ops Q rest ((d,.bool (!r))::l) H):az P n ops Q (⟨some d,.binOp .neq cv x y dD,ty,pos,a6,none⟩::rest) l H:=by
 refine df _ ak (λj w a=>?_) h;have i:=run_eqGuard_agg (P:=P) w .neq cv x y xs.toArray dh.toArray c.guard
 have b:=run_neq_struct (P:=P) w cv xs.toArray dh.toArray
 rw[g w] at b
 simp only[execOp,a x _ e,a y _ f];simp only[Sem.run_bind,i,Result.andThen_ok,b,Sem.run_pure]
end
end
end Go.Proofs.YtoghoobfpcadbaaGreatDoor.Mq
namespace Go.Proofs.YtoghoobfpcadbaaGreatDoor.Mq
open Go Go.RowKit Go.Proofs
def Aj (c:Int):Int:=if c=237 then 159 else if c=244 then 143 else 191
structure fX where
 pre:Int
 head:List UInt8
 inter:List UInt8
 text:List UInt8
 last:Int
 j_:Bool
 cut:Bool
def nO:fX:=⟨0,[],[],[],0,false,false⟩
def Bu:fX:=⟨0,[],[],[],0,true,false⟩
def ya (h:fX) (c:UInt8):fX:=
 if h.inter.length=2 then Bu else if h.j_=true then h else { h with inter:=h.inter++[c] }
end Go.Proofs.YtoghoobfpcadbaaGreatDoor.Mq
