/- part 37 of the proof -/
import Derived.Test.YtlgnfdodnhokjaaGreatDoorQ36
import Derived.WalkMore
namespace Go.Proofs.YtlgnfdodnhokjaaGreatDoor.Mq
open Go Go.RowKit Go.Proofs Tryz
theorem KK (w:World) (F:Nat→Prop) (A:Option Addr) (n c:Nat) (L:List Int) (h:Rd bT w F A n c L) (o:n≤1000000):Calls prog 92 [.slice A n c].toArray w
 (aP (λz:gn=>z.val) [] (λz=>[z.au]) (λz=>z.l.length≤n) w):=by
 have p:=h.len
 refine aV func92 ntmps92 ?_;refine aK ?_;refine qV 3 1 ?_;refine rn (E:=bT) (src:=L) (F:=F) (m:=0) (xs:=[]) L.length aa dL rfl rfl rfl (λ_=>by exact cA) (λw' i=>h.ext i.ext av) (by simp only[maxLen];omega) aa (λa b=>?_);refine al ?_;refine a6 (l0:=[gn.au ⟨a,b,L⟩]) ae rfl NH rfl (λe f=>XP e ⟨a,b,L⟩ (f.bo ae) (by show L.length≤1000000;omega)) (λd g=>?_);refine ay ?_;refine a6 (l0:=[gn.au ⟨a,b,d⟩]) ae rfl NI (by rw[←g];rfl) (λe f=>XQ e ⟨a,b,d⟩ (f.bo ae) (by show d.length≤1000000;dsimp only at g;omega)) (λy j=>?_);refine ay ?_;intro q k;exact aN y (fp j (by show d.length≤n;dsimp only at g;omega)) k
theorem KL (w:World) (n:Nat) (f:FuncId) (cap:List Value) (s:n≤1000000) (d:ad prog f)
 (e: ∀w',Ext [] w w'→ ∀i:Nat,i<n→Calls prog f (([]:List Value)++[Value.int .i64 (i:Int)]++cap).toArray w' (wm w')):
 Calls prog 281 [.int .i64 (n:Int),.func (.func f) [].toArray cap.toArray].toArray w (ca (λk:Int=> .int .i64 k) (λk=>0≤k∧k≤n) w):=by
 refine aV func281 ntmps281 ?_;refine b7 ?_;refine b2 (ι:=Nat × Nat) (λi=>[(1,.func (.func f) [].toArray cap.toArray),(5,.int .i64 (i.1 :Int)),(6,.int .i64 (i.2 :Int))]) (λ_=>af w [] []) (λi=>i.1≤i.2∧i.2≤n) (λi=>i.2 - i.1) ?_ ?_;exact λw a=>⟨(0,n),⟨bP _,bW _⟩,(em rfl rfl rfl),a⟩
 rintro⟨i,j⟩ ⟨g,c⟩;dsimp only at g c ⊢
 obtain⟨m,t⟩ : ∃m,m=(i+j)/2:=⟨_,rfl⟩;refine aK ?_;refine aj (λl=>?_) (λl=>?_);refine aK ?_;refine dn rfl rfl underlying3 underlying268 (r:=(i:Int)+(j:Int)) (by simp[IntKind.wrap,IntKind.bits,IntKind.signed];omega) ?_;refine Gq rfl rfl rfl aZ (r:=(m:Int)) (by rw[show min (1 :Int).toNat IntKind.u64.bits=1 from rfl];omega) ?_;refine dn rfl rfl underlying268 underlying3 (r:=(m:Int)) (by simp[IntKind.wrap,IntKind.bits,IntKind.signed];omega) ?_;refine aC ?_;refine lU (l0:=[]) (first:=[]) (cap:=cap) aA.nil rfl rfl d rfl (λo p=>e o p.ext m aa) (λb _=>?_);refine ah ?_;refine b1 rfl (λq=>?_) (λq=>?_);refine al ?_;exact bi (m+1,j) ⟨by dsimp only;omega,c⟩ bm bR (λ_ h=>h);refine ay ?_;exact bi (i,m) ⟨by dsimp only;omega,by dsimp only;omega⟩ bm bR (λ_ h=>h);refine bH ?_;intro u a;exact ca.of (i:Int) ⟨aa,aa⟩ rfl a.ext
theorem XR (w:World) (F:Nat→Prop) (A:Option Addr) (n c:Nat) (L:List Int) (e:Rd bT w F A n c L) (f g:Nat) (x:Int) (j: (aD f [.slice A n c] 73).pred w) (k: (aD g [.int .i64 x] 3).pred w) (i:Nat) (hi:i<n):
 Calls prog 282 (([]:List Value)++[Value.int .i64 (i:Int)]++[ptr f,ptr g]).toArray w (wm w):=by
 have r:=e.len
 obtain⟨v,l⟩ : ∃v,L[i]? = some v:=⟨_,bE aa⟩;obtain⟨bY,m,s,o⟩:=e.at_ l;refine aV func282 ntmps282 ?_;refine al ?_;refine bF [0,1,2,3,4,5,6] 0 [[]] ?_;refine aL rfl (λd a=>(a_ im rfl rfl (λh b=>by subst b;exact a.bU j (by (simp;done)) rfl) aG)) ?_;refine ar ?_;refine aL rfl (λd a=>(bC (q:=i) dL rfl rfl rfl m rfl aa aG)) ?_;refine aL rfl (λd a=>(a_ (v:= .int .i64 v) bN rfl rfl (λh b=>by subst b;exact a.cu (o 0 _ rfl) av) aG)) ?_;refine aL rfl (λd a=>(a_ bN rfl rfl (λh b=>by subst b;exact a.bU k (by (simp;done)) rfl) aG)) ?_;refine aC ?_;intro t p;exact ca.of _ a1 rfl p.ext
theorem XS (w:World) (F:Nat→Prop) (A:Option Addr) (n c:Nat) (L:List Int) (e:Rd bT w F A n c L) (f g:Nat) (x:Int) (j: (aD f [.slice A n c] 73).pred w) (k: (aD g [.int .i64 x] 3).pred w) (i:Nat) (hi:i<n):
 Calls prog 283 (([]:List Value)++[Value.int .i64 (i:Int)]++[ptr f,ptr g]).toArray w (wm w):=by
 have r:=e.len
 obtain⟨v,l⟩ : ∃v,L[i]? = some v:=⟨_,bE aa⟩;obtain⟨bY,m,s,o⟩:=e.at_ l;refine aV func283 ntmps283 ?_;refine al ?_;refine bF [0,1,2,3,4,5,6] 0 [[]] ?_;refine aL rfl (λd a=>(a_ im rfl rfl (λh b=>by subst b;exact a.bU j (by (simp;done)) rfl) aG)) ?_;refine ar ?_;refine aL rfl (λd a=>(bC (q:=i) dL rfl rfl rfl m rfl aa aG)) ?_;refine aL rfl (λd a=>(a_ (v:= .int .i64 v) bN rfl rfl (λh b=>by subst b;exact a.cu (o 0 _ rfl) av) aG)) ?_;refine aL rfl (λd a=>(a_ bN rfl rfl (λh b=>by subst b;exact a.bU k (by (simp;done)) rfl) aG)) ?_;refine aC ?_;intro t p;exact ca.of _ a1 rfl p.ext
abbrev KM (n:Nat) (w:World):=ca (λk:Int=> .int .i64 k) (λk=>0≤k∧k≤n) w
theorem XT (w:World) (F:Nat→Prop) (A:Option Addr) (n c:Nat) (L:List Int) (e:Rd bT w F A n c L) (f:n≤1000000) (x:Int):Calls prog 201 [.slice A n c,.int .i64 x].toArray w (KM n w):=by
 refine aV func201 ntmps201 ?_;refine ah ?_;intro g m o;refine ar ?_;intro h p q;refine aK ?_;refine a6 (l0:=[]) aA.nil rfl Ag rfl (λa b=>KL a n _ _ f Oy (λw' d i hi=>XR w' F A n c L ((e.ext b.ext av).dJ d) g h x ((af.start a).keep d |>.dF (b.has bJ) av) ((af.start a).keep d |>.dF (b.has aT) av) i hi)) (λk j=>?_);refine ay ?_;intro r l;exact ca.of k j rfl l.ext
theorem XU (w:World) (F:Nat→Prop) (A:Option Addr) (n c:Nat) (L:List Int) (e:Rd bT w F A n c L) (f:n≤1000000) (x:Int):Calls prog 202 [.slice A n c,.int .i64 x].toArray w (KM n w):=by
 refine aV func202 ntmps202 ?_;refine ah ?_;intro g m o;refine ar ?_;intro h p q;refine aK ?_;refine a6 (l0:=[]) aA.nil rfl Ag rfl (λa b=>KL a n _ _ f Oz (λw' d i hi=>XS w' F A n c L ((e.ext b.ext av).dJ d) g h x ((af.start a).keep d |>.dF (b.has bJ) av) ((af.start a).keep d |>.dF (b.has aT) av) i hi)) (λk j=>?_);refine ay ?_;intro r l;exact ca.of k j rfl l.ext
abbrev Dh (w:World):=ca (λt:Int × Bool=> .tuple #[.int .i64 t.1,.bool t.2]) (λ_=>True) w
theorem XV (w:World) (F:Nat→Prop) (A:Option Addr) (n c:Nat) (L:List Int) (a:Rd bT w F A n c L) (d:n≤1000000) (x:Int):Calls prog 139 [.slice A n c,.int .i64 x].toArray w (Dh w):=by
 have p:=a.len
 refine aV func139 ntmps139 ?_;refine bp ?_;refine a6 (l0:=[]) aA.nil rfl N2 rfl (λe f=>XT e F A n c L (a.ext f.ext av) d x) (λk r=>?_);refine bp ?_;refine aj (λg=>?_) (λg=>?_);obtain⟨q,h⟩ : ∃q:Nat,k=(q:Int):=⟨k.toNat,aa⟩;obtain⟨v,i⟩ : ∃v,L[q]? = some v:=⟨_,bE aa⟩;obtain⟨bY,j,s,l⟩:=a.at_ i;refine aS ?_;refine bC (q:=q) dL rfl rfl rfl j h aa ?_;refine a_ (v:= .int .i64 v) bN rfl rfl (λt m=>m.cu (l 0 _ rfl) av) ?_;refine aC ?_;intro o b;exact ca.of (_,_) a1 rfl b.ext;refine aQ ?_;intro o b;exact ca.of (_,_) a1 rfl b.ext
theorem XW (w:World) (F:Nat→Prop) (A:Option Addr) (n c:Nat) (L:List Int) (a:Rd bT w F A n c L) (d:n≤1000000) (x:Int):Calls prog 140 [.slice A n c,.int .i64 x].toArray w (Dh w):=by
 have p:=a.len
 refine aV func140 ntmps140 ?_;refine aQ ?_;refine a6 (l0:=[]) aA.nil rfl N3 rfl (λe f=>XU e F A n c L (a.ext f.ext av) d x) (λk r=>?_);refine aQ ?_;refine aj (λg=>?_) (λg=>?_);refine aJ ?_;intro h b;exact ca.of (_,_) a1 rfl b.ext;obtain⟨q,i⟩ : ∃q:Nat,k - 1=(q:Int):=⟨(k - 1).toNat,aa⟩;obtain⟨v,j⟩ : ∃v,L[q]? = some v:=⟨_,bE aa⟩;obtain⟨bY,l,s,m⟩:=a.at_ j;refine aC ?_;refine bC (q:=q) dL rfl rfl rfl l i aa ?_;refine a_ (v:= .int .i64 v) bN rfl rfl (λt o=>o.cu (m 0 _ rfl) av) ?_;refine al ?_;intro h b;exact ca.of (_,_) a1 rfl b.ext
theorem XX (w:World) (b:fd) (k:Int):Calls prog 91 [.agg b.enc.toArray,.int .i64 k].toArray w (Dh w):=by
 refine aV func91 ntmps91 ?_;refine ah ?_;intro j l m;refine b7 ?_;refine aj (λe=>?_) (λe=>?_);refine bp ?_;intro c a;exact ca.of (_,_) a1 rfl a.ext;refine aC ?_;refine aj (λaH=>?_) (λaH=>?_);refine bH ?_;intro c a;exact ca.of (_,_) a1 rfl a.ext;refine aC ?_;refine aj (λf=>?_) (λf=>?_);refine ar ?_;refine bF [0,1,2,3,4,5,6,7,8,9,10,11,12] 0 [[]] ?_;refine aC ?_;refine ny 25 rfl (λd=>?_) (λd=>?_);have g:=aX d
 refine bH ?_;intro c a;exact ca.of (_,_) a1 rfl a.ext;have g:=bd d
 refine bH ?_;intro c a;exact ca.of (_,_) a1 rfl a.ext;refine aC ?_;refine aj (λh=>?_) (λh=>?_);refine ar ?_;refine bF [0,1,2,3,4,5,6,7,8,9,10,11] 0 [[]] ?_;refine al ?_;refine ny 38 rfl (λi=>?_) (λi=>?_);refine bH ?_;intro c a;exact ca.of (_,_) a1 rfl a.ext;refine bH ?_;intro c a;exact ca.of (_,_) a1 rfl a.ext;refine bp ?_;intro c a;exact ca.of (_,_) a1 rfl a.ext
theorem XY (w:World) (F:Nat→Prop) (A:Option Addr) (n c:Nat) (L:List fd) (e:Rd jU w F A n c L) (K:n≤100000) (k:Int):Calls prog 53 [.slice A n c,.int .i64 k].toArray w
 (aP (λz:gn=>z.val) [] (λz=>[z.au]) (λz=>z.l.length≤n) w):=by
 have M:=e.len
 refine aV func53 ntmps53 ?_;refine eR ?_;refine cH (H':=af w [] [gn.au ⟨none,0,[]⟩]) ?_ (Sub.refl _) (λx f=>f.eU 3 bT);refine ar ?_;refine b2 (ι:=Nat × gn) (λt=>[(1,.int .i64 k),(5,t.2.val),(10,.slice A n c),(11,.int .i64 (n:Int)),(12,.int .i64 (t.1 :Int))]) (λt=>af w [] [t.2.au]) (λt=>t.1≤n∧t.2.l.length≤t.1) (λt=>n - t.1) ?_ ?_;exact λw' g=>⟨(0,⟨none,0,[]⟩),⟨bP _,bP _⟩,(ec rfl rfl rfl rfl rfl),g⟩
 rintro⟨i,z⟩ ⟨hi,m⟩;dsimp only at hi m ⊢
 refine al ?_;refine aj (λp=>?_) (λp=>?_);obtain⟨v,s⟩ : ∃v,L[i]? = some v:=⟨_,bE aa⟩;obtain⟨bY,B,N,C⟩:=e.at_ s;refine al ?_;refine bC (q:=i) mJ rfl rfl rfl B rfl aa ?_;refine cx (vs:=v.enc) gz rfl rfl rfl (λO D j u a=>D.cu (C j u a) av) ?_;refine ar ?_;intro P Q R;refine e3 (vs:=v.enc) gz rfl rfl (bn.whole cA bc) rfl (aI.cons rfl (aI.cons rfl (aI.cons rfl (aI.cons rfl (aI.cons rfl (aI.cons rfl (aI.cons rfl (gg rfl rfl rfl rfl rfl rfl rfl rfl rfl rfl)))))))) (by exact dV rfl) ?_;refine aS ?_;refine cx (vs:=v.enc) gz rfl rfl rfl (λS G j u a=>G.k6 (sz:=17) (o:=0) (xs:=v.enc) aT rfl j u a) ?_;refine ar ?_;refine a6 (l0:=[]) aA.nil rfl Nj rfl (λd _=>XX d v k) (λ⟨r,b⟩ _=>?_);refine bx ?_;refine b1 rfl (λH=>?_) (λH=>?_);refine ah ?_;refine dy (E:=bT) _ dL rfl rfl rfl rfl rfl (λT U V=>?_);refine eC (E:=bT) dL rfl rfl rfl bj (λ_ _=>ew) b4 b4 (λW X=>?_);refine aK ?_;exact bi (i+1,⟨_,_,z.l++[r]⟩) ⟨aa,by dsimp only;rw[b6,jY];omega⟩ bm (ec rfl rfl rfl rfl rfl) (λ_ h=>h.ax ae);refine aC ?_;exact bi (i+1,z) ⟨aa,by dsimp only;omega⟩ bm bR (λ_ h=>h.ax ae);refine aK ?_;refine a6 (l0:=[]) aA.nil rfl EI rfl (λd I=>KK d _ z.A z.l.length z.c z.l (hv (I.has (c:=z.au) aT)) aa) (λy Y=>?_);refine ay ?_;intro Z J;exact aN y aa J
theorem XZ (w:World) (F:Nat→Prop) (A:Option Addr) (n c:Nat) (L:List Int) (o:Rd bT w F A n c L) (q:n≤100000) (x k:Int) (s: -9223372036854775808≤k∧k≤9223372036854775807):Calls prog 89 [.slice A n c,.int .i64 x,.int .i64 k].toArray w
 (ca (λr:Int=> .int .i64 r) (λ_=>True) w):=by
 refine aV func89 ntmps89 ?_;refine aK ?_;refine a6 (l0:=[]) aA.nil rfl EI rfl (λd e=>KK d F A n c L (o.ext e.ext av) aa) (λz u=>?_);refine ey ?_;refine aj (λp=>?_) (λp=>?_);refine aS ?_;refine oG rfl rfl (wrap64 aa aa) ?_;refine aq ?_;refine oG rfl rfl (wrap64 aa aa) ?_;refine dB ?_;refine b2 (ι:=Nat × Int) (λt=>[(1,.int .i64 t.2),(7,z.val),(8,.func (.func 140) #[] #[]),(28,.int .i64 (min (0 - max k (0 - (z.l.length:Int) - 1)) ((z.l.length:Int)+1))),(29,.int .i64 (t.1 :Int))]) (λ_=>af w [] [z.au]) (λt=>t.1≤200000) (λt=>200000 - t.1) ?_ ?_;exact λw' f=>⟨(0,x),bP _,(ec rfl rfl rfl rfl rfl),f.ax ae⟩
 rintro⟨i,y⟩ hi;dsimp only at hi ⊢
 refine al ?_;refine aj (λg=>?_) (λg=>?_);refine aJ ?_;refine lU (l0:=[]) (first:=[]) (cap:=[]) aA.nil rfl rfl ND rfl (λd e=>XW d _ z.A z.l.length z.c z.l (hv (e.has (c:=z.au) aT)) aa y) (λ⟨r,b⟩ _=>?_);refine b7 ?_;refine b1 rfl (λj=>?_) (λj=>?_);simp only[bZ] at j
 refine aq ?_;refine sh rfl (sf (si (sg (mG (k2 (ni ?_))))));refine al ?_;intro m a;exact ca.of _ a1 rfl (a.ax aA.nil).ext;simp only[bZ] at j
 refine bx ?_;exact bi (i+1,r) bm bm bR (λ_ h=>h.ax ae);refine bH ?_;intro m a;exact ca.of _ a1 rfl (a.ax aA.nil).ext;refine b7 ?_;refine b2 (ι:=Nat × Int) (λt=>[(1,.int .i64 t.2),(7,z.val),(8,.func (.func 139) #[] #[]),(28,.int .i64 (min k ((z.l.length:Int)+1))),(29,.int .i64 (t.1 :Int))]) (λ_=>af w [] [z.au]) (λt=>t.1≤200000) (λt=>200000 - t.1) ?_ ?_;exact λw' f=>⟨(0,x),bP _,(ec rfl rfl rfl rfl rfl),f.ax ae⟩
 rintro⟨i,y⟩ hi;dsimp only at hi ⊢
 refine al ?_;refine aj (λg=>?_) (λg=>?_);refine aJ ?_;refine lU (l0:=[]) (first:=[]) (cap:=[]) aA.nil rfl rfl NC rfl (λd e=>XV d _ z.A z.l.length z.c z.l (hv (e.has (c:=z.au) aT)) aa y) (λ⟨r,b⟩ _=>?_);refine b7 ?_;refine b1 rfl (λaH=>?_) (λaH=>?_);simp only[bZ] at aH
 refine aq ?_;refine sh rfl (sf (si (sg (mG (k2 (ni ?_))))));refine al ?_;intro m a;exact ca.of _ a1 rfl (a.ax aA.nil).ext;simp only[bZ] at aH
 refine bx ?_;exact bi (i+1,r) bm bm bR (λ_ h=>h.ax ae);refine bH ?_;intro m a;exact ca.of _ a1 rfl (a.ax aA.nil).ext
section
section
variable {P:Program} {n:Nat} {Q:cq} {l:Fr} {H:World→Prop}
def Di (Q:cq):cq:=λe l w=>match e with
 | .goto _=>False
 | e=>Q e l w
theorem KN {c:Code} (h:dc P n c (Di Q) l H):dc P n (.scope c) Q l H:=by
 intro w d a f;refine wp_scope_straight (wp_mono (h w d a f) ?_);intro e a' w' ⟨l',g,b⟩;cases e <;> first | exact b.elim | exact⟨l',g,b⟩
theorem Dj (h:dS Q .normal l H):dS (Di Q) .normal l H:=h
theorem X0 (h:dS Q .ret l H):dS (Di Q) .ret l H:=h
end
abbrev qC (s:List UInt8) (i:Nat) (L:List Int):Prop:= ∀(j:Nat) (v:Int),L[j]? = some v→(j≤i→lg s j v)∧(i<j→v=0)
theorem qC.set {s:List UInt8} {i:Nat} {L:List Int} (h:qC s i L) {k:Int} (c:lg s (i+1) k):qC s (i+1) (L.set (i+1) k):=λj v a=>by
 rw[om] at a
 split at a
 rename_i d;split at a
 injection a with a
 subst a;exact⟨λ_=>d▸c,λb=>by omega⟩;cases a
 exact⟨λb=>(h j v a).1 aa,λb=>(h j v a).2 aa⟩
theorem qC.zero {s:List UInt8} {i:Nat} {L:List Int} (h:qC s i L) (c:lg s (i+1) 0):qC s (i+1) L:=λj v a=>
 ⟨λd=>by
  rcases ej i j with b | b
  rw[(h j v a).2 b,show j=i+1 by omega];exact c
  exact (h j v a).1 b,λd=>(h j v a).2 aa⟩
theorem KO {a b:UInt8} (h: (a.toNat:Int)=(b.toNat:Int)):a=b:=UInt8.toNat_inj.1 aa
theorem y2 (w:World) (c:UInt8):Calls prog 36 (([]:List Value)++[Value.int .u8 (c.toNat:Int)]++[]).toArray w (Pure (.int .u8 (c.toNat:Int)) w):=by
 refine aV func36 ntmps36 ?_;refine bH ?_;intro b a;exact⟨rfl,a.ext⟩
abbrev rW:Value:= .func (.func 36) #[] #[]
abbrev ua (g m:Nat) (L:List Int):Chunk:=own 3 1 (.slice (some ⟨g,0,none⟩) m m) m (bT.all L)
theorem X1 (w:World) (s:List UInt8) (P:s.length≤1000000):Calls prog 67 [.string (bs s),rW].toArray w
 (aP (λi:Nat × List Int=> .slice (some ⟨i.1,0,none⟩) (s.length+1) (s.length+1)) [] (λi=>[ua i.1 (s.length+1) i.2]) (λi=>i.2.length=s.length+1∧ ∀(j:Nat) (v:Int),i.2[j]? = some v→lg s j v) w):=by
 refine aV func67 ntmps67 ?_;refine ay ?_;refine KN (k2 (ni ?_));refine ah ?_;refine sq (s.length+1) dL rfl rfl rfl rfl (by simp only[maxLen];omega) aa (λd Q R=>?_);refine al ?_;refine bC (q:=0) dL rfl rfl rfl rfl rfl aa ?_;refine k4 (o:=0) bN rfl rfl cA (by simp[Addr.add_lit]) rfl (by rw[zq];show 0<(s.length+1)*1;omega) ?_;refine aK ?_;refine DG (mG (k2 (k2 (ni ?_))));refine aS ?_;obtain⟨f,x⟩ : ∃f:List Int,f=(-1)::List.replicate s.length 0:=⟨_,rfl⟩;have G: (ff [Value.int .i64 0] (s.length+1)).set 0 (.int .i64 (-1))=bT.all f:=by
  rw[x,Gm,mD,rV,rV];rfl
 have H:qC s 0 f:=by
  rw[x];intro j v a;cases j with
  | zero=>cases a;exact⟨λ_=>F9 s,λh=>by omega⟩
  | succ j=>
   rw[List.getElem?_cons_succ] at a
   exact⟨λh=>by omega,λ_=>ng (da a)⟩
 refine b2 (ι:=Nat × Int × List Int) (λt=>[(0,.string (bs s)),(1,rW),(5,.slice (some ⟨d,0,none⟩) (s.length+1) (s.length+1)),(6,.int .i64 t.2.1),(7,.int .i64 (t.1 :Int))]) (λt=>af w [] [ua d (s.length+1) t.2.2]) (λt=>t.1≤s.length∧lg s t.1 t.2.1∧t.2.2.length=s.length+1∧qC s t.1 t.2.2) (λt=>s.length - t.1) ?_ ?_
 ·exact λw' r=>⟨(0,-1,f),⟨bP _,F9 s,by rw[x];simp,H⟩,(ec rfl rfl rfl rfl rfl),by rw[G] at r;exact r⟩
 ·rintro⟨i,k,L⟩ ⟨hi,b,u,l⟩
  dsimp only at hi b u l ⊢
  refine aJ ?_;refine aj (λI=>?_) (λI=>?_)
  ·obtain⟨y,z⟩ : ∃c,s[i]? = some c:=⟨_,bE aa⟩
   refine al ?_;refine b2 (ι:=Int) (λk=>[(0,.string (bs s)),(1,rW),(5,.slice (some ⟨d,0,none⟩) (s.length+1) (s.length+1)),(6,.int .i64 k),(7,.int .i64 (i:Int))]) (λ_=>af w [] [ua d (s.length+1) L]) (λk=>nD s (s.take i) y i k) (λk=>(k+1).toNat) ?_ ?_
   ·exact λw' r=>⟨k,b.AC y,(ec rfl rfl rfl rfl rfl),r⟩
   ·rintro k b
    have S:=b.lo
    have T:=b.hi
    refine aC ?_;refine aj (λF=>?_) (λF=>?_)
    ·obtain⟨ck,A⟩ : ∃c,s[k.toNat]? = some c:=⟨_,bE aa⟩
     obtain⟨v,a⟩ : ∃v,L[k.toNat]? = some v:=⟨_,bE aa⟩;have B:=(l _ _ a).1 aa
     have U:=B.lo
     have V:=B.hi
     refine ay ?_;refine bF [0,1,2,3,5,6,7,8] 2 [[(4,false,[]),(9,true,[10])]] ?_;refine ah ?_;refine aL rfl (λJ K=>(ij (q:=i) underlying9 rfl rfl rfl rfl z aG)) ?_;refine ah ?_;refine aL rfl (λJ K=>(ij (q:=k.toNat) underlying9 rfl rfl rfl aa A aG)) ?_;refine aq ?_;refine gU rfl rfl wV rfl (λw' _=>y2 w' y) ?_;refine ah ?_;refine gU rfl rfl wV rfl (λw' _=>y2 w' ck) ?_;refine ay ?_;refine aj (λC=>?_) (λC=>?_)
     ·have n:lg s (i+1) (k+1):=(b.step aa (λ_=>by rw[A,KO C])).F_ z
      have M: (bT.all L).set ((i+1)*1) (.int .i64 (k+1))=bT.all (L.set (i+1) (k+1)):=by
       rw[rV,rV,Nat.mul_one,oo]
      refine bH ?_;refine bC (q:=i+1) dL rfl rfl rfl rfl aa aa ?_;refine k4 (o:=(i+1)*1) bN rfl rfl cA (by rw[Addr.add_lit,dE]) rfl (by rw[bT.dI];show (i+1)*1<L.length*1;omega) ?_;refine aS ?_;refine sh rfl (si (sh rfl (sf (sg (mG (ni ?_))))));refine aS ?_;refine bi (i+1,k+1,L.set (i+1) (k+1)) ⟨by dsimp only;omega,n,by dsimp only;rw[gc];exact u,l.set n⟩ bm (ec rfl rfl rfl rfl rfl) (λ_ h=>?_);rw[M] at h
      exact h.ax ae
     ·refine ay ?_
      refine bC (q:=k.toNat) dL rfl rfl rfl rfl aa aa ?_;refine a_ (v:= .int .i64 v) bN rfl rfl (λW p=>by have D:=p.k5 (E:=bT) (e:=3) (g:=d) (m:=s.length+1) (c:=s.length+1) (L:=L) aT a 0 _ rfl;rw[Addr.add_lit,Addr.add_lit] at D;rw[Addr.add_lit];exact D) ?_;refine ah ?_;exact bi v (b.next F (λe=>C (by rw[A] at e;injection e with e;rw[e])) B) aa bR (λ_ h=>h.ax ae)
    ·have N:k= -1:=by omega
     have n:lg s (i+1) 0:=by
      have p:=(b.step aa (λD=>by omega)).F_ z
      rw[N] at p
      exact p
     refine cF ?_;exact bi (i+1,0,L) ⟨by dsimp only;omega,n,u,l.zero n⟩ bm bR (λ_ h=>h.ax ae)
  ·refine bx ?_
   refine X0 ?_;refine ar ?_;intro X O;exact aN (d,L) ⟨u,λj v a=>(l j v a).1 (by have p:j<L.length:=(cK.1 a).1;omega)⟩ O
end
theorem aP.star {ι:Type} {v:ι→Value} {l:List Chunk} {l':ι→List Chunk} {ok:ι→Prop} {w w':World} {e:Ending} (h:aP v l l' ok w e w'):aP v [aR l] (λi=>[aR (l' i)]) ok w e w':=by
 obtain⟨i,hi,rfl,a⟩:=h;have b:aB [aR l]=aB l:=by rw[xk,eu]
 have c:af w (aB l) (l' i++[]) w':=by rw[eu];exact a
 exact⟨i,hi,rfl,b▸c.close'⟩
theorem a8.i7 {w:World} {l:List Chunk} (h:a8 w [aR l]):a8 w l:=by
 have:=h.open
 rwa [eu] at this
theorem Dk {b w:World} {S:List Nat} {cs:List Chunk} (h:af b S cs w) {g m k:Nat} {L:List Int} {v:Int} (d:Has cs (ua g m L)) (f:L[k]? = some v):w.cell? ((⟨g,0,none⟩ :Addr).add (k*1))=some (.int .i64 v):=by
 have a:=h.k5 (E:=bT) (e:=3) (g:=g) (m:=m) (c:=m) (L:=L) d f 0 _ rfl
 rw[Addr.add_lit,Addr.add_lit] at a
 rw[Addr.add_lit];exact a
set_option maxHeartbeats 1000000 in
theorem Dl (w:World) (t s:List UInt8) (Zr:t.length≤1000000) (A:1≤s.length∧s.length≤1000000) {ι:Type} (X:ι→Chunk) (l:Nat→ι→Prop) (U:ι→Prop) (Zc: ∀n i,n<t.length→l n i→ ¬s<:+ t.take (n+1)→l (n+1) i) (f:Nat) (cap:List Value) (V:ad prog f)
 (W: ∀(d:World) (n:Nat) (i:ι) (a:Int),l n i→n<t.length→s<:+ t.take (n+1)→a=((n+1 :Nat):Int) - s.length→0≤a→a8 d [X i]→Calls prog f (([]:List Value)++[Value.int .i64 a]++cap).toArray d (aP (λj:Bool × ι=> .bool j.1) [X i] (λj=>[X j.2]) (λj=>(j.1=true→l (n+1) j.2)∧(j.1=false→U j.2)) d))
 (y:ι) (Zd:a8 w [X y]) (Ze:l 0 y):Calls prog 35 [.string (bs t),.string (bs s),rW,.func (.func f) #[] cap.toArray].toArray w
 (aP (λ_:ι=> .tuple #[]) [X y] (λi=>[X i]) (λi=>l t.length i∨U i) w):=by
 refine bI func35 ntmps35 Zd ?_;refine KN (k2 (k2 (ni ?_)));refine aS ?_;refine aj (λY=>?_) (λY=>?_)
 ·exact absurd Y (λh=>by rw[h] at A;simp at A)
 ·refine al ?_
  refine a6 (l0:=[]) aA.nil rfl M_ rfl (λd _=>X1 d s A.2) (λ⟨cd,o⟩ Zf=>?_);refine aJ ?_;refine DG (mG (k2 (ni ?_)));refine aS ?_;obtain⟨Zg,H⟩:=Zf;dsimp only at Zg H
  refine b2 (ι:=Nat × Int × ι) (λq=>[(0,.string (bs t)),(1,.string (bs s)),(2,rW),(3,.func (.func f) #[] cap.toArray),(8,.slice (some ⟨cd,0,none⟩) (s.length+1) (s.length+1)),(9,.int .i64 q.2.1),(10,.int .i64 (q.1 :Int))]) (λq=>af w (aB [X y]) [ua cd (s.length+1) o,X q.2.2]) (λq=>q.1≤t.length∧hN s (t.take q.1) s.length q.2.1∧l q.1 q.2.2) (λq=>t.length - q.1) ?_ ?_
  ·exact λw' M=>⟨(0,0,y),⟨bP _,P1 s A.1,Ze⟩,(gX rfl rfl rfl rfl rfl rfl rfl),M⟩
  ·rintro⟨i,k,x⟩ ⟨hi,r,B⟩
   dsimp only at hi r B ⊢
   refine aJ ?_;refine aj (λZh=>?_) (λZh=>?_)
   ·obtain⟨g,Z⟩ : ∃c,t[i]? = some c:=⟨_,bE aa⟩
    refine al ?_;refine b2 (ι:=Int) (λk=>[(0,.string (bs t)),(1,.string (bs s)),(2,rW),(3,.func (.func f) #[] cap.toArray),(8,.slice (some ⟨cd,0,none⟩) (s.length+1) (s.length+1)),(9,.int .i64 k),(10,.int .i64 (i:Int))]) (λ_=>af w (aB [X y]) [ua cd (s.length+1) o,X x]) (λk=>nD s (t.take i) g s.length k) (λk=>(k+1).toNat) ?_ ?_
    ·exact λw' M=>⟨k,r.AC g,(gX rfl rfl rfl rfl rfl rfl rfl),M⟩
    ·rintro k r
     have Zs:=r.lo
     have Zt:=r.hi
     obtain⟨ck,N⟩ : ∃c,0≤k→s[k.toNat]? = some c:=⟨(s[k.toNat]?).getD 0,λh=>by rw[bE aa];rfl⟩;obtain⟨v,O⟩ : ∃v,0≤k→o[k.toNat]? = some v:=⟨(o[k.toNat]?).getD 0,λh=>by rw[bE aa];rfl⟩;obtain⟨u,P⟩ : ∃u,o[(k+1).toNat]? = some u:=⟨_,bE aa⟩;have I:=H _ _ P
     have Zu:=I.lo
     have Zv:=I.hi
     have Zw:0≤k→ -1≤v∧v<k:=λh=>by have:=H _ _ (O h);have p:=this.lo;have J:=this.hi;omega
     have Zi:0≤k→(g.toNat:Int)≠(ck.toNat:Int)→nD s (t.take i) g s.length v:=λh Zj=>r.next h (λe=>Zj (by rw[N h] at e;injection e with e;rw[e])) (H _ _ (O h))
     have Zk:t.take (i+1)=t.take i++[g]:=by rw[fR,Z];rfl
     have Q: (0≤k→(g.toNat:Int)=(ck.toNat:Int))→hN s (t.take (i+1)) (s.length+1) (k+1):=λh=>by
      rw[Zk];exact r.step (bW _) (λp=>by rw[N p,KO (h p)])
     have K: (0≤k→(g.toNat:Int)=(ck.toNat:Int))→k+1<s.length→hN s (t.take (i+1)) s.length (k+1)∧l (i+1) x:=λh p=>⟨(Q h).shrink p,Zc _ _ aa B ((Q h).none p)⟩
     have z: (0≤k→(g.toNat:Int)=(ck.toNat:Int))→k+1=s.length→s<:+ t.take (i+1)∧s.length≤i+1∧hN s (t.take (i+1)) s.length u:=λh p=>by
      have J:=(Q h).some p
      have Zl:=J.length_le
      rw[dl] at Zl
      refine⟨J,aa,hN.again J A.1 ?_⟩;rw[show (k+1).toNat=s.length by omega] at I
      exact I
     refine aq ?_;refine bF [0,1,2,3,4,5,6,8,9,10,11] 2 [[(7,false,[]),(12,true,[13,14])]] ?_;refine ah ?_;refine ny 24 rfl (λC=>?_) (λC=>?_)
     ·have Zm:=aX C
      refine ah ?_;refine aL rfl (λZn Zo=>cC rfl rfl (C) (ij (q:=i) underlying9 rfl rfl rfl rfl Z aG)) ?_;refine ah ?_;refine aL rfl (λZn Zo=>cC rfl rfl (C) (ij (q:=k.toNat) underlying9 rfl rfl rfl aa (N aa) aG)) ?_;refine ah ?_;refine gU rfl rfl wV rfl (λw' _=>y2 w' g) ?_;refine aS ?_;refine gU rfl rfl wV rfl (λw' _=>y2 w' ck) ?_;refine al ?_;refine aj (λaH=>?_) (λaH=>?_)
      ·skip
       refine al ?_;refine bC (q:=k.toNat) dL rfl rfl rfl rfl aa aa ?_;refine a_ (v:= .int .i64 v) bN rfl rfl (λZa D=>Dk (m:=s.length+1) (L:=o) D aT (O aa)) ?_;refine ah ?_;exact bi v (Zi aa aa) aa bR (λ_ h=>h.ax ae)
      ·skip
       refine hq ?_;refine aj (λZp=>?_) (λZp=>?_)
       ·skip
        refine aK ?_;refine lU (l0:=[X x]) (first:=[]) (cap:=cap) ae rfl rfl V rfl (λd R=>W d i x _ B aa (z (λ_=>by omega) aa).1 aa (by have:=(z (λ_=>by omega) aa).2.1;omega) (R.bo ae)) (λ⟨b,E⟩ F=>?_);refine ah ?_;refine b1 rfl (λS=>?_) (λS=>?_)
        ·simp only[bZ] at S
         refine aq ?_;refine sh rfl (sf (si (sg (Dj ?_))));refine ar ?_;intro Zb G;exact aN E (.inr (F.2 bv)) G
        ·simp only[bZ] at S
         refine ay ?_;refine bC (q:=(k+1).toNat) dL rfl rfl rfl rfl aa aa ?_;refine a_ (v:= .int .i64 u) bN rfl rfl (λZa D=>Dk (m:=s.length+1) (L:=o) D bJ P) ?_;refine aJ ?_;exact bi (i+1,u,E) ⟨by dsimp only;omega,(z (λ_=>by omega) aa).2.2,F.1 bv⟩ bm (gX rfl rfl rfl rfl rfl rfl rfl) (λ_ h=>h.ax ae)
       ·skip
        refine aK ?_;exact bi (i+1,k+1,x) ⟨by dsimp only;omega,(K (λ_=>by omega) aa).1,(K (λ_=>by omega) aa).2⟩ bm (gX rfl rfl rfl rfl rfl rfl rfl) (λ_ h=>h.ax ae)
     ·have Zm:=bd C
      refine PY ?_;refine aj (λZq=>?_) (λZq=>?_)
      ·skip
       refine aK ?_;refine lU (l0:=[X x]) (first:=[]) (cap:=cap) ae rfl rfl V rfl (λd R=>W d i x _ B aa (z (λ_=>by omega) aa).1 aa (by have:=(z (λ_=>by omega) aa).2.1;omega) (R.bo ae)) (λ⟨b,E⟩ F=>?_);refine ah ?_;refine b1 rfl (λT=>?_) (λT=>?_)
       ·simp only[bZ] at T
        refine aq ?_;refine sh rfl (sf (si (sg (Dj ?_))));refine ar ?_;intro Zb G;exact aN E (.inr (F.2 bv)) G
       ·simp only[bZ] at T
        refine ay ?_;refine bC (q:=(k+1).toNat) dL rfl rfl rfl rfl aa aa ?_;refine a_ (v:= .int .i64 u) bN rfl rfl (λZa D=>Dk (m:=s.length+1) (L:=o) D bJ P) ?_;refine aJ ?_;exact bi (i+1,u,E) ⟨by dsimp only;omega,(z (λ_=>by omega) aa).2.2,F.1 bv⟩ bm (gX rfl rfl rfl rfl rfl rfl rfl) (λ_ h=>h.ax ae)
      ·skip
       refine aK ?_;exact bi (i+1,k+1,x) ⟨by dsimp only;omega,(K (λ_=>by omega) aa).1,(K (λ_=>by omega) aa).2⟩ bm (gX rfl rfl rfl rfl rfl rfl rfl) (λ_ h=>h.ax ae)
   ·refine aS ?_
    refine Dj ?_;refine ar ?_;intro Zb G;exact aN x (.inl (by rw[show t.length=i by omega];exact B)) G
abbrev ub (g:Nat) (z:gn):Chunk:=aR [aD g [z.val] 73,z.au]
theorem X2 (w:World) (g:Nat) (z:gn) (m:Nat) (a:Int) (d:z.l.length≤m) (f:m≤1000000) (b:a8 w [ub g z]):Calls prog 101 (([]:List Value)++[Value.int .i64 a]++[ptr g]).toArray w
 (aP (λj:Bool × gn=> .bool j.1) [ub g z] (λj=>[ub g j.2]) (λj=>j.2.l=z.l++[a]∧j.1=true) w):=by
 have b:=b.i7
 refine Calls.mono ?_ (λe w' h=>aP.star (l:=[aD g [z.val] 73,z.au]) (v:=λj:Bool × gn=>Value.bool j.1) (l':=λj=>[aD g [j.2.val] 73,j.2.au]) (ok:=λj=>j.2.l=z.l++[a]∧j.1=true) h);refine bI func101 ntmps101 b ?_;refine aJ ?_;refine dy (E:=bT) _ dL rfl rfl rfl rfl rfl (λi k n=>?_);refine eC (E:=bT) dL rfl rfl rfl bj (λ_ _=>ew) b4 b4 (λo p=>?_);refine aQ ?_;intro q c;exact aP.bQ (true,⟨_,_,z.l++[a]⟩) ⟨rfl,rfl⟩ rfl (c.ax ae)
theorem X3 (w:World) (t s:List UInt8) (A:t.length≤1000000) (k:1≤s.length∧s.length≤1000000):Calls prog 62 [.string (bs t),.string (bs s),rW].toArray w
 (aP (λz:gn=>z.val) [] (λz=>[z.au]) (λz=>z.l=occs s t t.length) w):=by
 refine aV func62 ntmps62 ?_;refine aC ?_;refine oD im rfl (λb B C=>?_);refine aK ?_;refine gR (H':=af w [] [ub b ⟨none,0,[]⟩]) ?_ (Sub.refl _) (λx m=>((m.eU 3 bT).close (l:=[aD b [gn.val ⟨none,0,[]⟩] 73,gn.au ⟨none,0,[]⟩]) ae).ax ae);refine a6 (l0:=[ub b ⟨none,0,[]⟩]) ae rfl zM rfl (λo p=>Dl o t s aa k (ub b) (λn z=>z.l=occs s t n) (λ_=>False) (λn i _ h d=>by rw[occs,ag d,eu];exact h) 101 [ptr b] Nm (λq n z a c d r u _ v=>Calls.mono (X2 q b z 1000000 a (by have:=uX s t n;rw[←c] at this;omega) aa v) (λe w' h=>h.mono (λj f=>⟨j,⟨λ_=>by rw[occs,aw r,←u,←c];exact f.1,λg=>by rw[f.2] at g;cases g⟩,rfl,rfl⟩))) ⟨none,0,[]⟩ (p.bo ae) rfl) (λz c=>?_);refine ah ?_;refine re (lc:=[aD b [z.val] 73,z.au]) bj ?_;refine aC ?_;intro D y;exact aN z (c.resolve_right id) y
theorem X4 (w:World) (t s:List UInt8) (a:t.length≤1000000) (b:1≤s.length∧s.length≤1000000):Calls prog 30 [.string (bs t),.string (bs s)].toArray w
 (aP (λz:gn=>z.val) [] (λz=>[z.au]) (λz=>z.l=occs s t t.length) w):=by
 refine aV func30 ntmps30 ?_;refine aJ ?_;refine a6 (l0:=[]) aA.nil rfl M9 rfl (λc _=>X3 c t s a b) (λz d=>?_);refine ay ?_;intro f e;exact aN z d e
abbrev wn (g:Nat) (n:Int):Chunk:=aD g [.int .i64 n] 3
theorem X5 (w:World) (g:Nat) (n a:Int) (d:0≤n∧n≤1000000) (b:a8 w [wn g n]):Calls prog 37 (([]:List Value)++[Value.int .i64 a]++[ptr g]).toArray w
 (aP (λj:Bool × Int=> .bool j.1) [wn g n] (λj=>[wn g j.2]) (λj=>j=(true,n+1)) w):=by
 refine bI func37 ntmps37 b ?_;refine eL ?_;intro e c;exact aN (true,n+1) rfl c
theorem X6 (w:World) (t s:List UInt8) (g:t.length≤1000000) (k:1≤s.length∧s.length≤1000000):Calls prog 11 [.string (bs t),.string (bs s)].toArray w (Pure (.int .i64 ((occs s t t.length).length:Int)) w):=by
 refine aV func11 ntmps11 ?_;refine aC ?_;refine oD bN rfl (λb v x=>?_);refine aK ?_;refine a6 (l0:=[wn b 0]) ae rfl zM rfl (λl m=>Dl l t s g k (wn b) (λn i=>i=((occs s t n).length:Int)) (λ_=>False) (λn i _ h c=>by rw[occs,ag c,eu];exact h) 37 [ptr b] MU (λo n i a hi c p _ _ q=>Calls.mono (X5 o b i a (by have:=uX s t n;omega) q) (λe w' h=>h.mono (λj d=>⟨j,⟨λ_=>by rw[d];show i+1=_;rw[occs,aw p,b6,hi];rfl,λf=>by rw[d] at f;cases f⟩,rfl,rfl⟩))) 0 (m.bo ae) rfl) (λz r=>?_);refine aQ ?_;intro y u;exact⟨by rw[r.resolve_right id],u.ext⟩
abbrev oh (a b c:Nat) (i:Int × Bool):List Chunk:=[aD a [.int .i64 0] 3,aD b [.int .i64 i.1] 3,aD c [.bool i.2] 4]
theorem X7 (w:World) (b c d:Nat) (i:Int × Bool) (a:Int) (n:0≤a) (f:a8 w [aR (oh b c d i)]):Calls prog 38 (([]:List Value)++[Value.int .i64 a]++[ptr b,ptr c,ptr d]).toArray w
 (aP (λj:Bool × Int × Bool=> .bool j.1) [aR (oh b c d i)] (λj=>[aR (oh b c d j.2)]) (λj=>j=(false,a,true)) w):=by
 have f:=f.i7
 refine Calls.mono ?_ (λe w' h=>aP.star (l:=oh b c d i) (v:=λj:Bool × Int × Bool=>Value.bool j.1) (l':=λj=>oh b c d j.2) (ok:=λj=>j=(false,a,true)) h);refine bI func38 ntmps38 f ?_;refine bH ?_;refine aj (λk=>?_) (λk=>?_);refine cF ?_;intro m g;exact aN (false,a,true) rfl g;refine bp ?_;intro m g
 (exfalso;omega)
theorem KP (w:World) (t s:List UInt8) (r:t.length≤1000000) (u:1≤s.length∧s.length≤1000000):Calls prog 13 [.string (bs t),.string (bs s),.int .i64 0].toArray w
 (ca (λi:Int × Bool=> .tuple #[.int .i64 i.1,.bool i.2]) (λi=> ∀a∈occs s t t.length,i.2=true∧i.1≤a) w):=by
 refine aV func13 ntmps13 ?_;refine ah ?_;intro c I J;refine al ?_;refine oD bN rfl (λd K L=>?_);refine oD oI rfl (λf M N=>?_);refine aJ ?_;refine gR (H':=af w [] [aR (oh c d f (0,false))]) ?_ (Sub.refl _) (λx v=>(v.close (l:=oh c d f (0,false)) ae).ax ae);refine a6 (l0:=[aR (oh c d f (0,false))]) ae rfl zM rfl (λy z=>Dl y t s r u (λi:Int × Bool=>aR (oh c d f i)) (λn i=>i=(0,false)∧occs s t n=[]) (λi=> ∀a∈occs s t t.length,i.2=true∧i.1≤a) (λn i _ h g=>⟨h.1,by rw[occs,ag g,eu];exact h.2⟩) 38 [ptr c,ptr d,ptr f] MV (λA n i a hi g B C D E=>Calls.mono (X7 A c d f i a D E) (λe w' h=>h.mono (λj m=>⟨j,⟨λo=>(by rw[m] at o;cases o),λ_ b F=>by rw[m];exact⟨rfl,P3 hi.2 B C g F⟩⟩,rfl,rfl⟩))) (0,false) (z.bo ae) ⟨rfl,rfl⟩) (λ⟨p,q⟩ G=>?_);refine ah ?_;refine re (lc:=oh c d f (p,q)) bj ?_;refine bF [0,1,2,3] 0 [[]] ?_;refine aJ ?_;intro O H;exact ca.of (p,q) (λa k=>G.elim (λh=>by rw[h.2] at k;cases k) (λh=>h a k)) rfl H.ext
end Go.Proofs.YtlgnfdodnhokjaaGreatDoor.Mq
