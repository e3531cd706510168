/- part 36 of the proof -/
import Derived.Test.YtkeokgcdnfjaaaaGreatDoorQ35
import Derived.WalkMore
namespace Go.Proofs.YtkeokgcdnfjaaaaGreatDoor.Mq
open Go Go.RowKit Go.Proofs Tryz
theorem J0 (w:World) (F:Nat→Prop) (A:Option Addr) (n c:Nat) (L:List Int) (h:Rd bS w F A n c L) (o:n≤1000000):Calls prog 91 [.slice A n c].toArray w
 (aP (λz:gf=>z.val) [] (λz=>[z.au]) (λz=>z.l.length≤n) w):=by
 have p:=h.len
 refine aW func91 ntmps91 ?_;refine aK ?_;refine pq 3 1 ?_;refine pX (E:=bS) (src:=L) (F:=F) (m:=0) (xs:=[]) L.length aa dJ rfl rfl rfl (λ_=>by exact cz) (λw' i=>h.ext i.ext av) (by simp only[maxLen];omega) aa (λa b=>?_);refine al ?_;refine aZ (l0:=[gf.au ⟨a,b,L⟩]) ae rfl MQ rfl (λe f=>WV e ⟨a,b,L⟩ (f.bp ae) (by show L.length≤1000000;omega)) (λd g=>?_);refine ay ?_;refine aZ (l0:=[gf.au ⟨a,b,d⟩]) ae rfl MR (by rw[←g];rfl) (λe f=>WW e ⟨a,b,d⟩ (f.bp ae) (by show d.length≤1000000;dsimp only at g;omega)) (λy j=>?_);refine ay ?_;intro q k;exact aN y (fp j (by show d.length≤n;dsimp only at g;omega)) k
theorem J1 (w:World) (n:Nat) (f:FuncId) (cap:List Value) (s:n≤1000000) (d:ad prog f)
 (e: ∀w',Ext [] w w'→ ∀i:Nat,i<n→Calls prog f (([]:List Value)++[Value.int .i64 (i:Int)]++cap).toArray w' (vP w')):
 Calls prog 277 [.int .i64 (n:Int),.func (.func f) [].toArray cap.toArray].toArray w (ca (λk:Int=> .int .i64 k) (λk=>0≤k∧k≤n) w):=by
 refine aW func277 ntmps277 ?_;refine b5 ?_;refine b3 (ι:=Nat × Nat) (λi=>[(1,.func (.func f) [].toArray cap.toArray),(5,.int .i64 (i.1 :Int)),(6,.int .i64 (i.2 :Int))]) (λ_=>af w [] []) (λi=>i.1≤i.2∧i.2≤n) (λi=>i.2 - i.1) ?_ ?_;exact λw a=>⟨(0,n),⟨bN _,cd _⟩,(dZ rfl rfl rfl),a⟩
 rintro⟨i,j⟩ ⟨g,c⟩;dsimp only at g c ⊢
 obtain⟨m,t⟩ : ∃m,m=(i+j)/2:=⟨_,rfl⟩;refine aK ?_;refine aj (λl=>?_) (λl=>?_);refine aK ?_;refine dl rfl rfl underlying3 underlying258 (r:=(i:Int)+(j:Int)) (by simp[IntKind.wrap,IntKind.bits,IntKind.signed];omega) ?_;refine FV rfl rfl rfl a1 (r:=(m:Int)) (by rw[show min (1 :Int).toNat IntKind.u64.bits=1 from rfl];omega) ?_;refine dl rfl rfl underlying258 underlying3 (r:=(m:Int)) (by simp[IntKind.wrap,IntKind.bits,IntKind.signed];omega) ?_;refine aC ?_;refine lI (l0:=[]) (first:=[]) (cap:=cap) aA.nil rfl rfl d rfl (λo p=>e o p.ext m aa) (λb _=>?_);refine ah ?_;refine b2 rfl (λq=>?_) (λq=>?_);refine al ?_;exact bg (m+1,j) ⟨by dsimp only;omega,c⟩ bm bO (λ_ h=>h);refine ay ?_;exact bg (i,m) ⟨by dsimp only;omega,by dsimp only;omega⟩ bm bO (λ_ h=>h);refine bH ?_;intro u a;exact ca.of (i:Int) ⟨aa,aa⟩ rfl a.ext
theorem WX (w:World) (F:Nat→Prop) (A:Option Addr) (n c:Nat) (L:List Int) (e:Rd bS w F A n c L) (f g:Nat) (x:Int) (j: (aD f [.slice A n c] 134).pred w) (k: (aD g [.int .i64 x] 3).pred w) (i:Nat) (hi:i<n):
 Calls prog 278 (([]:List Value)++[Value.int .i64 (i:Int)]++[ptr f,ptr g]).toArray w (vP w):=by
 have r:=e.len
 obtain⟨v,l⟩ : ∃v,L[i]? = some v:=⟨_,bE aa⟩;obtain⟨bX,m,s,o⟩:=e.at_ l;refine aW func278 ntmps278 ?_;refine al ?_;refine bG [0,1,2,3,4,5,6] 0 [[]] ?_;refine aL rfl (λd a=>(ba ib rfl rfl (λh b=>by subst b;exact a.bV j (by (simp;done)) rfl) aG)) ?_;refine aq ?_;refine aL rfl (λd a=>(bD (q:=i) dJ rfl rfl rfl m rfl aa aG)) ?_;refine aL rfl (λd a=>(ba (v:= .int .i64 v) bM rfl rfl (λh b=>by subst b;exact a.ct (o 0 _ rfl) av) aG)) ?_;refine aL rfl (λd a=>(ba bM rfl rfl (λh b=>by subst b;exact a.bV k (by (simp;done)) rfl) aG)) ?_;refine aC ?_;intro t p;exact ca.of _ aU rfl p.ext
theorem WY (w:World) (F:Nat→Prop) (A:Option Addr) (n c:Nat) (L:List Int) (e:Rd bS w F A n c L) (f g:Nat) (x:Int) (j: (aD f [.slice A n c] 134).pred w) (k: (aD g [.int .i64 x] 3).pred w) (i:Nat) (hi:i<n):
 Calls prog 279 (([]:List Value)++[Value.int .i64 (i:Int)]++[ptr f,ptr g]).toArray w (vP w):=by
 have r:=e.len
 obtain⟨v,l⟩ : ∃v,L[i]? = some v:=⟨_,bE aa⟩;obtain⟨bX,m,s,o⟩:=e.at_ l;refine aW func279 ntmps279 ?_;refine al ?_;refine bG [0,1,2,3,4,5,6] 0 [[]] ?_;refine aL rfl (λd a=>(ba ib rfl rfl (λh b=>by subst b;exact a.bV j (by (simp;done)) rfl) aG)) ?_;refine aq ?_;refine aL rfl (λd a=>(bD (q:=i) dJ rfl rfl rfl m rfl aa aG)) ?_;refine aL rfl (λd a=>(ba (v:= .int .i64 v) bM rfl rfl (λh b=>by subst b;exact a.ct (o 0 _ rfl) av) aG)) ?_;refine aL rfl (λd a=>(ba bM rfl rfl (λh b=>by subst b;exact a.bV k (by (simp;done)) rfl) aG)) ?_;refine aC ?_;intro t p;exact ca.of _ aU rfl p.ext
abbrev J2 (n:Nat) (w:World):=ca (λk:Int=> .int .i64 k) (λk=>0≤k∧k≤n) w
theorem WZ (w:World) (F:Nat→Prop) (A:Option Addr) (n c:Nat) (L:List Int) (e:Rd bS w F A n c L) (f:n≤1000000) (x:Int):Calls prog 197 [.slice A n c,.int .i64 x].toArray w (J2 n w):=by
 refine aW func197 ntmps197 ?_;refine ah ?_;intro g m o;refine aq ?_;intro h p q;refine aK ?_;refine aZ (l0:=[]) aA.nil rfl zR rfl (λa b=>J1 a n _ _ f NH (λw' d i hi=>WX w' F A n c L ((e.ext b.ext av).dA d) g h x ((af.start a).keep d |>.dD (b.has bF) av) ((af.start a).keep d |>.dD (b.has aQ) av) i hi)) (λk j=>?_);refine ay ?_;intro r l;exact ca.of k j rfl l.ext
theorem W0 (w:World) (F:Nat→Prop) (A:Option Addr) (n c:Nat) (L:List Int) (e:Rd bS w F A n c L) (f:n≤1000000) (x:Int):Calls prog 198 [.slice A n c,.int .i64 x].toArray w (J2 n w):=by
 refine aW func198 ntmps198 ?_;refine ah ?_;intro g m o;refine aq ?_;intro h p q;refine aK ?_;refine aZ (l0:=[]) aA.nil rfl zR rfl (λa b=>J1 a n _ _ f NI (λw' d i hi=>WY w' F A n c L ((e.ext b.ext av).dA d) g h x ((af.start a).keep d |>.dD (b.has bF) av) ((af.start a).keep d |>.dD (b.has aQ) av) i hi)) (λk j=>?_);refine ay ?_;intro r l;exact ca.of k j rfl l.ext
abbrev CT (w:World):=ca (λt:Int × Bool=> .tuple #[.int .i64 t.1,.bool t.2]) (λ_=>True) w
theorem W1 (w:World) (F:Nat→Prop) (A:Option Addr) (n c:Nat) (L:List Int) (a:Rd bS w F A n c L) (d:n≤1000000) (x:Int):Calls prog 133 [.slice A n c,.int .i64 x].toArray w (CT w):=by
 have p:=a.len
 refine aW func133 ntmps133 ?_;refine bo ?_;refine aZ (l0:=[]) aA.nil rfl Nc rfl (λe f=>WZ e F A n c L (a.ext f.ext av) d x) (λk r=>?_);refine bo ?_;refine aj (λg=>?_) (λg=>?_);obtain⟨q,h⟩ : ∃q:Nat,k=(q:Int):=⟨k.toNat,aa⟩;obtain⟨v,i⟩ : ∃v,L[q]? = some v:=⟨_,bE aa⟩;obtain⟨bX,j,s,l⟩:=a.at_ i;refine aS ?_;refine bD (q:=q) dJ rfl rfl rfl j h aa ?_;refine ba (v:= .int .i64 v) bM rfl rfl (λt m=>m.ct (l 0 _ rfl) av) ?_;refine aC ?_;intro o b;exact ca.of (_,_) aU rfl b.ext;refine aR ?_;intro o b;exact ca.of (_,_) aU rfl b.ext
theorem W2 (w:World) (F:Nat→Prop) (A:Option Addr) (n c:Nat) (L:List Int) (a:Rd bS w F A n c L) (d:n≤1000000) (x:Int):Calls prog 134 [.slice A n c,.int .i64 x].toArray w (CT w):=by
 have p:=a.len
 refine aW func134 ntmps134 ?_;refine aR ?_;refine aZ (l0:=[]) aA.nil rfl Nd rfl (λe f=>W0 e F A n c L (a.ext f.ext av) d x) (λk r=>?_);refine aR ?_;refine aj (λg=>?_) (λg=>?_);refine aJ ?_;intro h b;exact ca.of (_,_) aU rfl b.ext;obtain⟨q,i⟩ : ∃q:Nat,k - 1=(q:Int):=⟨(k - 1).toNat,aa⟩;obtain⟨v,j⟩ : ∃v,L[q]? = some v:=⟨_,bE aa⟩;obtain⟨bX,l,s,m⟩:=a.at_ j;refine aC ?_;refine bD (q:=q) dJ rfl rfl rfl l i aa ?_;refine ba (v:= .int .i64 v) bM rfl rfl (λt o=>o.ct (m 0 _ rfl) av) ?_;refine al ?_;intro h b;exact ca.of (_,_) aU rfl b.ext
theorem W3 (w:World) (b:eC) (k:Int):Calls prog 90 [.agg b.enc.toArray,.int .i64 k].toArray w (CT w):=by
 refine aW func90 ntmps90 ?_;refine ah ?_;intro j l m;refine b5 ?_;refine aj (λe=>?_) (λe=>?_);refine bo ?_;intro c a;exact ca.of (_,_) aU rfl a.ext;refine aC ?_;refine aj (λaH=>?_) (λaH=>?_);refine bH ?_;intro c a;exact ca.of (_,_) aU rfl a.ext;refine aC ?_;refine aj (λf=>?_) (λf=>?_);refine aq ?_;refine bG [0,1,2,3,4,5,6,7,8,9,10,11,12] 0 [[]] ?_;refine aC ?_;refine my 25 rfl (λd=>?_) (λd=>?_);have g:=aY d
 refine bH ?_;intro c a;exact ca.of (_,_) aU rfl a.ext;have g:=a8 d
 refine bH ?_;intro c a;exact ca.of (_,_) aU rfl a.ext;refine aC ?_;refine aj (λh=>?_) (λh=>?_);refine aq ?_;refine bG [0,1,2,3,4,5,6,7,8,9,10,11] 0 [[]] ?_;refine al ?_;refine my 38 rfl (λi=>?_) (λi=>?_);refine bH ?_;intro c a;exact ca.of (_,_) aU rfl a.ext;refine bH ?_;intro c a;exact ca.of (_,_) aU rfl a.ext;refine bo ?_;intro c a;exact ca.of (_,_) aU rfl a.ext
theorem W4 (w:World) (F:Nat→Prop) (A:Option Addr) (n c:Nat) (L:List eC) (e:Rd hp w F A n c L) (K:n≤100000) (k:Int):Calls prog 50 [.slice A n c,.int .i64 k].toArray w
 (aP (λz:gf=>z.val) [] (λz=>[z.au]) (λz=>z.l.length≤n) w):=by
 have M:=e.len
 refine aW func50 ntmps50 ?_;refine eT ?_;refine cG (H':=af w [] [gf.au ⟨none,0,[]⟩]) ?_ (Sub.refl _) (λx f=>f.eO 3 bS);refine aq ?_;refine b3 (ι:=Nat × gf) (λt=>[(1,.int .i64 k),(5,t.2.val),(10,.slice A n c),(11,.int .i64 (n:Int)),(12,.int .i64 (t.1 :Int))]) (λt=>af w [] [t.2.au]) (λt=>t.1≤n∧t.2.l.length≤t.1) (λt=>n - t.1) ?_ ?_;exact λw' g=>⟨(0,⟨none,0,[]⟩),⟨bN _,bN _⟩,(ec rfl rfl rfl rfl rfl),g⟩
 rintro⟨i,z⟩ ⟨hi,m⟩;dsimp only at hi m ⊢
 refine al ?_;refine aj (λp=>?_) (λp=>?_);obtain⟨v,s⟩ : ∃v,L[i]? = some v:=⟨_,bE aa⟩;obtain⟨bX,B,N,C⟩:=e.at_ s;refine al ?_;refine bD (q:=i) kl rfl rfl rfl B rfl aa ?_;refine cw (vs:=v.enc) gp rfl rfl rfl (λO D j u a=>D.ct (C j u a) av) ?_;refine aq ?_;intro P Q R;refine eX (vs:=v.enc) gp rfl rfl (bn.whole cz a7) rfl (aI.cons rfl (aI.cons rfl (aI.cons rfl (aI.cons rfl (aI.cons rfl (aI.cons rfl (aI.cons rfl (fY rfl rfl rfl rfl rfl rfl rfl rfl rfl rfl)))))))) (by exact dT rfl) ?_;refine aS ?_;refine cw (vs:=v.enc) gp rfl rfl rfl (λS G j u a=>G.kY (sz:=17) (o:=0) (xs:=v.enc) aQ rfl j u a) ?_;refine aq ?_;refine aZ (l0:=[]) aA.nil rfl Mw rfl (λd _=>W3 d v k) (λ⟨r,b⟩ _=>?_);refine bw ?_;refine b2 rfl (λH=>?_) (λH=>?_);refine ah ?_;refine dx (E:=bS) _ dJ rfl rfl rfl rfl rfl (λT U V=>?_);refine er (E:=bS) dJ rfl rfl rfl bi (λ_ _=>eo) b4 b4 (λW X=>?_);refine aK ?_;exact bg (i+1,⟨_,_,z.l++[r]⟩) ⟨aa,by dsimp only;rw[b0,iS];omega⟩ bm (ec rfl rfl rfl rfl rfl) (λ_ h=>h.aw ae);refine aC ?_;exact bg (i+1,z) ⟨aa,by dsimp only;omega⟩ bm bO (λ_ h=>h.aw ae);refine aK ?_;refine aZ (l0:=[]) aA.nil rfl Eh rfl (λd I=>J0 d _ z.A z.l.length z.c z.l (gT (I.has (c:=z.au) aQ)) aa) (λy Y=>?_);refine ay ?_;intro Z J;exact aN y aa J
theorem W5 (w:World) (F:Nat→Prop) (A:Option Addr) (n c:Nat) (L:List Int) (o:Rd bS w F A n c L) (q:n≤100000) (x k:Int) (s: -9223372036854775808≤k∧k≤9223372036854775807):Calls prog 88 [.slice A n c,.int .i64 x,.int .i64 k].toArray w
 (ca (λr:Int=> .int .i64 r) (λ_=>True) w):=by
 refine aW func88 ntmps88 ?_;refine aK ?_;refine aZ (l0:=[]) aA.nil rfl Eh rfl (λd e=>J0 d F A n c L (o.ext e.ext av) aa) (λz u=>?_);refine ef ?_;refine aj (λp=>?_) (λp=>?_);refine aS ?_;refine oj rfl rfl (wrap64 aa aa) ?_;refine ar ?_;refine oj rfl rfl (wrap64 aa aa) ?_;refine dB ?_;refine b3 (ι:=Nat × Int) (λt=>[(1,.int .i64 t.2),(7,z.val),(8,.func (.func 134) #[] #[]),(28,.int .i64 (min (0 - max k (0 - (z.l.length:Int) - 1)) ((z.l.length:Int)+1))),(29,.int .i64 (t.1 :Int))]) (λ_=>af w [] [z.au]) (λt=>t.1≤200000) (λt=>200000 - t.1) ?_ ?_;exact λw' f=>⟨(0,x),bN _,(ec rfl rfl rfl rfl rfl),f.aw ae⟩
 rintro⟨i,y⟩ hi;dsimp only at hi ⊢
 refine al ?_;refine aj (λg=>?_) (λg=>?_);refine aJ ?_;refine lI (l0:=[]) (first:=[]) (cap:=[]) aA.nil rfl rfl MM rfl (λd e=>W2 d _ z.A z.l.length z.c z.l (gT (e.has (c:=z.au) aQ)) aa y) (λ⟨r,b⟩ _=>?_);refine b5 ?_;refine b2 rfl (λj=>?_) (λj=>?_);simp only[bU] at j
 refine ar ?_;refine rX rfl (rV (rY (rW (mr (kU (mY ?_))))));refine al ?_;intro m a;exact ca.of _ aU rfl (a.aw aA.nil).ext;simp only[bU] at j
 refine bw ?_;exact bg (i+1,r) bm bm bO (λ_ h=>h.aw ae);refine bH ?_;intro m a;exact ca.of _ aU rfl (a.aw aA.nil).ext;refine b5 ?_;refine b3 (ι:=Nat × Int) (λt=>[(1,.int .i64 t.2),(7,z.val),(8,.func (.func 133) #[] #[]),(28,.int .i64 (min k ((z.l.length:Int)+1))),(29,.int .i64 (t.1 :Int))]) (λ_=>af w [] [z.au]) (λt=>t.1≤200000) (λt=>200000 - t.1) ?_ ?_;exact λw' f=>⟨(0,x),bN _,(ec rfl rfl rfl rfl rfl),f.aw ae⟩
 rintro⟨i,y⟩ hi;dsimp only at hi ⊢
 refine al ?_;refine aj (λg=>?_) (λg=>?_);refine aJ ?_;refine lI (l0:=[]) (first:=[]) (cap:=[]) aA.nil rfl rfl ML rfl (λd e=>W1 d _ z.A z.l.length z.c z.l (gT (e.has (c:=z.au) aQ)) aa y) (λ⟨r,b⟩ _=>?_);refine b5 ?_;refine b2 rfl (λaH=>?_) (λaH=>?_);simp only[bU] at aH
 refine ar ?_;refine rX rfl (rV (rY (rW (mr (kU (mY ?_))))));refine al ?_;intro m a;exact ca.of _ aU rfl (a.aw aA.nil).ext;simp only[bU] at aH
 refine bw ?_;exact bg (i+1,r) bm bm bO (λ_ h=>h.aw ae);refine bH ?_;intro m a;exact ca.of _ aU rfl (a.aw aA.nil).ext
section
section
variable {P:Program} {n:Nat} {Q:cl} {l:Fr} {H:World→Prop}
def CU (Q:cl):cl:=λe l w=>match e with
 | .goto _=>False
 | e=>Q e l w
theorem J3 {c:Code} (h:dc P n c (CU Q) l H):dc P n (.scope c) Q l H:=by
 intro w d a f;refine wp_scope_straight (wp_mono (h w d a f) ?_);intro e a' w' ⟨l',g,b⟩;cases e <;> first | exact b.elim | exact⟨l',g,b⟩
theorem CV (h:dP Q .normal l H):dP (CU Q) .normal l H:=h
theorem W6 (h:dP Q .ret l H):dP (CU Q) .ret l H:=h
end
abbrev tH (L:List Int):Prop:= ∀(j:Nat) (v:Int),L[j]? = some v→ -1≤v∧v<j
theorem tH.set {L:List Int} (h:tH L) {i:Nat} {v:Int} (b: -1≤v) (c:v<i):tH (L.set i v):=λj u a=>by
 rw[n3] at a
 split at a
 rename_i d;split at a
 cases a;omega
 cases a
 exact h j u a
theorem yG (w:World) (c:UInt8):Calls prog 94 (([]:List Value)++[Value.int .u8 (c.toNat:Int)]++[]).toArray w (Pure (.int .u8 (c.toNat:Int)) w):=by
 refine aW func94 ntmps94 ?_;refine bH ?_;intro b a;exact⟨rfl,a.ext⟩
abbrev rE:Value:= .func (.func 94) #[] #[]
abbrev tI (g m:Nat) (L:List Int):Chunk:=own 3 1 (.slice (some ⟨g,0,none⟩) m m) m (bS.all L)
theorem W7 (w:World) (s:List UInt8) (N:s.length≤1000000):Calls prog 201 [.string (bs s),rE].toArray w
 (aP (λi:Nat × List Int=> .slice (some ⟨i.1,0,none⟩) (s.length+1) (s.length+1)) [] (λi=>[tI i.1 (s.length+1) i.2]) (λi=>i.2.length=s.length+1∧tH i.2) w):=by
 refine aW func201 ntmps201 ?_;refine ay ?_;refine J3 (kU (mY ?_));refine ah ?_;refine r6 (s.length+1) dJ rfl rfl rfl rfl (by simp only[maxLen];omega) aa (λb O P=>?_);refine al ?_;refine bD (q:=0) dJ rfl rfl rfl rfl rfl aa ?_;refine kW (o:=0) bM rfl rfl cz (by simp[Addr.add_lit]) rfl (by rw[y9];show 0<(s.length+1)*1;omega) ?_;refine aK ?_;refine De (mr (kU (kU (mY ?_))));refine aS ?_;obtain⟨d,p⟩ : ∃d:List Int,d=(-1)::List.replicate s.length 0:=⟨_,rfl⟩;have y: (e9 [Value.int .i64 0] (s.length+1)).set 0 (.int .i64 (-1))=bS.all d:=by
  rw[p,FS,mn,rD,rD];rfl
 have z:tH d:=by
  rw[p];intro j v a;cases j with
  | zero=>cases a;exact⟨a1,a1⟩
  | succ j=>
   have:=c8 a
   rw[List.getElem?_cons_succ] at a
   have Q:=mV (c8 a)
   omega
 refine b3 (ι:=Nat × Int × List Int) (λt=>[(0,.string (bs s)),(1,rE),(5,.slice (some ⟨b,0,none⟩) (s.length+1) (s.length+1)),(6,.int .i64 t.2.1),(7,.int .i64 (t.1 :Int))]) (λt=>af w [] [tI b (s.length+1) t.2.2]) (λt=>t.1≤s.length∧ -1≤t.2.1∧t.2.1<t.1∧t.2.2.length=s.length+1∧tH t.2.2) (λt=>s.length - t.1) ?_ ?_;exact λw' l=>⟨(0,-1,d),⟨bN _,by dsimp only;omega,by dsimp only;omega,by rw[p];simp,z⟩,(ec rfl rfl rfl rfl rfl),by rw[y] at l;exact l⟩
 rintro⟨i,k,L⟩ ⟨hi,r,u,n,f⟩;dsimp only at hi r u n f ⊢
 refine aJ ?_;refine aj (λA=>?_) (λA=>?_);obtain⟨B,C⟩ : ∃c,s[i]? = some c:=⟨_,bE aa⟩;refine al ?_;refine b3 (ι:=Int) (λk=>[(0,.string (bs s)),(1,rE),(5,.slice (some ⟨b,0,none⟩) (s.length+1) (s.length+1)),(6,.int .i64 k),(7,.int .i64 (i:Int))]) (λ_=>af w [] [tI b (s.length+1) L]) (λk=> -1≤k∧k<i) (λk=>(k+1).toNat) ?_ ?_;exact λw' l=>⟨k,⟨r,u⟩,(ec rfl rfl rfl rfl rfl),l⟩
 rintro k ⟨r,u⟩;refine aC ?_;refine aj (λD=>?_) (λD=>?_);obtain⟨ck,F⟩ : ∃c,s[k.toNat]? = some c:=⟨_,bE aa⟩;obtain⟨v,a⟩ : ∃v,L[k.toNat]? = some v:=⟨_,bE aa⟩;have R:=f _ _ a
 refine ay ?_;refine bG [0,1,2,3,5,6,7,8] 2 [[(4,false,[]),(9,true,[10])]] ?_;refine ah ?_;refine aL rfl (λG H=>(hZ (q:=i) underlying9 rfl rfl rfl rfl C aG)) ?_;refine ah ?_;refine aL rfl (λG H=>(hZ (q:=k.toNat) underlying9 rfl rfl rfl aa F aG)) ?_;refine ar ?_;refine gK rfl rfl wC rfl (λw' _=>yG w' B) ?_;refine ah ?_;refine gK rfl rfl wC rfl (λw' _=>yG w' ck) ?_;refine ay ?_;refine aj (λI=>?_) (λI=>?_);have J: (bS.all L).set ((i+1)*1) (.int .i64 (k+1))=bS.all (L.set (i+1) (k+1)):=by
  rw[rD,rD,Nat.mul_one,n5]
 refine bH ?_;refine bD (q:=i+1) dJ rfl rfl rfl rfl aa aa ?_;refine kW (o:=(i+1)*1) bM rfl rfl cz (by rw[Addr.add_lit,dG]) rfl (by rw[bS.dH];show (i+1)*1<L.length*1;omega) ?_;refine aS ?_;refine rX rfl (rY (rX rfl (rV (rW (mr (mY ?_))))));refine aS ?_;refine bg (i+1,k+1,L.set (i+1) (k+1)) ⟨by dsimp only;omega,by dsimp only;omega,by dsimp only;omega,by dsimp only;rw[fT];exact n,f.set aa aa⟩ bm (ec rfl rfl rfl rfl rfl) (λ_ h=>?_);rw[J] at h
 exact h.aw ae;refine ay ?_;refine bD (q:=k.toNat) dJ rfl rfl rfl rfl aa aa ?_;refine ba (v:= .int .i64 v) bM rfl rfl (λS K=>by have x:=K.kX (E:=bS) (e:=3) (g:=b) (m:=s.length+1) (c:=s.length+1) (L:=L) aQ a 0 _ rfl;rw[Addr.add_lit,Addr.add_lit] at x;rw[Addr.add_lit];exact x) ?_;refine ah ?_;exact bg v ⟨aa,aa⟩ aa bO (λ_ h=>h.aw ae);refine cE ?_;exact bg (i+1,0,L) ⟨by dsimp only;omega,by dsimp only;omega,by dsimp only;omega,n,f⟩ bm bO (λ_ h=>h.aw ae);refine bw ?_;refine W6 ?_;refine aq ?_;intro T M;exact aN (b,L) ⟨n,f⟩ M
end
theorem aP.star {ι:Type} {v:ι→Value} {l:List Chunk} {l':ι→List Chunk} {ok:ι→Prop} {w w':World} {e:Ending} (h:aP v l l' ok w e w'):aP v [aT l] (λi=>[aT (l' i)]) ok w e w':=by
 obtain⟨i,hi,rfl,a⟩:=h;have b:aB [aT l]=aB l:=by rw[w0,fJ]
 have c:af w (aB l) (l' i++[]) w':=by rw[fJ];exact a
 exact⟨i,hi,rfl,b▸c.close'⟩
theorem bb.jq {w:World} {l:List Chunk} (h:bb w [aT l]):bb w l:=by
 have:=h.open
 rwa [fJ] at this
theorem CW {b w:World} {S:List Nat} {cs:List Chunk} (h:af b S cs w) {g m k:Nat} {L:List Int} {v:Int} (d:Has cs (tI g m L)) (f:L[k]? = some v):w.cell? ((⟨g,0,none⟩ :Addr).add (k*1))=some (.int .i64 v):=by
 have a:=h.kX (E:=bS) (e:=3) (g:=g) (m:=m) (c:=m) (L:=L) d f 0 _ rfl
 rw[Addr.add_lit,Addr.add_lit] at a
 rw[Addr.add_lit];exact a
set_option maxHeartbeats 1000000 in
theorem W8 (w:World) (t s:List UInt8) (Zi:t.length≤1000000) (C:1≤s.length∧s.length≤1000000) {ι:Type} (X:ι→Chunk) (g:Nat→ι→Prop) (N: ∀n i,g n i→g (n+1) i) (f l:Nat) (O:ad prog f)
 (P: ∀(d:World) (n:Nat) (i:ι) (a:Int),g n i→n<t.length→0≤a→a<t.length→bb d [X i]→Calls prog f (([]:List Value)++[Value.int .i64 a]++[ptr l]).toArray d (aP (λj:Bool × ι=> .bool j.1) [X i] (λj=>[X j.2]) (λj=>g (n+1) j.2) d))
 (o:ι) (U:bb w [X o]) (V:g 0 o):Calls prog 140 [.string (bs t),.string (bs s),rE,.func (.func f) #[] #[ptr l]].toArray w
 (aP (λ_:ι=> .tuple #[]) [X o] (λi=>[X i]) (λi=> ∃n,n≤t.length∧g n i) w):=by
 refine bI func140 ntmps140 U ?_;refine J3 (kU (kU (mY ?_)));refine aS ?_;refine aj (λQ=>?_) (λQ=>?_);exact absurd Q (λh=>by rw[h] at C;simp at C);refine al ?_;refine aZ (l0:=[]) aA.nil rfl Nf rfl (λd _=>W7 d s C.2) (λ⟨b_,e⟩ W=>?_);refine aJ ?_;refine De (mr (kU (mY ?_)));refine aS ?_;obtain⟨Y,D⟩:=W;dsimp only at Y D
 refine b3 (ι:=Nat × Int × ι) (λq=>[(0,.string (bs t)),(1,.string (bs s)),(2,rE),(3,.func (.func f) #[] #[ptr l]),(8,.slice (some ⟨b_,0,none⟩) (s.length+1) (s.length+1)),(9,.int .i64 q.2.1),(10,.int .i64 (q.1 :Int))]) (λq=>af w (aB [X o]) [tI b_ (s.length+1) e,X q.2.2]) (λq=>q.1≤t.length∧ -1≤q.2.1∧q.2.1<s.length∧q.2.1≤q.1∧g q.1 q.2.2) (λq=>t.length - q.1) ?_ ?_;exact λw' E=>⟨(0,0,o),⟨bN _,by dsimp only;omega,by dsimp only;omega,by dsimp only;omega,V⟩,(hE rfl rfl rfl rfl rfl rfl rfl),E⟩
 rintro⟨i,k,x⟩ ⟨hi,F,G,H,p⟩;dsimp only at hi F G H p ⊢
 refine aJ ?_;refine aj (λZ=>?_) (λZ=>?_);obtain⟨Za,Zb⟩ : ∃c,t[i]? = some c:=⟨_,bE aa⟩;refine al ?_;refine b3 (ι:=Int) (λk=>[(0,.string (bs t)),(1,.string (bs s)),(2,rE),(3,.func (.func f) #[] #[ptr l]),(8,.slice (some ⟨b_,0,none⟩) (s.length+1) (s.length+1)),(9,.int .i64 k),(10,.int .i64 (i:Int))]) (λ_=>af w (aB [X o]) [tI b_ (s.length+1) e,X x]) (λk=> -1≤k∧k<s.length∧k≤i) (λk=>(k+1).toNat) ?_ ?_;exact λw' E=>⟨k,⟨F,G,H⟩,(hE rfl rfl rfl rfl rfl rfl rfl),E⟩
 rintro k ⟨F,G,H⟩;obtain⟨ck,Zc⟩ : ∃c,0≤k→s[k.toNat]? = some c:=⟨(s[k.toNat]?).getD 0,λh=>by rw[bE aa];rfl⟩;obtain⟨v,R⟩ : ∃v,0≤k→e[k.toNat]? = some v:=⟨(e[k.toNat]?).getD 0,λh=>by rw[bE aa];rfl⟩;obtain⟨u,I⟩ : ∃u,e[(k+1).toNat]? = some u:=⟨_,bE aa⟩;have Zj:=D _ _ I
 have Zk:0≤k→ -1≤v∧v<k:=λh=>by have:=D _ _ (R h);omega
 refine ar ?_;refine bG [0,1,2,3,4,5,6,8,9,10,11] 2 [[(7,false,[]),(12,true,[13,14])]] ?_;refine ah ?_;refine my 24 rfl (λr=>?_) (λr=>?_);have Zd:=aY r
 refine ah ?_;refine aL rfl (λZe Zf=>cA rfl rfl (r) (hZ (q:=i) underlying9 rfl rfl rfl rfl Zb aG)) ?_;refine ah ?_;refine aL rfl (λZe Zf=>cA rfl rfl (r) (hZ (q:=k.toNat) underlying9 rfl rfl rfl aa (Zc aa) aG)) ?_;refine ah ?_;refine gK rfl rfl wC rfl (λw' _=>yG w' Za) ?_;refine aS ?_;refine gK rfl rfl wC rfl (λw' _=>yG w' ck) ?_;refine al ?_;refine aj (λaH=>?_) (λaH=>?_);refine al ?_;refine bD (q:=k.toNat) dJ rfl rfl rfl rfl aa aa ?_;refine ba (v:= .int .i64 v) bM rfl rfl (λS y=>CW (m:=s.length+1) (L:=e) y aQ (R aa)) ?_;refine ah ?_;exact bg v ⟨aa,aa,aa⟩ aa bO (λ_ h=>h.aw ae);refine hh ?_;refine aj (λZg=>?_) (λZg=>?_);refine aK ?_;refine lI (l0:=[X x]) (first:=[]) (cap:=[ptr l]) ae rfl rfl O rfl (λd J=>P d i x _ p aa aa aa (J.bp ae)) (λ⟨b,z⟩ A=>?_);refine ah ?_;refine b2 rfl (λK=>?_) (λK=>?_);simp only[bU] at K
 refine ar ?_;refine rX rfl (rV (rY (rW (CV ?_))));refine aq ?_;intro T B;exact aN z ⟨i+1,aa,A⟩ B;simp only[bU] at K
 refine ay ?_;refine bD (q:=(k+1).toNat) dJ rfl rfl rfl rfl aa aa ?_;refine ba (v:= .int .i64 u) bM rfl rfl (λS y=>CW (m:=s.length+1) (L:=e) y bF I) ?_;refine aJ ?_;exact bg (i+1,u,z) ⟨by dsimp only;omega,by dsimp only;omega,by dsimp only;omega,by dsimp only;omega,A⟩ bm bO (λ_ h=>h.aw ae);refine aK ?_;exact bg (i+1,k+1,x) ⟨by dsimp only;omega,by dsimp only;omega,by dsimp only;omega,by dsimp only;omega,N _ _ p⟩ bm (hE rfl rfl rfl rfl rfl rfl rfl) (λ_ h=>h.aw ae);have Zd:=a8 r
 refine O_ ?_;refine aj (λZh=>?_) (λZh=>?_);refine aK ?_;refine lI (l0:=[X x]) (first:=[]) (cap:=[ptr l]) ae rfl rfl O rfl (λd J=>P d i x _ p aa aa aa (J.bp ae)) (λ⟨b,z⟩ A=>?_);refine ah ?_;refine b2 rfl (λM=>?_) (λM=>?_);simp only[bU] at M
 refine ar ?_;refine rX rfl (rV (rY (rW (CV ?_))));refine aq ?_;intro T B;exact aN z ⟨i+1,aa,A⟩ B;simp only[bU] at M
 refine ay ?_;refine bD (q:=(k+1).toNat) dJ rfl rfl rfl rfl aa aa ?_;refine ba (v:= .int .i64 u) bM rfl rfl (λS y=>CW (m:=s.length+1) (L:=e) y bF I) ?_;refine aJ ?_;exact bg (i+1,u,z) ⟨by dsimp only;omega,by dsimp only;omega,by dsimp only;omega,by dsimp only;omega,A⟩ bm bO (λ_ h=>h.aw ae);refine aK ?_;exact bg (i+1,k+1,x) ⟨by dsimp only;omega,by dsimp only;omega,by dsimp only;omega,by dsimp only;omega,N _ _ p⟩ bm (hE rfl rfl rfl rfl rfl rfl rfl) (λ_ h=>h.aw ae);refine aS ?_;refine CV ?_;refine aq ?_;intro T B;exact aN x ⟨i,hi,p⟩ B
abbrev tJ (g:Nat) (z:gf):Chunk:=aT [aD g [z.val] 134,z.au]
theorem W9 (w:World) (g:Nat) (z:gf) (m:Nat) (a:Int) (d:z.l.length≤m) (f:m≤1000000) (b:bb w [tJ g z]):Calls prog 141 (([]:List Value)++[Value.int .i64 a]++[ptr g]).toArray w
 (aP (λj:Bool × gf=> .bool j.1) [tJ g z] (λj=>[tJ g j.2]) (λj=>j.2.l=z.l++[a]) w):=by
 have b:=b.jq
 refine Calls.mono ?_ (λe w' h=>aP.star (l:=[aD g [z.val] 134,z.au]) (v:=λj:Bool × gf=>Value.bool j.1) (l':=λj=>[aD g [j.2.val] 134,j.2.au]) (ok:=λj=>j.2.l=z.l++[a]) h);refine bI func141 ntmps141 b ?_;refine aJ ?_;refine dx (E:=bS) _ dJ rfl rfl rfl rfl rfl (λi k n=>?_);refine er (E:=bS) dJ rfl rfl rfl bi (λ_ _=>eo) b4 b4 (λo p=>?_);refine aR ?_;intro q c;exact aP.bP (true,⟨_,_,z.l++[a]⟩) rfl rfl (c.aw ae)
theorem W_ (w:World) (t s:List UInt8) (B:t.length≤1000000) (k:1≤s.length∧s.length≤1000000):Calls prog 93 [.string (bs t),.string (bs s),rE].toArray w
 (aP (λz:gf=>z.val) [] (λz=>[z.au]) (λz=>z.l.length≤t.length∧ ∀a∈z.l,0≤a∧a<t.length) w):=by
 refine aW func93 ntmps93 ?_;refine aC ?_;refine r3 ib rfl (λc C D=>?_);refine aK ?_;refine ha (H':=af w [] [tJ c ⟨none,0,[]⟩]) ?_ (Sub.refl _) (λx m=>((m.eO 3 bS).close (l:=[aD c [gf.val ⟨none,0,[]⟩] 134,gf.au ⟨none,0,[]⟩]) ae).aw ae);refine aZ (l0:=[tJ c ⟨none,0,[]⟩]) ae rfl MS rfl (λo p=>W8 o t s aa k (tJ c) (λn z=>z.l.length≤n∧ ∀a∈z.l,0≤a∧a<t.length) (λn i h=>⟨aa,h.2⟩) 141 c MT (λq n z a f E r u v=>Calls.mono (W9 q c z 1000000 a aa aa v) (λe w' h=>h.mono (λj g=>⟨j,⟨by rw[g,b0,iS];omega,λb d=>by rw[g] at d;rcases cX.1 d with d | d;exact f.2 b d;rw[eL] at d;subst d;exact⟨r,u⟩⟩,rfl,rfl⟩))) ⟨none,0,[]⟩ (p.bp ae) ⟨bN _,λa y=>by cases y⟩) (λz f=>?_);refine ah ?_;refine sr (lc:=[aD c [z.val] 134,z.au]) bi ?_;refine aC ?_;intro F A;exact aN z ⟨by have:=f.choose_spec;omega,f.choose_spec.2.2⟩ A
theorem Xa (w:World) (t s:List UInt8) (b:t.length≤1000000) (c:1≤s.length∧s.length≤1000000):Calls prog 53 [.string (bs t),.string (bs s)].toArray w
 (aP (λz:gf=>z.val) [] (λz=>[z.au]) (λz=>z.l.length≤t.length∧ ∀a∈z.l,0≤a∧a<t.length) w):=by
 refine aW func53 ntmps53 ?_;refine aJ ?_;refine aZ (l0:=[]) aA.nil rfl My rfl (λd _=>W_ d t s b c) (λz e=>?_);refine ay ?_;intro g f;exact aN z e f
abbrev ke (f:Nat) (A:Option Addr) (n c:Nat) (fr to:bl) (b:Nat):List Value:=
 [.slice A n c,.int .i64 fr.row,.int .i64 fr.dm,.int .i64 to.row,.int .i64 to.dm,.func (.func f) #[] #[.pointer (some ⟨b,0,none⟩)]]
theorem yH {α:Type} {E:bA α} {w:World} {F:Nat→Prop} {A:Option Addr} {n c:Nat} {l:List α} (h:Rd E w F A n c l):n≤maxLen:=fp h.cap h.max
theorem J4 (w:World) (F:Nat→Prop) (A:Option Addr) (n c:Nat) (rows:List bQ) (o:ep w F A n c rows) (fr to:bl) (f b k:Nat) (row:bQ) (p:rows[k]? = some row):
 Calls prog 184 [.agg (ke f A n c fr to b).toArray,.int .i64 (k:Int)].toArray w (λe w'=>e= .returned (.tuple #[.int .i64 (fN fr k),.int .i64 (gQ to k row.1.length)])∧Ext [] w w'):=by
 have z:=o.len
 have B:=(cU.1 p).1
 obtain⟨bX,C,m,d,D,_,t,r⟩:=o.at_ p;have j:=r.len
 have u:=yH r
 simp only[maxLen] at u
 refine aW func184 ntmps184 ?_;refine ah ?_;intro v E G;refine ay ?_;refine ew [0,1,2,3,4,5,6,7,8] 0 [[]] (af w [] [aD v (ke f A n c fr to b) 228]) mixed ab (λ_ a=>a.drew) (λ_ h=>dj) ?_;refine ah ?_;refine aL rfl (λx s=>(bD (q:=k) dI rfl rfl rfl bz aa aa aG)) ?_;refine aq ?_;refine aL rfl (λx s=>(ba sa rfl rfl (λH y=>by subst y;exact (s.ct (t 0 _ rfl) av)) aG)) ?_;refine dB ?_;refine aj (λi=>?_) (λi=>?_);refine eT ?_;refine aj (λg=>?_) (λg=>?_);refine eG ?_;intro l a;exact⟨by unfold fN gQ;rw[ax i,ax g,j],a.ext⟩;refine bw ?_;intro l a;exact⟨by unfold fN gQ;rw[ax i,ag g,j],a.ext⟩;refine bw ?_;refine aj (λg=>?_) (λg=>?_);refine eG ?_;intro l a;exact⟨by unfold fN gQ;rw[ag i,ax g,j],a.ext⟩;refine bw ?_;intro l a;exact⟨by unfold fN gQ;rw[ag i,ag g,j],a.ext⟩
def qn (L:List bh):Nat→Nat
 | 0=>0
 | k+1=>if (L[k]?.map (·.half))=some 3 then qn L k else k+1
theorem Xb (w:World) (F:Nat→Prop) (A:Option Addr) (n c:Nat) (l:List bh) (b:Bool) (f:Rd bJ w F A n c l):
 Calls prog 186 [.agg [.slice A n c,.bool b].toArray].toArray w (λe w'=>e= .returned (.int .i64 (qn l n:Int))∧Ext [] w w'):=by
 have t:=f.len
 have p:=yH f
 simp only[maxLen] at p
 refine aW func186 ntmps186 ?_;refine ah ?_;intro m u v;refine bH ?_;refine b3 (ι:=Nat) (λi=>[(3,.int .i64 (i:Int)),(1,.pointer (some ⟨m,0,none⟩))]) (λ_=>af w [] [aD m [.slice A n c,.bool b] 157]) (λi=>i≤n∧qn l n=qn l i) (λi=>i) ?_ ?_;exact λw a=>⟨n,⟨cd _,rfl⟩,(iA rfl rfl),a⟩
 rintro i ⟨hi,g⟩;refine al ?_;refine aV 9 rfl (λh=>?_) (λh=>?_);have y:0<i:=by have:=aY h;omega
 obtain⟨x,o⟩ : ∃x,l[i - 1]? = some x:=⟨l[i - 1]'aa,bE _⟩;obtain⟨z,B,_,r⟩:=f.at_ o;refine aJ ?_;refine bD (q:=(i - 1)) dv rfl rfl rfl bz aa aa ?_;refine ah ?_;refine ba bM rfl rfl (λw' j=>j.ct (r 2 _ rfl) av) ?_;refine ay ?_;have d:qn l i=if x.half=3 then qn l (i - 1) else i:=by
  conv=>lhs;rw[show i=i - 1+1 by omega]
  rw[qn,o];simp only[oc,dz];rw[show i - 1+1=i by omega]
 refine aj (λk=>?_) (λk=>?_);rw[ax k] at d
 refine aJ ?_;exact bg (i - 1) ⟨aa,g.trans d⟩ aa (Sub.cons (by rw[show ((i - 1 :Nat):Int)=(i:Int) - 1 by omega];rfl) bO) (λw' j=>j);rw[ag k] at d
 refine bH ?_;intro s a;exact⟨by rw[g,d],a.ext⟩;refine sv ?_;intro s a;have C:=a8 h
 obtain rfl:i=0:=by omega
 exact⟨by rw[g];rfl,a.ext⟩
theorem Xc {L:List bh} {a:Nat}: ∀k,k≤a→q0 L a k=none
 | 0,_=>rfl
 | k+1,h=>by rw[q0,ax aa]
theorem J5 {to:bl} {k len:Nat} (h:0≤to.dm):0≤gQ to k len∧gQ to k len≤(len:Int):=by
 unfold gQ;split <;> omega
theorem J6 (fr:bl) (k:Nat):0≤fN fr k:=by
 unfold fN;split <;> omega
theorem Xd (w:World) (F:Nat→Prop) (A:Option Addr) (n c:Nat) (rows:List bQ) (v:ep w F A n c rows) (fr to:bl) (f b l0 l1:Nat) (P:l1≤n) (Q:n≤1000000) (G:0≤to.dm):
 Calls prog 183 [.agg (ke f A n c fr to b).toArray,.agg [.int .i64 (l0:Int),.int .i64 (l1:Int)].toArray].toArray w (λe w'=>e= .returned (.agg (lK rows fr to l0 l1).enc.toArray)∧Ext [] w w'):=by
 have R:=v.len
 refine aW func183 ntmps183 ?_;refine ah ?_;intro r S T;refine aq ?_;intro s U V;refine aq ?_;intro t W X;refine ay ?_;refine dq (q:=1) underlying231 gr rfl rfl rfl a7 aa ?_;refine al ?_;refine b3 (ι:=Nat) (λk=>[(5,.int .i64 ((k:Int) - 1)),(2,.pointer (some ⟨r,0,none⟩)),(3,.pointer (some ⟨s,0,none⟩)),(4,.pointer (some ⟨t,0,none⟩))]) (λ_=>af w [] [aD t [.int .i64 0,.int .i64 0] 40,aD s [.int .i64 (l0:Int),.int .i64 (l1:Int)] 231,aD r (ke f A n c fr to b) 228]) (λk=>k≤l1∧lK rows fr to l0 l1=lK rows fr to l0 k) (λk=>k) ?_ ?_;exact λw l=>⟨l1,⟨cd _,rfl⟩,(cu rfl rfl rfl rfl),l⟩
 rintro k ⟨Y,o⟩;refine aS ?_;refine dq (q:=0) underlying231 gr rfl rfl rfl a7 aa ?_;refine aS ?_;refine aj (λH=>?_) (λH=>?_);obtain⟨a,rfl⟩ : ∃a,k=a+1:=⟨k - 1,aa⟩;rw[show (((a+1 :Nat):Int) - 1)=(a:Int) by omega];obtain⟨row,z⟩ : ∃row,rows[a]? = some row:=⟨rows[a]'aa,bE _⟩;obtain⟨bX,Z,m,d,Za,_,I,B⟩:=v.at_ z;have Zb:=B.len
 have J:=yH B
 simp only[maxLen] at J
 have K:k9 rows a=row.1:=by unfold k9;rw[z];rfl
 obtain⟨Zc,Zd⟩:=J5 (k:=a) (len:=row.1.length) G;have Ze:=J6 fr a
 rw[lK,ag aa,K] at o
 refine aK ?_;refine ao rfl Ew rfl (λw' g=>J4 w' F A n c rows (v.ext g.ext av) fr to f b a row z) ?_;refine cE ?_;refine b3 (ι:=Nat) (λx=>[(8,.int .i64 ((x:Int) - 1)),(2,.pointer (some ⟨r,0,none⟩)),(3,.pointer (some ⟨s,0,none⟩)),(4,.pointer (some ⟨t,0,none⟩)),(5,.int .i64 (a:Int)),(6,.int .i64 (fN fr a))]) (λ_=>af w [] [aD t [.int .i64 0,.int .i64 0] 40,aD s [.int .i64 (l0:Int),.int .i64 (l1:Int)] 231,aD r (ke f A n c fr to b) 228]) (λx=>x≤m∧q0 row.1 (fN fr a).toNat (gQ to a row.1.length).toNat=q0 row.1 (fN fr a).toNat x) (λx=>x) ?_ ?_;exact λw l=>⟨(gQ to a row.1.length).toNat,⟨aa,rfl⟩,Sub.cons (by rw[show (((gQ to a row.1.length).toNat:Nat):Int)=gQ to a row.1.length by omega];rfl) (ec rfl rfl rfl rfl rfl),l⟩
 rintro x ⟨Zf,h⟩;refine aK ?_;refine aj (λL=>?_) (λL=>?_);obtain⟨i,rfl⟩ : ∃i,x=i+1:=⟨x - 1,aa⟩;rw[show (((i+1 :Nat):Int) - 1)=(i:Int) by omega];obtain⟨y,E⟩ : ∃y,row.1[i]? = some y:=⟨row.1[i]'aa,bE _⟩;obtain⟨Zg,Zh,_,M⟩:=B.at_ E;rw[q0,ag aa,E] at h
 refine aJ ?_;refine bD (q:=a) dI rfl rfl rfl bz aa aa ?_;refine aq ?_;refine ba sa rfl rfl (λw' g=>g.ct (I 0 _ rfl) av) ?_;refine aq ?_;refine bD (q:=i) dv rfl rfl rfl bz aa aa ?_;refine cw jN rfl rfl (rfl) (λw' g j u N=>g.ct (M j u N) av) ?_;refine aq ?_;intro Zi Zj Zk;refine aJ ?_;refine aV 44 rfl (λC=>?_) (λC=>?_);refine aJ ?_;refine aj (λD=>?_) (λD=>?_);refine hh ?_;intro O l;have p:k_ y=true:=by unfold k_;rw[dY];exact⟨C,b1 D⟩
 rw[show ((some y).map k_).getD false=k_ y from rfl,p,ax rfl] at h
 rw[h] at o
 exact⟨by rw[o];rfl,l.ext⟩;refine aK ?_;have p:k_ y=false:=by unfold k_;rw[cm D,Bool.and_false]
 rw[show ((some y).map k_).getD false=k_ y from rfl,p,ag a1] at h
 exact bg i ⟨aa,h⟩ aa bO (λw' g=>g.rem bv.head);refine cE ?_;have p:k_ y=false:=by unfold k_;rw[C,Bool.false_and]
 rw[show ((some y).map k_).getD false=k_ y from rfl,p,ag a1] at h
 exact bg i ⟨aa,h⟩ aa bO (λw' g=>g.rem bv.head);refine bo ?_;rw[Xc x aa] at h
 rw[h] at o
 exact bg a ⟨aa,o⟩ aa bO (λw' g=>g);refine bH ?_;intro O l;rw[PA rows fr to l0 k aa] at o
 exact⟨by rw[o];rfl,l.ext⟩
theorem J7 {L:List bh} {row:Nat} {en:bl} {a i:Nat}: ∀j,i≤j→(ie L row en a i).length≤(ie L row en a j).length
 | 0,h=>by rw[show i=0 by omega];exact cd _
 | j+1,h=>by
  by_cases b:i=j+1
  rw[b];exact cd _
  have:=J7 (L:=L) (row:=row) (en:=en) (a:=a) (i:=i) j aa
  rw[ie,b0];omega
theorem J8 {rows:List bQ} {fr to en:bl} {l0 i:Nat}: ∀j,i≤j→(jd rows fr to en l0 i).length≤(jd rows fr to en l0 j).length
 | 0,h=>by rw[show i=0 by omega];exact cd _
 | j+1,h=>by
  by_cases a:i=j+1
  rw[a];exact cd _
  have:=J8 (rows:=rows) (fr:=fr) (to:=to) (en:=en) (l0:=l0) (i:=i) j aa
  rw[jd,b0];omega
def vQ (rows:List bQ) (fr to:bl) (l0 l1:Nat):List UInt8:=jd rows fr to (lK rows fr to l0 l1) l0 l1++(if (l1:Int) - 1<to.row then [10] else [])
theorem Xe (w:World) (F:Nat→Prop) (A:Option Addr) (n c:Nat) (eN:List pQ) (f:Nat→List (Int × Int)) (E:Rd k7 w F A n c eN) (X:n≤100000)
 (I:f 0=[]) (J: ∀k r,eN[k]? = some r→f (k+1)=no (f k) k r.cont) (K: ∀k,k≤n→(f k).length≤k):
 Calls prog 123 [.slice A n c].toArray w (λe w'=> ∃v,e= .returned v∧Ext [] w w'∧w'.ownsRow 0 231 2 v (f n).length (mB.all (f n))∧ ∀g,v.ownBlock=some g→w.heap.size≤g):=by
 refine aW func123 ntmps123 ?_;refine jM 231 2 ?_;refine eG ?_;refine b3 (ι:=Nat × Value × List (Int × Int)) (λi=>[(3,i.2.1),(7,.slice A n c),(8,.int .i64 (n:Int)),(9,.int .i64 (i.1 :Int))]) (λi=>af w [] [own 231 2 i.2.1 i.2.2.length (mB.all i.2.2)]) (λi=>i.1≤n∧i.2.2=f i.1∧ ∀g,i.2.1.ownBlock=some g→w.heap.size≤g) (λi=>n - i.1) ?_ ?_;exact λw x=>⟨(0,.slice none 0 0,[]),⟨bN _,I.symm,by simp[Value.ownBlock]⟩,(cu rfl rfl rfl rfl),x⟩
 rintro⟨k,v,L⟩ ⟨G,b,l⟩;dsimp only at G b l ⊢
 refine al ?_;refine aj (λM=>?_) (λM=>?_);have N:k<n:=by omega
 obtain⟨r,H⟩ : ∃r,eN[k]? = some r:=⟨eN[k]'(by rw[E.len];exact N),bE _⟩;obtain⟨bX,Y,Z,O⟩:=E.cells aa;have Za:L.length≤k:=b▸K k G
 refine hv (v:=v) Has.head (λZb Zc P Zd Ze Zf m=>?_);subst P;refine aC ?_;refine bD dI rfl rfl rfl bz a7 aa ?_;refine cw gL rfl rfl ((k7.len r)) (λw' a j u Q=>a.ct (O k r j u H Q) av) ?_;refine aq ?_;intro Zg Zh Zi;refine ef ?_;have y:=J k r H
 refine aV 18 rfl (λz=>?_) (λz=>?_);have B:=aY z
 refine aC ?_;refine b2 rfl (λd=>?_) (λd=>?_);obtain⟨g,rfl⟩:=m aa;obtain⟨p,ai⟩ : ∃p,L[L.length - 1]? = some p:=⟨L[L.length - 1]'aa,bE _⟩;have R:=mB.pr (j:=1) (a':=(p.1,(k:Int)+1)) (v:= .int .i64 ((k:Int)+1)) ai a1 rfl
 have s:no L k r.cont=L.set (L.length - 1) (p.1,(k:Int)+1):=by
  rw[bE aa] at ai
  simp only[dz] at ai
  have t:L≠[]:=λe=>by subst e;simp at B
  have S:L.getLast?=some p:=by rw[v_ t,List.getLast_eq_getElem,ai]
  simp only[no,S,d,if_true];rw[qz,ax aa,List.dropLast_eq_take,show L.length - 1+1=L.length by omega,List.drop_length]
 refine aC ?_;refine bD (q:=(L.length - 1)) sb rfl rfl rfl a7 aa aa ?_;refine qH (q:=1) underlying231 gr rfl rfl rfl aa aa ?_;refine kW (o:=(L.length - 1)*2+1) bM rfl rfl (by exact bn.tail bn.head) (by simp[Addr.add_lit]) rfl (by rw[mB.dH];show _<L.length*2;omega) ?_;refine aR ?_;refine bg (k+1,_,L.set (L.length - 1) (p.1,(k:Int)+1)) ⟨aa,by rw[y,←b,s],l⟩ aa (cu rfl rfl rfl rfl) (λw' a=>?_);have:=a.rem bv.head
 rw[show (L.length - 1)*2+1=(L.length - 1)*mB.sz+1 from rfl,R] at this
 simpa using this
 have s:no L k r.cont=L++[((k:Int),(k:Int)+1)]:=by
  have t:L≠[]:=λe=>by subst e;simp at B
  simp only[no,v_ t,d];rfl
 refine aJ ?_;intro T U V;refine gm sb rfl rfl rfl bi (λ_=>by exact eo) rfl (w2 rfl rfl) (by simp only[maxLen];omega) aa (λC D=>?_);refine aK ?_;refine bg (k+1,C,L++[((k:Int),(k:Int)+1)]) ⟨aa,by rw[y,←b,s],λg m=>by
  rcases D g m with h | h
  exact l g h;exact h.1⟩ aa (cu rfl rfl rfl rfl) (λw' a=>?_)
 have:=a.rem bv.head
 rw[b0,bA.hc];exact this;have B:=a8 z
 refine ay ?_;refine b2 rfl (λd=>?_) (λd=>?_);exact absurd d a1;have s:no L k r.cont=L++[((k:Int),(k:Int)+1)]:=by
  have t:L=[]:=iR aa
  subst t;rfl
 refine aJ ?_;intro T U V;refine gm sb rfl rfl rfl bi (λ_=>by exact eo) rfl (w2 rfl rfl) (by simp only[maxLen];omega) aa (λC D=>?_);refine aK ?_;refine bg (k+1,C,L++[((k:Int),(k:Int)+1)]) ⟨aa,by rw[y,←b,s],λg m=>by
  rcases D g m with h | h
  exact l g h;exact h.1⟩ aa (cu rfl rfl rfl rfl) (λw' a=>?_)
 have:=a.rem bv.head
 rw[b0,bA.hc];exact this;refine bH ?_;intro Zj x;have W:k=n:=by omega
 subst W;rw[←b];exact⟨_,rfl,x.ext,x.has Has.head,l⟩
theorem Xf (w:World) (F:Nat→Prop) (A:Option Addr) (n c:Nat) (rows:List bQ) (a:ep w F A n c rows) (b:n≤100000):
 Calls prog 123 [.slice A n c].toArray w (λe w'=> ∃v,e= .returned v∧Ext [] w w'∧w'.ownsRow 0 231 2 v (ks rows n).length (mB.all (ks rows n))∧ ∀g,v.ownBlock=some g→w.heap.size≤g):=by
 obtain⟨eN,d,f,_⟩:=a.hs;refine Xe w F A n c eN (ks rows) d b rfl (λk r h=>?_) (λk _=>Ap rows k);have:np rows k=r.cont:=by
  have:=aX (λl=>l[k]?) f
  simp only[eJ,h,oc] at this
  unfold np;rw[←this];rfl
 rw[ks,this]
theorem Xg {α:Type} (f:α→List UInt8) {L:List α} {i:Nat}: ((L.take i).flatMap f).length≤(L.flatMap f).length:=by
 conv=>rhs;rw[←iT i L,tV,b0]
 omega
theorem J9 {rows:List bQ} {fr to:bl} {s e:Int} {l0 l1:Nat} (a:max s fr.row=(l0:Int)) (b: (l0:Int)<e) (c: (l0:Int)≤to.row) (d: (l1:Int)=if to.row<rows.length∧to.row+1<e then to.row+1 else e):
 ig rows fr to (s,e)=vQ rows fr to l0 l1:=by
 unfold ig vQ;dsimp only;rw[a,ax ⟨b,c⟩,←d];rfl
theorem Xh {rows:List bQ} {fr to:bl} {s e:Int} (h: ¬(max s fr.row<e∧max s fr.row≤to.row)):ig rows fr to (s,e)=[]:=ag h
end Go.Proofs.YtkeokgcdnfjaaaaGreatDoor.Mq
