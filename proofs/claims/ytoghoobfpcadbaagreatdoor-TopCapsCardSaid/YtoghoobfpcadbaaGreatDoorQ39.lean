/- part 39 of the proof -/
import Derived.Test.YtoghoobfpcadbaaGreatDoorQ38
namespace Go.Proofs.YtoghoobfpcadbaaGreatDoor.Mq
open Go Go.RowKit Go.Proofs Tryz
structure gK (s i:bU):Prop where
 g:i.g=s.g
 most:i.st.most=s.st.most
 marks:i.cx.most=s.cx.most
 room:i.ap.r.room=s.ap.r.room
 last:eI s.st.abs≤eI i.st.abs
theorem gK.refl [Inhabited bN] (s:bU):gK s s:=⟨rfl,rfl,rfl,rfl,fQ _⟩
def wh [Inhabited bN] (s:bU) (m:Nat) (N:Int) {ι:Type} (v:ι→Value) (w:World):Ending→World→Prop:=aO (λi:ι × bU=>v i.1) [b9 s] (λi=>[b9 i.2]) (λi=>gK s i.2∧cF i.2 m N) w
theorem cF.Ku {s:bU} {m:Nat} {N:Int} (h:cF s m N) {t:Int} (f:Bool) (a:0≤t∧t≤1000000):cF { s with top:=t,dn:=f } m N:=⟨h.par,h.T,h.st,h.cx,h.mp,a⟩
theorem Kv [Inhabited bN] (w:World) (s:bU) {m:Nat} {N:Int} (a:cF s m N) (f:a8 w [b9 s]) (A:Option Addr) (n c:Nat) (e:n≤1000000) (y:Int):Calls prog 46 [ptr s.g,.slice A n c,.int .i64 y].toArray w (wh s m N (λ_:Unit=> .tuple #[]) w):=by
 have o:=a.small
 have p:0≤s.most n∧s.most n≤1000000:=by unfold bU.most;omega
 have i:=a.Ku s.dn (t:=max 0 (min y (s.most n))) aa
 refine calls (n:=29) func46 rfl ntmps46 rfl ?_;refine cL (H':=af w (aA [b9 s]) (cS s)) ?_ (Sub.refl _) (λx j=>by have h:=(f.start x j).open (l:=cS s) bi;rwa [fR] at h);refine al ?_;refine ao rfl wL rfl (λb d=>yY b s a d.all A n c e) ?_;refine aL ?_;refine bF [0,1,2,3,4,5,6,7] 2 [[(8,false,[9,10,11,12]),(13,true,[])]] ?_;refine aR ?_;refine ao rfl wL rfl (λb d=>yY b { s with top:=max 0 (min y (s.most n)) } i d.all A n c e) ?_;refine bB ?_;intro q k;exact aO.bQ ((),{ s with top:=max 0 (min y (s.most n)),dn:=_ }) ⟨⟨rfl,rfl,rfl,rfl,fQ _⟩,a.Ku _ aa⟩ rfl (k.close (l:=cS { s with top:=max 0 (min y (s.most n)),dn:=_ }) ae)
theorem X4 {α:Type} {E:bx α} {b w:World} {S:List Nat} {cs cs':List Chunk} {e:TypeId} {A:Option Addr} {c:Nat} {L:List α} {c0:Chunk} (h:af b S cs w) (g:bv cs (au e E A c L) cs') (i:Has cs' c0):Rd E w (λk=>k∉aA [c0]) A L.length c L:=by
 have a:=h.perm g.perm
 have d:=a.nodup
 rw[fi,fS] at d
 obtain⟨dF,c9,j,l⟩:=Rd.ga (E:=E) (show w.ownsRow 0 e E.sz (.slice A L.length c) L.length (E.all L) from a.has Has.head) rfl;injection j with m _ n
 subst m n;refine l.dJ (λk o f=>?_);rw[show aA [c0]=c0.cm by simp[aA]] at f
 exact d.2.2 k (i_.2 o) k (e3.2 ⟨c0,i.mem,f⟩) rfl
theorem X5 [Inhabited bN] (w:World) (s:bU) {m:Nat} {N:Int} (b:cF s m N) (f:a8 w [b9 s]) (k:Int):Calls prog 23 [ptr s.g,.int .i64 k].toArray w (wh s m N (λ_:Unit=> .tuple #[]) w):=by
 have p:=b.small
 have r:=b.Ks
 refine bC func23 ntmps23 f ?_;refine aR ?_;refine aY (l0:=[]) aB.nil rfl Eb rfl (λd e=>Kt d s b (e.has aQ)) (λz h=>?_);refine ar ?_;have t:z.l.length=s.rM.length:=aV List.length h
 refine aD ?_;refine aY (l0:=[]) aB.nil rfl Ed rfl (λd e=>Km d s b (e.has bH) z.A z.l.length z.c aa) (λa j=>?_);refine ah ?_;have u:0≤a∧a≤1000000:=by unfold bU.most at j;omega
 refine ar ?_;refine aY (ι:=Unit × bU) (v:=λ_=> .tuple #[]) (l':=λi=>[b9 i.2]) (ok:=λi=>gK s i.2∧cF i.2 m N) (l0:=[b9 s]) ae rfl Ec rfl (λd e=>Kv d s b (e.bo ae) z.A z.l.length z.c aa _) (λq n=>?_);refine aq ?_;intro x o;exact aN q n o
theorem cF.high [Inhabited bN] {s:bU} {m:Nat} {N:Int} (h:cF s m N):1≤s.ap.s.l.length:=by
 have ai:c7 s.ap.abs:=h.T.first.ok.bE
 have:=ai.rows.1
 simpa [bq.abs] using this
theorem X6 [Inhabited bN] (w:World) (s:bU) {m:Nat} {N:Int} (d:cF s m N) (C:a8 w [b9 s]) (k:Int) (D: -9223372036854775808≤k∧k≤9223372036854775807) (A:Option Addr) (n c:Nat) (L:List Int) (F:Rd bX w (λk=>k∉aA [b9 s]) A n c L) (G:n≤100000):Calls prog 43 [ptr s.g,.int .i64 k,.slice A n c].toArray w (wh s m N (λi:Int=> .int .i64 i) w):=by
 have R:=d.small
 have S:=d.Ks
 have T:=d.high
 refine bC func43 ntmps43 C ?_;refine aL ?_;refine aY (l0:=[]) aB.nil rfl Eb rfl (λe f=>Kt e s d (f.has aQ)) (λz B=>?_);refine ar ?_;have U:z.l.length=s.rM.length:=aV List.length B
 refine aJ ?_;refine aX 17 rfl (λu=>?_) (λu=>?_);have H:=a1 u
 refine b_ ?_;intro p o;exact aN (5,s) ⟨gK.refl s,d⟩ o;have H:=bc u
 refine aD ?_;refine aj (λaK=>?_) (λaK=>?_);refine aL ?_;intro p o;exact aN (5,s) ⟨gK.refl s,d⟩ o;refine aD ?_;refine aY (l0:=[]) aB.nil rfl Ed rfl (λe f=>Km e s d (f.has bH) z.A z.l.length z.c aa) (λa I=>?_);have V:0≤a∧a<z.l.length:=by unfold bU.most at I;omega
 obtain⟨j,J⟩ : ∃j:Nat,a=(j:Int):=⟨a.toNat,aa⟩;obtain⟨v,K⟩ : ∃v,z.l[j]? = some v:=⟨_,bG aa⟩;refine jm (E:=n3) (q:=j) aQ sj rfl rfl rfl J aa (λW M=>?_);refine ar ?_;refine a7 bM rfl rfl (λX O=>O.fO (E:=n3) aQ M K 0 _ rfl) ?_;refine aL ?_;refine aY (l0:=[]) aB.nil rfl ME rfl (λe f=>Xp e _ A n c L (F.ext f.ext (λ_ h=>h)) G _ k D) (λr _=>?_);refine aD ?_;refine aY (l0:=[]) aB.nil rfl MF rfl (λe f=>W7 e _ z.A z.l.length z.c z.l (gV (f.has (c:=z.au) aQ)) (B▸d.X0) aa r) (λ⟨t,b⟩ Y=>?_);refine b_ ?_;refine aX 41 rfl (λx=>?_) (λx=>?_);have P:=a1 x
 refine b_ ?_;intro p o;exact aN (5,s) ⟨gK.refl s,d⟩ o;have P:=bc x
 refine aD ?_;refine b6 rfl (λy=>?_) (λy=>?_);simp only[b3] at y
 refine aL ?_;intro p o;exact aN (5,s) ⟨gK.refl s,d⟩ o;simp only[b3] at y
 refine aD ?_;refine aY (ι:=Unit × bU) (v:=λ_=> .tuple #[]) (l':=λi=>[b9 i.2]) (ok:=λi=>gK s i.2∧cF i.2 m N) (l0:=[b9 s]) ae rfl Ec rfl (λe f=>Kv e s d (f.bo ae) z.A z.l.length z.c aa _) (λq Q=>?_);refine aJ ?_;intro p o;exact aN (0,q.2) Q o
theorem X7 [Inhabited bN] (w:World) (s:bU) {m:Nat} {N:Int} (d:cF s m N) (e:a8 w [b9 s]) (k j:Int) (f: -9223372036854775808≤k∧k≤9223372036854775807):Calls prog 22 [ptr s.g,.int .i64 k,.int .i64 j].toArray w (wh s m N (λi:Int=> .int .i64 i) w):=by
 have h:=d.iz.1
 refine bC func22 ntmps22 e ?_;refine aR ?_;refine aY (l0:=[]) aB.nil rfl wI rfl (λb a=>yZ b s d (a.has aQ)) (λz n=>?_);have r:z.l.length≤10001:=by rw[n];exact h
 refine ar ?_;refine aY (l0:=[]) aB.nil rfl Mp rfl (λb a=>Xo b _ z.A z.l.length z.c z.l (gV (a.has (c:=z.au) aQ)) aa j) (λy t=>?_);refine aY (ι:=Int × bU) (v:=λi=> .int .i64 i.1) (l':=λi=>[b9 i.2]) (ok:=λi=>gK s i.2∧cF i.2 m N) (l0:=[b9 s]) ae rfl Mo rfl (λb a=>X6 b s d (a.bo ae) k f y.A y.l.length y.c y.l (X4 a (c0:=b9 s) (L:=y.l) bi bH) aa) (λq o=>?_);refine ax ?_;intro u p;exact aN q o p
theorem X8 [Inhabited bN] (w:World) (s:bU) {m:Nat} {N:Int} (a:cF s m N) (r:a8 w [b9 s]) (id:Int) (k:Bool):Calls prog 21 [ptr s.g,.int .u64 id,.bool k].toArray w (wh s m N (λi:Int=> .int .i64 i) w):=by
 have t: ∃v:eV,∃o:Bool,rH (kj s.st.abs id ⟨s.rows,0⟩)= .tuple #[.agg v.enc.toArray,.bool o]:=by
  cases kj s.st.abs id ⟨s.rows,0⟩ with
  | none=>exact⟨_,_,rfl⟩
  | some v=>exact⟨v,true,rfl⟩
 obtain⟨v,o,n⟩:=t;refine bC func21 ntmps21 r ?_;cases k
 refine aR ?_;refine ao rfl sm rfl (λh j=>n▸tW h s a (j.has aQ) id) ?_;refine aS ?_;intro u x y;refine eW (vs:=v.enc) gy rfl rfl (bn.whole cA bb) rfl (aH.cons rfl (aH.cons rfl (aH.cons rfl (aH.cons rfl (aH.cons rfl (aH.cons rfl (aH.cons rfl (gb rfl rfl rfl rfl rfl rfl rfl rfl rfl rfl)))))))) (by exact dY rfl) ?_;refine aL ?_;refine aX 17 rfl (λz=>?_) (λz=>?_);refine b_ ?_;intro e b;exact aN (5,s) ⟨gK.refl s,a⟩ b;refine aD ?_;refine aj (λaK=>?_) (λaK=>?_);refine aL ?_;intro e b;exact aN (5,s) ⟨gK.refl s,a⟩ b;refine aL ?_;refine b6 rfl (λp=>?_) (λp=>?_);refine q3 (lc:=cS s) cB ?_;refine al ?_;refine Kk underlying71 underlying32 a.mp bA rfl rfl rfl (λ_ _=>jf) (λc d f=>?_);refine aJ ?_;intro e b;exact aO.bQ (0,{ s with es:=c,ck:=d }) ⟨⟨rfl,rfl,rfl,rfl,fQ _⟩,a.par,a.T,a.st,a.cx,f,a.top⟩ rfl ((b.close (l:=cS { s with es:=c,ck:=d }) ae).aw ae);simp only[b3] at p
 refine q3 (lc:=cS s) cB ?_;refine al ?_;refine Kl underlying71 underlying32 a.mp rfl rfl (λ_ _=>jf) (λc d f=>?_);refine aJ ?_;intro e b;exact aO.bQ (0,{ s with es:=c,ck:=d }) ⟨⟨rfl,rfl,rfl,rfl,fQ _⟩,a.par,a.T,a.st,a.cx,f,a.top⟩ rfl ((b.close (l:=cS { s with es:=c,ck:=d }) ae).aw ae);refine aR ?_;refine ao rfl sm rfl (λh j=>n▸tW h s a (j.has aQ) id) ?_;refine aS ?_;intro u x y;refine eW (vs:=v.enc) gy rfl rfl (bn.whole cA bb) rfl (aH.cons rfl (aH.cons rfl (aH.cons rfl (aH.cons rfl (aH.cons rfl (aH.cons rfl (aH.cons rfl (gb rfl rfl rfl rfl rfl rfl rfl rfl rfl rfl)))))))) (by exact dY rfl) ?_;refine aL ?_;refine aX 17 rfl (λA=>?_) (λA=>?_);refine b_ ?_;intro e b;exact aN (5,s) ⟨gK.refl s,a⟩ b;refine aD ?_;refine aj (λB=>?_) (λB=>?_);refine aL ?_;intro e b;exact aN (5,s) ⟨gK.refl s,a⟩ b;refine aL ?_;refine b6 rfl (λq=>?_) (λq=>?_);simp only[b3] at q
 refine q3 (lc:=cS s) cB ?_;refine al ?_;refine Kk underlying71 underlying32 a.mp bA rfl rfl rfl (λ_ _=>jf) (λc d f=>?_);refine aJ ?_;intro e b;exact aO.bQ (0,{ s with es:=c,ck:=d }) ⟨⟨rfl,rfl,rfl,rfl,fQ _⟩,a.par,a.T,a.st,a.cx,f,a.top⟩ rfl ((b.close (l:=cS { s with es:=c,ck:=d }) ae).aw ae);refine q3 (lc:=cS s) cB ?_;refine al ?_;refine Kl underlying71 underlying32 a.mp rfl rfl (λ_ _=>jf) (λc d f=>?_);refine aJ ?_;intro e b;exact aO.bQ (0,{ s with es:=c,ck:=d }) ⟨⟨rfl,rfl,rfl,rfl,fQ _⟩,a.par,a.T,a.st,a.cx,f,a.top⟩ rfl ((b.close (l:=cS { s with es:=c,ck:=d }) ae).aw ae)
theorem X9 {c:bj} (h:c.more.length≤32): (oJ c).length≤36:=by
 unfold oJ;split
 simp
 split
 simp
 have:=AA c.r
 rw[b8];omega
theorem Kw [Inhabited bN] {L:List bj} (h: ∀x∈L,x.more.length≤32) (row:Nat) (en:bh) (a:Nat): ∀k,(io L row en a k).length≤36*k
 | 0=>by simp[io]
 | k+1=>by
  have d:=Kw h row en a k
  rw[io,b8];split
  simp only[lH];omega
  cases b:L[k]? with
  | none=>simp only[lH];omega
  | some c=>
   have:=X9 (h c (dc b))
   simp only[q7];split
   omega
   simp only[lH];omega
abbrev wi (rows:List bS):Prop:= ∀r∈rows,r.1.length≤100∧ ∀x∈r.1,x.more.length≤32
theorem X_ {rows:List bS} (h:wi rows) (k:Nat): (lh rows k).length≤100∧ ∀x∈lh rows k,x.more.length≤32:=by
 unfold lh;cases a:rows[k]? with
 | none=>simp
 | some r=>exact h r (dc a)
theorem Kx [Inhabited bN] {rows:List bS} (h:wi rows) (fr to en:bh) (l0:Nat): ∀k,(jg rows fr to en l0 k).length≤3600*(k - l0)
 | 0=>by simp[jg]
 | k+1=>by
  have b:=Kx h fr to en l0 k
  rw[jg,b8];split
  rename_i c;rw[AB rows fr to en l0 k aa];simp
  have a:=X_ h k
  have d:=Kw a.2 k en (fU fr k).toNat (gT to k (lh rows k).length).toNat
  have e: (gT to k (lh rows k).length).toNat≤100:=by unfold gT;split <;> omega
  omega
theorem Ya [Inhabited bN] {rows:List bS} (h:wi rows) (fr to:bh) (s e:Nat) (b:s<e): (ip rows fr to ((s:Int),(e:Int))).length≤3601*(e - s):=by
 have a: ∀l1:Int,l1.toNat≤e→(jg rows fr to (lS rows fr to (max (s:Int) fr.row).toNat l1.toNat) (max (s:Int) fr.row).toNat l1.toNat++(if l1 - 1<to.row then [10] else [])).length≤3601*(e - s):=λl1 c=>by
  have:=Kx h fr to (lS rows fr to (max (s:Int) fr.row).toNat l1.toNat) (max (s:Int) fr.row).toNat l1.toNat
  rw[b8];have d: (if l1 - 1<to.row then ([10]:List UInt8) else []).length≤1:=by split <;> simp
  omega
 unfold ip;split
 exact a _ (by dsimp only;split <;> omega);exact bP _
theorem Ky {rows:List bS} {n C:Nat} {f:Int × Int→List UInt8} (b: ∀s e:Nat,s<e→(f ((s:Int),(e:Int))).length≤C*(e - s)): ∀(L:List (Int × Int)) (a:Nat),sF rows n a L→(L.flatMap f).length≤C*(n - a)
 | [],_,_=>by simp
 | p::L,a,h=>by
  obtain⟨e,rfl,c,g,_,_,d⟩:=Az h;have i:=Ky b L e d
  have j:=b a e c
  rw[n_,b8];have k:C*(n - a)=C*(e - a)+C*(n - e):=by rw[←Nat.mul_add];congr 1;omega
  omega
theorem Kz [Inhabited bN] {rows:List bS} (h:wi rows) (b:rows.length≤200) (fr to:bh): (jE rows fr to).length≤1000000:=by
 unfold jE;split
 have:=Ky (C:=3601) (λs e a=>Ya h (uU fr) to s e a) _ _ (Ay rows rows.length)
 omega
 simp
def bU.fY (s:bU):List bS:=s.ap.r.rows++b0 s.ap.s.l
theorem cF.fY [Inhabited bN] {s:bU} {m:Nat} {N:Int} (h:cF s m N):wi s.fY∧s.fY.length≤200∧(s.fY.length:Int)=s.rows:=by
 have ai:c7 s.ap.abs:=h.T.first.ok.bE
 have b:=h.small
 have c:=h.ring
 have d:s.ap.abs.cols=s.ap.cols:=rfl
 refine⟨λr a=>?_,?_,?_⟩;rcases db.1 a with a | a
 have:=ai.nC r a
 exact⟨aa,this.2⟩;have:=ai.wide r a
 exact⟨aa,this.2⟩;unfold bU.fY;rw[b8,lk,cT];omega
 unfold bU.fY bU.rows;rw[b8,lk,cT];omega
def pn (b:eV) (k:Int):Option (bh × bh):=if k=0 then some (b.start,b.stop) else if k=1 then some (b.start,b.input) else if k=2 then some (b.input,b.output) else if k=3 then some (b.output,b.done) else none
def Dc:Option (bh × bh)→Value
 | some (a,b)=> .tuple #[ee a,ee b,.bool true]
 | none=> .tuple #[ee ⟨0,0⟩,ee ⟨0,0⟩,.bool false]
theorem KA (w:World) (b:eV) (k:Int):Calls prog 35 [.agg b.enc.toArray,.int .i64 k].toArray w (Pure (Dc (pn b k)) w):=by
 unfold pn;refine aW func35 ntmps35 ?_;refine ah ?_;intro c i j;refine ar ?_;intro l m n;refine ar ?_;intro o p q;refine dx ?_;refine aj (λe=>?_) (λe=>?_);refine ar ?_;refine eq [0,1,2,3] 2 [[(4,false,[]),(5,false,[6])]] (_) mixed ab (λ_ a=>a.drew) (λ_ h=>(show af _ _ [aE c b.enc 53] _ from h.aw ae)) ?_;refine aD ?_;refine bV (λ_=>True) (λ_ h=> .inr ((h.rem bv.head).rem bv.head)) (λ_ h=>aT) ?_;refine ah ?_;refine bV (λ_=>True) (λ_ h=> .inr ⟨.inr ((h.rem bv.head).rem bv.head),cz⟩) (λ_ h=>aT) ?_;refine aD ?_;refine nd results35 (cC.eR dN rfl bH rfl rfl) (cC.eR dN rfl aQ rfl rfl) (cC.tmp rfl) (λd a=>?_)
 (subst_vars;exact⟨rfl,a.ext⟩)
 refine al ?_;refine aj (λaK=>?_) (λaK=>?_);refine ar ?_;refine eq [0,1,2,3] 2 [[(4,false,[]),(5,false,[6])]] (_) mixed ab (λ_ a=>a.drew) (λ_ h=>(show af _ _ [aE c b.enc 53] _ from h.aw ae)) ?_;refine aD ?_;refine bV (λ_=>True) (λ_ h=> .inr ((h.rem bv.head).rem bv.head)) (λ_ h=>aT) ?_;refine ah ?_;refine bV (λ_=>True) (λ_ h=> .inr ⟨.inr ((h.rem bv.head).rem bv.head),cz⟩) (λ_ h=>aT) ?_;refine aD ?_;refine nd results35 (cC.eR dN rfl bH rfl rfl) (cC.eR dN rfl aQ rfl rfl) (cC.tmp rfl) (λd a=>?_)
 (subst_vars;exact⟨rfl,a.ext⟩)
 refine al ?_;refine aj (λf=>?_) (λf=>?_);refine ar ?_;refine eq [0,1,2,3] 2 [[(4,false,[]),(5,false,[6])]] (_) mixed ab (λ_ a=>a.drew) (λ_ h=>(show af _ _ [aE c b.enc 53] _ from h.aw ae)) ?_;refine aD ?_;refine bV (λ_=>True) (λ_ h=> .inr ((h.rem bv.head).rem bv.head)) (λ_ h=>aT) ?_;refine ah ?_;refine bV (λ_=>True) (λ_ h=> .inr ⟨.inr ((h.rem bv.head).rem bv.head),cz⟩) (λ_ h=>aT) ?_;refine aD ?_;refine nd results35 (cC.eR dN rfl bH rfl rfl) (cC.eR dN rfl aQ rfl rfl) (cC.tmp rfl) (λd a=>?_)
 (subst_vars;exact⟨rfl,a.ext⟩)
 refine al ?_;refine aj (λg=>?_) (λg=>?_);refine ar ?_;refine eq [0,1,2,3] 2 [[(4,false,[]),(5,false,[6])]] (_) mixed ab (λ_ a=>a.drew) (λ_ h=>(show af _ _ [aE c b.enc 53] _ from h.aw ae)) ?_;refine aD ?_;refine bV (λ_=>True) (λ_ h=> .inr ((h.rem bv.head).rem bv.head)) (λ_ h=>aT) ?_;refine ah ?_;refine bV (λ_=>True) (λ_ h=> .inr ⟨.inr ((h.rem bv.head).rem bv.head),cz⟩) (λ_ h=>aT) ?_;refine aD ?_;refine nd results35 (cC.eR dN rfl bH rfl rfl) (cC.eR dN rfl aQ rfl rfl) (cC.tmp rfl) (λd a=>?_)
 (subst_vars;exact⟨rfl,a.ext⟩)
 refine bI ?_;refine nd results35 (cC.eR dN rfl bH rfl rfl) (cC.eR dN rfl aQ rfl rfl) (cC.tmp rfl) (λd a=>?_);exact⟨by rw[ag bA,ag bA,ag bA,ag bA];rfl,a.ext⟩
def wj (s:bU) (id k:Int):List UInt8 × Bool × Int:=match kj s.st.abs id ⟨s.rows,0⟩ with
 | none=>([],false,5)
 | some b=>match pn b k with
  | none=>([],false,1)
  | some (fr,to)=>(if to=⟨s.rows,0⟩ then n5 (jE s.fY fr to) else jE s.fY fr to,b.cut,0)
abbrev copyV (t:List UInt8 × Bool × Int):Value:= .tuple #[.string (bs t.1),.bool t.2.1,.int .i64 t.2.2]
theorem Yb {b:eV} {k:Int} {p q:bh} (h:qt b) (ai:pn b k=some (p,q)):em p∧em q:=by
 unfold pn at ai
 split at ai
 cases ai;exact⟨h.start,h.stop⟩
 split at ai
 cases ai;exact⟨h.start,h.input⟩
 split at ai
 cases ai;exact⟨h.input,h.output⟩
 split at ai
 cases ai;exact⟨h.output,h.done⟩
 cases ai
theorem KB {s:du} {id:Int} {q:bh} {b:eV} (h:kj s id q=some b):b∈ki s q:=List.mem_of_find?_eq_some h
theorem KC [Inhabited bN] (w:World) (s:bU) {m:Nat} {N:Int} (e:cF s m N) (p:a8 w [b9 s]) (id k:Int):Calls prog 19 [ptr s.g,.int .u64 id,.int .i64 k].toArray w (aO (λ_:Unit=>copyV (wj s id k)) [b9 s] (λ_=>[b9 s]) (λ_=>True) w):=by
 have Y:=e.rw
 have q:=e.fY
 unfold wj;cases t:kj s.st.abs id ⟨s.rows,0⟩ with
 | none=>
  have n:rH (kj s.st.abs id ⟨s.rows,0⟩)= .tuple #[.agg rG.enc.toArray,.bool false]:=by rw[t];rfl
  refine bC func19 ntmps19 p ?_;refine bp ?_;refine ao rfl sm rfl (λa b=>n▸tW a s e (b.has aQ) id) ?_;refine aS ?_;intro G H I;refine eW (vs:=rG.enc) gy rfl rfl (bn.whole cA bb) rfl (aH.cons rfl (aH.cons rfl (aH.cons rfl (aH.cons rfl (aH.cons rfl (aH.cons rfl (aH.cons rfl (gb rfl rfl rfl rfl rfl rfl rfl rfl rfl rfl)))))))) (by exact dY rfl) ?_;refine hs ?_;intro y d;exact aN () aT d
 | some v=>
  have n:rH (kj s.st.abs id ⟨s.rows,0⟩)= .tuple #[.agg v.enc.toArray,.bool true]:=by rw[t];rfl
  have O:qt v:=e.iz.2 v (KB t)
  dsimp only;cases ai:pn v k with
  | none=>
   refine bC func19 ntmps19 p ?_;refine bp ?_;refine ao rfl sm rfl (λa b=>n▸tW a s e (b.has aQ) id) ?_;refine aS ?_;intro G H I;refine eW (vs:=v.enc) gy rfl rfl (bn.whole cA bb) rfl (aH.cons rfl (aH.cons rfl (aH.cons rfl (aH.cons rfl (aH.cons rfl (aH.cons rfl (aH.cons rfl (gb rfl rfl rfl rfl rfl rfl rfl rfl rfl rfl)))))))) (by exact dY rfl) ?_;refine bp ?_;have B:Dc (pn v k)= .tuple #[ee ⟨0,0⟩,ee ⟨0,0⟩,.bool false]:=by rw[ai];rfl
   refine aS ?_;refine cy (vs:=v.enc) gy rfl rfl rfl (λP C j u D=>C.k5 (sz:=17) (o:=0) (xs:=v.enc) aQ rfl j u D) ?_;refine ar ?_;refine ao rfl D9 rfl (λa b=>B▸KA a v k) ?_;refine ax ?_;intro J Q R;refine ar ?_;intro K S T;refine oD ?_;intro y d;exact aN () aT d
  | some U=>
   obtain⟨⟨fr,E⟩,⟨f,i⟩⟩:=U;obtain⟨V,L⟩:=Yb O ai;dsimp only[copyV];refine bC func19 ntmps19 p ?_;refine bp ?_;refine ao rfl sm rfl (λa b=>n▸tW a s e (b.has aQ) id) ?_;refine aS ?_;intro G H I;refine eW (vs:=v.enc) gy rfl rfl (bn.whole cA bb) rfl (aH.cons rfl (aH.cons rfl (aH.cons rfl (aH.cons rfl (aH.cons rfl (aH.cons rfl (aH.cons rfl (gb rfl rfl rfl rfl rfl rfl rfl rfl rfl rfl)))))))) (by exact dY rfl) ?_;refine bp ?_;have B:Dc (pn v k)= .tuple #[ee ⟨fr,E⟩,ee ⟨f,i⟩,.bool true]:=by rw[ai];rfl
   refine aS ?_;refine cy (vs:=v.enc) gy rfl rfl rfl (λP C j u D=>C.k5 (sz:=17) (o:=0) (xs:=v.enc) aQ rfl j u D) ?_;refine ar ?_;refine ao rfl D9 rfl (λa b=>B▸KA a v k) ?_;refine ax ?_;intro J Q R;refine ar ?_;intro K S T;refine bI ?_;have Z:=Kz q.1 q.2.1 ⟨fr,E⟩ ⟨f,i⟩
   refine ah ?_;refine eq [0,2,3] 2 [[(1,false,[]),(4,false,[5])]] (_) mixed ab (λ_ d=>d.drew) (λ_ h=>(show af _ _ [aE J _ 51,aE K _ 51] _ from h.aw ae)) ?_;refine ax ?_;refine cE (λa b=>Db a s e b) (λz M=>?_);refine bV (λ_=>True) (λ_ h=> .inr (h.aw ae)) (λ_ h=>aT) ?_;refine aq ?_;refine ao rfl D_ rfl (λa b=>Kj a _ z.A z.l.length z.c s.fY ((show b0 z.l=s.fY from M)▸sK (b.has (c:=z.au) bH) (b.has (c:=z.cj) cu)) ⟨fr,E⟩ ⟨f,i⟩ (by have:=aV List.length (show b0 z.l=s.fY from M);rw[cT] at this;omega) V.1 L.2.1 L.1 (λr W x X=>by have:=(q.1 r W).2 x X;omega) aa) ?_;refine bV (λ_=>True) (λ_ h=> .inr ⟨.inr (h.aw ae),cz⟩) (λ_ h=>aT) ?_;refine al ?_;refine bF [0,1] 1 [[(2,false,[3])]] ?_;refine aS ?_;refine ao rfl wJ rfl (λa b=>yX a s e (b.has aQ)) ?_;refine ar ?_;refine aI rfl (λZa Zb=>(zo DT rfl rfl rfl ab (rfl) aC)) ?_;refine ah ?_;refine b6 rfl (λF=>?_) (λF=>?_);refine aq ?_;refine ao rfl Ml rfl (λa b=>XQ a _ aa) ?_;refine aS ?_;refine bF [0,1,2,3,4,5] 0 [[]] ?_;refine bp ?_;intro y d;exact aO.bQ () aT (by rw[ay (a1 ((Aq ⟨f,i⟩ ⟨s.rows,0⟩).symm.trans F))]) (d.aw ae);refine ah ?_;refine bF [0,1,2,3,4,5] 0 [[]] ?_;refine bp ?_;intro y d;exact aO.bQ () aT (by rw[ag (bc ((Aq ⟨f,i⟩ ⟨s.rows,0⟩).symm.trans F))]) (d.aw ae)
theorem Yc [Inhabited bN] (w:World) (s:bU) {m:Nat} {N:Int} (n:cF s m N) (V:a8 w [b9 s]) (jK:List UInt8) (W:jK.length≤1000000) (k:Int):Calls prog 24 [ptr s.g,.string (bs jK),.int .i64 k].toArray w (aO (λi:dl × Int=> .tuple #[i.1.val,.int .i64 i.2]) [b9 s] (λi=>[b9 s,i.1.au]) (λ_=>True) w):=by
 have Zr:=n.rw
 have C:=n.fY
 have X: ∃v:eV,∃o:Bool,rH (kj s.st.abs (IntKind.u64.wrap k) ⟨s.rows,0⟩)= .tuple #[.agg v.enc.toArray,.bool o]∧(o=true→qt v):=by
  cases Y:kj s.st.abs (IntKind.u64.wrap k) ⟨s.rows,0⟩ with
  | none=>exact⟨rG,false,rfl,λh=>by cases h⟩
  | some v=>exact⟨v,true,rfl,λ_=>n.iz.2 v (KB Y)⟩
 obtain⟨v,o,Z,S⟩:=X;refine bC func24 ntmps24 V ?_;refine bI ?_;refine aj (λT=>?_) (λT=>?_);refine aJ ?_;intro H f;exact aO.bQ (⟨none,0,[]⟩,1) aT rfl ((f.eO 51 bW).aw ae);have Za:1≤jK.length:=by
  rcases gM jK.length with I | I
  have Zb:=iZ I
  subst Zb;exact absurd rfl T;exact I
 refine aD ?_;intro D Zs Zt;refine ar ?_;intro F Zu Zv;refine b_ ?_;refine ao rfl wJ rfl (λd e=>yX d s n (e.has cu)) ?_;refine ax ?_;refine hK (λb:Bool=>[(0,ptr s.g),(1,.string (bs jK)),(2,.int .i64 k),(8,ptr D),(9,ptr F),(30,.bool b)]) (λ_=>af w (aA [b9 s]) [aE F (bh.enc ⟨s.rows,0⟩) 51,aE D (bh.enc ⟨0,0⟩) 51,b9 s]) (λ_=>True) ?_ ?_;refine aS ?_;refine aX 27 rfl (λJ=>?_) (λJ=>?_);have Zc:=a1 J
 refine aS ?_;exact dw _ aT (gC rfl rfl rfl rfl rfl rfl) (λ_ h=>h.aw ae);have Zc:=bc J
 refine al ?_;exact dw _ aT (gC rfl rfl rfl rfl rfl rfl) (λ_ h=>h.aw ae);rintro b -;refine ar ?_;refine I_ (λ_:bh × bh=>[(0,ptr s.g),(1,.string (bs jK)),(8,ptr D),(9,ptr F)]) (λi=>af w (aA [b9 s]) [aE F i.2.enc 51,aE D i.1.enc 51,b9 s]) (λi=>em i.1∧em i.2) ?_ ?_;refine b6 rfl (λaK=>?_) (λaK=>?_);refine aS ?_;refine dm rfl rfl underlying3 underlying32 rfl ?_;refine ao rfl sm rfl (λd e=>Z▸tW d s n (e.has cu) _) ?_;refine aS ?_;intro Zd Zw Zx;refine eW (vs:=v.enc) gy rfl rfl (bn.whole cA bb) rfl (aH.cons rfl (aH.cons rfl (aH.cons rfl (aH.cons rfl (aH.cons rfl (aH.cons rfl (aH.cons rfl (gb rfl rfl rfl rfl rfl rfl rfl rfl rfl rfl)))))))) (by exact dY rfl) ?_;refine aJ ?_;refine aX 40 rfl (λK=>?_) (λK=>?_);refine b_ ?_;refine Cq (wq ?_);refine ar ?_;intro H f;exact aO.bQ (⟨none,0,[]⟩,5) aT rfl ((f.eO 51 bW).aw ae);refine aD ?_;refine aj (λZe=>?_) (λZe=>?_);refine aL ?_;refine Cq (wq ?_);refine ar ?_;intro H f;exact aO.bQ (⟨none,0,[]⟩,5) aT rfl ((f.eO 51 bW).aw ae);refine aq ?_;refine eq [0,1,2,3] 2 [[(4,false,[]),(5,false,[])]] (_) mixed ab (λ_ f=>f.drew) (λ_ h=>(show af _ _ [aE Zd v.enc 53] _ from h.aw ae)) ?_;refine aD ?_;refine bV (λ_=>True) (λ_ h=> .inr (h.aw ae)) (λ_ h=>aT) ?_;refine ah ?_;refine bV (λ_=>True) (λ_ h=> .inr ⟨.inr (h.aw ae),cz⟩) (λ_ h=>aT) ?_;refine aq ?_;exact iv (v.start,v.stop) ⟨(S (by simpa using K)).start,(S (by simpa using K)).stop⟩ bR (λ_ h=>h.aw ae);refine ar ?_;exact iv (⟨0,0⟩,⟨s.rows,0⟩) ⟨by dsimp only[em];omega,by dsimp only[em];omega⟩ bR (λ_ h=>h.aw ae);rintro⟨⟨fr,L⟩,⟨M,O⟩⟩ ⟨U,G⟩;have Zy:=Kz C.1 C.2.1 ⟨fr,L⟩ ⟨M,O⟩
 refine aS ?_;refine cE (λd e=>Db d s n e) (λz Zf=>?_);refine ar ?_;have P:b0 z.l=s.fY:=Zf
 have Zz:z.l.length=s.fY.length:=by rw[←P,cT]
 refine aD ?_;refine aY (l0:=[]) aB.nil rfl Mr rfl (λd e=>XJ d _ z.A z.l.length z.c s.fY (P▸sK (e.has (c:=z.au) bH) (e.has (c:=z.cj) cu)) ⟨fr,L⟩ ⟨M,O⟩ aa U.1 G.2.1 G.1 (λr Q x B=>by have:=(C.1 r Q).2 x B;omega) aa) (λy ZA=>?_);refine b_ ?_;refine ao rfl D_ rfl (λd e=>Kj d _ z.A z.l.length z.c s.fY (P▸sK (e.has (c:=z.au) cu) (e.has (c:=z.cj) hL)) ⟨fr,L⟩ ⟨M,O⟩ aa U.1 G.2.1 G.1 (λr Q x B=>by have:=(C.1 r Q).2 x B;omega) aa) ?_;refine ar ?_;refine aY (l0:=[]) aB.nil rfl Ms rfl (λd _=>Xv d _ jK aa ⟨Za,W⟩) (λx B=>?_);refine ax ?_;refine cL (H':=af w (aA [b9 s]) [dl.au ⟨none,0,[]⟩,x.au,y.au,b9 s]) ?_ (Sub.refl _) (λu Zg=>(Zg.eO 51 bW).aw ae);refine b1 (ι:=Nat × dl) (λt=>[(13,y.val),(14,t.2.val),(59,x.val),(60,.int .i64 (x.l.length:Int)),(61,.int .i64 (t.1 :Int))]) (λt=>af w (aA [b9 s]) [t.2.au,x.au,y.au,b9 s]) (λt=>t.1≤x.l.length∧t.2.l.length≤t.1) (λt=>x.l.length - t.1) ?_ ?_;exact λw' Zh=>⟨(0,⟨none,0,[]⟩),⟨bP _,bP _⟩,(ea rfl rfl rfl rfl rfl),Zh.aw ae⟩
 rintro⟨i,q⟩ ⟨hi,Zi⟩;have ZB:=B.1
 dsimp only at hi Zi ⊢
 refine al ?_;refine aj (λZj=>?_) (λZj=>?_);obtain⟨a,Zk⟩ : ∃a,x.l[i]? = some a:=⟨_,bG aa⟩;have ZC:=B.2 a (dc Zk)
 obtain⟨j,rfl⟩ : ∃j:Nat,a=(j:Int):=⟨a.toNat,aa⟩;obtain⟨⟨Zl,Zm⟩,ai⟩ : ∃p,y.l[j]? = some p:=⟨_,bG aa⟩;refine al ?_;refine jm (E:=bX) bH dO rfl rfl rfl bb aa (λZD Zn=>?_);refine a7 bM rfl rfl (λZo R=>R.HA (E:=bX) bH Zn bA _ rfl) ?_;refine aD ?_;refine jm (E:=bW) cu ds rfl rfl rfl bb aa (λZE Zp=>?_);refine cy dN rfl rfl rfl (λZo R j u Zq=>R.fO (E:=bW) cu Zp bA j u Zq) ?_;refine dG (E:=bW) ⟨_,_⟩ ds rfl rfl rfl rfl rfl (λZF ZG ZH=>?_);refine ew (E:=bW) ds rfl rfl rfl bi (λ_ _=>cA) b7 b7 (λZI ZJ=>?_);refine aL ?_;exact bg (i+1,⟨_,_,q.l++[⟨Zl,Zm⟩]⟩) ⟨aa,by dsimp only;rw[b8,iC];omega⟩ bm (ea rfl rfl rfl rfl rfl) (λ_ h=>h.aw ae);refine b_ ?_;intro H f;exact aN (q,0) aT f
structure Dd (rows cols lines b n pm:Int) (i:bU):Prop where
 ok:cF i 0 0
 T:i.T.abs=yH rows cols lines
 p:i.p=pg i.p.g n
 st:i.st.abs=⟨[],b,0,[]⟩
 es:i.es= #[]
 room:i.ap.r.room=lines
 marks:i.cx.most=pm
 top:i.st.most=b
abbrev y0 (g cb ap gs a c:Nat) (n b p:Int) (T:bK):bU:=⟨g,0,true,cb,pg ap n,T,⟨gs,none,0,[],b,0,[]⟩,⟨a,⟨none,0,[]⟩,p⟩,c,#[],0⟩
theorem Yd [Inhabited bN] (g cb ap gs c d:Nat) (n b p:Int) (T:bK) {rows cols lines:Int} (f:1≤b∧b≤10000) (ai:1≤p∧p≤10000) (i:1≤n∧n≤65536) (h:cp cb lines 0 T∧T.abs=yH rows cols lines):Dd rows cols lines b n p (y0 g cb ap gs c d n b p T) where
 ok:=⟨VP i,⟨h.1.am,h.1.bk,rfl,h.1.bL,h.1.cl,h.1.be,h.1.buf,h.1.aG,h.1.md⟩,⟨⟨f,by show ((0 :Nat):Int)≤b;omega,⟨fQ 0,fQ 0⟩,λe a=>(by cases a),List.Pairwise.nil,bP _⟩,λe a=>(by cases a)⟩,⟨by show ((0 :Nat):Int)≤p;omega,ai⟩,λx j=>by simp at j,⟨fQ 0,(by decide: (0 :Int)≤1000000)⟩⟩
 T:=h.2
 p:=rfl
 st:=rfl
 es:=rfl
 room:=h.1.room
 marks:=rfl
 top:=rfl
theorem KD [Inhabited bN] (w:World) (q:a8 w [eh]) (rows cols lines b p n:Int) (r:1≤rows∧rows≤100) (s:2≤cols∧cols≤100) (t:0≤lines∧lines≤100) (k:1≤b∧b≤10000) (ai:1≤p∧p≤10000) (m:1≤n∧n≤65536):
 Calls prog 17 [.agg #[.int .i64 rows,.int .i64 cols,.int .i64 lines,.int .i64 b,.int .i64 p,.int .i64 n]].toArray w (aO (λi:bU=> .tuple #[ptr i.g,.int .i64 0]) [eh] (λi=>[b9 i]) (Dd rows cols lines b n p) w):=by
 refine bC func17 ntmps17 q ?_;refine ah ?_;intro x y z;refine b_ ?_;refine aY (l0:=[]) aB.nil rfl Mh rfl (λa _=>VR a rows cols lines n r s t m) (λi hi=>?_);refine bp ?_;refine aY (l0:=[]) aB.nil rfl Mi rfl (λa _=>Wq a b k) (λgs _=>?_);refine bp ?_;refine aY (l0:=[]) aB.nil rfl Mj rfl (λa _=>VT a p ai) (λc _=>?_);refine bI ?_;refine aX 36 rfl (λd=>?_) (λd=>?_);have u:=a1 d
 refine eM ?_;intro e f;exact absurd d aZ;have u:=bc d
 refine al ?_;refine aX 40 rfl (λaK=>?_) (λaK=>?_);have v:=a1 aK
 refine cI ?_;intro e f;exact absurd aK aZ;have v:=bc aK
 refine aD ?_;refine aj (λo=>?_) (λo=>?_);refine aJ ?_;intro e f;exact absurd o aZ;refine aL ?_;refine XT rfl (λh A B=>?_);refine aq ?_;intro j C D;refine al ?_;intro e f;exact aO.bQ (y0 j i.1 i.2.1 gs c h n b p i.2.2) (Yd j i.1 i.2.1 gs c h n b p i.2.2 k ai m hi) rfl ((((((show af w (aA [eh]) ((y0 j i.1 i.2.1 gs c h n b p i.2.2).an::_) e from f).close (l:=cX ⟨gs,none,0,[],b,0,[]⟩) ae).close (l:=e8 ⟨c,⟨none,0,[]⟩,p⟩) ae).close (l:=fg (pg i.2.1 n) i.1 i.2.1 i.2.2) ae).close (l:=cS (y0 j i.1 i.2.1 gs c h n b p i.2.2)) ae).aw ae)
def m6 (s:du) (c:jJ):du:=if c.told=false then mX s ⟨c.gX,c.ka,c.jK⟩ else if c.kind=7 then s else fI s ⟨c.kind,c.code,c.has,c.text⟩ ⟨c.row,c.dp⟩
def n7 (s:du) (l:List jJ):du:=l.foldl m6 s
theorem Ye (s:du) {l:List jJ} {i:Nat} {c:jJ} (h:l[i]? = some c):n7 s (l.take (i+1))=m6 (n7 s (l.take i)) c:=by
 unfold n7;rw[gk,h,List.foldl_append];rfl
theorem fJ.mono {s:cK} {N M:Int} (h:fJ s N) (a:N≤M):fJ s M:=⟨{ h.wf with ids:=⟨h.wf.ids.1,Int.le_trans h.wf.ids.2 a⟩ },h.br⟩
structure Yf (s:bU) (m:Nat) (N:Int) (i:bU):Prop where
 g:i.g=s.g
 ok:cF i m (N+m)
 st:i.st.abs=n7 s.st.abs (hZ s.T.abs).aG
 T:i.T.abs= { hZ s.T.abs with aG:=[] }
 p:i.p=s.p
 es:i.es=s.es
 room:i.ap.r.room=s.ap.r.room
 marks:i.cx.most=s.cx.most
theorem cF.De {s:bU} {m:Nat} {N:Int} (h:cF s m N) {R:Int} (a:s.ap.r.room=R):cp s.cb R m s.T:=a▸h.T
theorem KE [Inhabited bN] (w:World) (s:bU) {m:Nat} {N:Int} (y:cF s m N) (R:a8 w [b9 s]) (S:m≤900000000000) (Ze:N≤900000000000000):Calls prog 33 [ptr s.g].toArray w (aO (λ_:bU=> .tuple #[]) [b9 s] (λi=>[b9 i]) (Yf s m N) w):=by
 obtain⟨g,top,dn,cb,p,T,st,cx,dq,es,ck⟩:=s;have K:=y.De rfl
 have L:=y.st
 have M:=y.cx
 dsimp only at K L M
 refine calls (n:=58) func33 rfl ntmps33 rfl ?_;refine cL (H':=af w (aA [b9 ⟨g,top,dn,cb,p,T,st,cx,dq,es,ck⟩]) (cS ⟨g,top,dn,cb,p,T,st,cx,dq,es,ck⟩)) ?_ (Sub.refl _) (λx F=>by have h:=(R.start x F).open (l:=cS ⟨g,top,dn,cb,p,T,st,cx,dq,es,ck⟩) bi;rwa [fR] at h);refine al ?_;refine ku (lc:=fg p cb p.g T) cB<| aY (l0:=bz cb p.g eh T) ae rfl Mz rfl (λb c=>VF b cb p.g eh T (c.bo ae) K S) (λ⟨bu,z⟩ U=>?_)
 refine aS ?_;refine cL (H':=af w (aA [b9 ⟨g,top,dn,cb,p,T,st,cx,dq,es,ck⟩]) (z.au::cS ⟨g,top,dn,cb,p,bu,st,cx,dq,es,ck⟩)) ?_ (Sub.refl _) (λx F=>(F.close (l:=fg p cb p.g bu) ae).aw ae);obtain⟨a,O,P,V,Q⟩:=U;dsimp only at a O P V Q
 refine ar ?_;refine b1 (ι:=Nat × cK × g_) (λt=>[(0,ptr g),(8,z.val),(9,.int .i64 (z.l.length:Int)),(10,.int .i64 (t.1 :Int))]) (λt=>af w (aA [b9 ⟨g,top,dn,cb,p,T,st,cx,dq,es,ck⟩]) (z.au::cS ⟨g,top,dn,cb,p,bu,t.2.1,t.2.2,dq,es,ck⟩)) (λt=>t.1≤z.l.length∧t.2.1.g=st.g∧t.2.2.g=cx.g∧fJ t.2.1 (N+t.1)∧(qq t.2.2∧t.2.2.most=cx.most)∧t.2.1.abs=n7 st.abs (z.l.take t.1)) (λt=>z.l.length - t.1) ?_ ?_;exact λw' W=>⟨(0,st,cx),⟨bP _,rfl,rfl,by simpa using L,⟨M,rfl⟩,rfl⟩,(cw rfl rfl rfl rfl),W⟩
 rintro⟨i,s1,dS⟩ ⟨hi,B,C,A,k,G⟩;dsimp only at hi B C A k G ⊢
 refine al ?_;refine aj (λX=>?_) (λX=>?_);obtain⟨v,H⟩ : ∃v,z.l[i]? = some v:=⟨_,bG aa⟩;have Y:=Q v (dc H)
 have D:=Ye st.abs H
 rw[←G] at D
 refine al ?_;refine jm (E:=lv) aQ qT rfl rfl rfl bb aa (λZf Z=>?_);refine cy (vs:=v.enc) DZ rfl rfl rfl (λZg Za j u Zb=>Za.fO (E:=lv) aQ Z H j u Zb) ?_;refine ar ?_;intro Zh Zi Zj;refine eW (vs:=v.enc) DZ rfl rfl (bn.whole cA bb) rfl (gb rfl rfl rfl rfl rfl rfl rfl rfl rfl rfl) (by exact dY rfl) ?_;refine bp ?_;refine b6 rfl (λo=>?_) (λo=>?_);have Zc:=o
 simp only[b3] at o
 refine ar ?_;refine bF [0,1,2,3,4,5] 1 [[(6,true,[])]] ?_;refine aL ?_;refine cE (λb c=>Calls.mono (WV b s1 c.jv A ⟨v.gX,v.ka,v.jK⟩) (λe w' h=>aO.star h)) (λq d=>?_);refine aS ?_;refine bF [0,1,2,3,4,5] 1 [[(6,true,[])]] ?_;refine aL ?_;refine cE (λb c=>Calls.mono (Wg b dS c.jv k.1 ⟨v.gX,v.ka,v.jK⟩) (λe w' h=>aO.star h)) (λr f=>?_);refine aR ?_;exact bg (i+1,q,r) ⟨aa,d.g.trans B,f.g.trans C,d.ok.mono bm,⟨f.ok,f.most.trans k.2⟩,by dsimp only;rw[D,d.abs,m6,ay o]⟩ bm bR (λ_ h=>by have I:=d.g;have J:=f.g;simp only[cS,bU.an,tU,I,J];exact h.aw ae);have Zc:=o
 simp only[b3] at o
 refine aR ?_;refine aj (λaK=>?_) (λaK=>?_);refine bF [0,1,2,3,4,5,6] 1 [[(7,true,[])]] ?_;refine aJ ?_;refine cE (λb c=>Calls.mono (VU b dS c.jv k.1 ⟨v.row,v.dp⟩) (λe w' h=>aO.star h)) (λr f=>?_);refine aR ?_;exact bg (i+1,s1,r) ⟨aa,B,f.g.trans C,A.mono bm,⟨f.ok,f.most.trans k.2⟩,by dsimp only;rw[D,m6,ag (by rw[o];decide),ay aK]⟩ bm bR (λ_ h=>by have J:=f.g;simp only[cS,bU.an,tU,J];exact h.aw ae);refine bF [0,1,2,3,4,5,6,7,8,9] 1 [[(10,true,[])]] ?_;refine bB ?_;refine aY (l0:=[aU (cX s1)]) (v:=λ_:cK=> .tuple #[]) (l':=λq=>[aU (cX q)]) (ok:=js s1 (N+i) ⟨v.kind,v.code,v.has,v.text⟩ ⟨v.row,v.dp⟩) ae rfl MA rfl (λb c=>Calls.mono (WI b s1 (c.bo ae).jv A aa ⟨v.kind,v.code,v.has,v.text⟩ Y ⟨v.row,v.dp⟩) (λe w' h=>aO.star h)) (λq d=>?_);refine aR ?_;exact bg (i+1,q,dS) ⟨aa,d.g.trans B,C,d.ok.mono bm,k,by dsimp only;rw[D,m6,ag (by rw[o];decide),ag aK,d.abs]⟩ bm bR (λ_ h=>by have I:=d.g;simp only[cS,bU.an,tU,I];exact h.aw ae);refine ax ?_;intro Zk Zd;refine aO.bQ ⟨g,top,dn,cb,p,bu,s1,dS,dq,es,ck⟩ ⟨rfl,⟨y.par,?_,A.mono aa,k.1,y.mp,y.top⟩,?_,P,rfl,rfl,a.room,k.2⟩ rfl ((Zd.close (l:=cS ⟨g,top,dn,cb,p,bu,s1,dS,dq,es,ck⟩) ae).aw ae);exact⟨a.am,a.bk,rfl,a.bL,a.cl,a.be,a.buf,a.aG,a.md⟩;show s1.abs=_;rw[G,ez aa,O]
end Go.Proofs.YtoghoobfpcadbaaGreatDoor.Mq
namespace Go.Proofs.YtoghoobfpcadbaaGreatDoor.Mq
open Go Go.RowKit Go.Proofs
structure jw (s:du):Prop where
 e9: ∀e∈s.blocks,e.id≤s.ids
 pos:0≤s.ids
 most:1≤s.most
theorem hA.KF {s:du} {N:Int} (h:hA s N):jw s:=⟨λe a=>(h.e9 e a).id.2,h.ids.1,h.most.1⟩
theorem rN {s:du} {e:dr} (h:s.blocks.getLast?=some e):eI s=e.id:=by unfold eI;rw[h]
theorem y1 {s:du} (h:s.blocks.getLast?=none):eI s=0:=by unfold eI;rw[h]
theorem jw.last {s:du} (h:jw s):eI s≤s.ids:=by
 cases a:s.blocks.getLast? with
 | none=>rw[y1 a];exact h.pos
 | some e=>rw[rN a];exact h.e9 e (pr a)
theorem Df {s:du} (h:jw s) (n:Nat) (p:bh):jw (fP s n p)∧eI s≤eI (fP s n p):=by
 have i:=h.last
 have d:=h.most
 have b: ∀e∈s.blocks++[(⟨0,false,false,s.dir,[],s.ids+1,List.replicate n p⟩ :dr)],e.id≤s.ids+1:=λe he=>by
  rcases db.1 he with he | he
  have:=h.e9 e he;omega
  rw[ey.1 he];exact fQ _
 have f: (fP s n p).blocks.getLast?=some ⟨0,false,false,s.dir,[],s.ids+1,List.replicate n p⟩:=by
  unfold fP;dsimp only;split
  rename_i c;cases g:s.blocks with
  | nil=>rw[g] at c;simp only[oe,iC] at c;omega
  | cons a l=>simp
  simp
 refine⟨⟨λe he=>?_,by show 0≤s.ids+1;have:=h.pos;omega,d⟩,by rw[rN f];show eI s≤s.ids+1;omega⟩;show e.id≤s.ids+1
 unfold fP at he
 dsimp only at he
 split at he
 exact b e (List.mem_of_mem_tail he);exact b e he
theorem wk {s:du} (h:jw s) {f:dr→dr} (d: ∀e,(f e).id=e.id):jw (gr s f)∧eI s≤eI (gr s f):=by
 cases b:s.blocks.getLast? with
 | none=>
  have c:gr s f=s:=by unfold gr setLast;rw[b]
  rw[c];exact⟨h,fQ _⟩
 | some e=>
  have c: (gr s f).blocks=s.blocks.dropLast++[f e]:=by unfold gr setLast;rw[b]
  have g: (gr s f).blocks.getLast?=some (f e):=by rw[c];simp
  refine⟨⟨λx a=>?_,h.pos,h.most⟩,by rw[rN b,rN g,d e];exact fQ _⟩;rw[c] at a
  show x.id≤s.ids
  rcases db.1 a with a | a
  exact h.e9 x ((List.dropLast_sublist _).subset a);rw[ey.1 a,d];exact h.e9 e (pr b)
theorem Yg {s:du} (h:jw s) (x:kh) (p:bh):jw (fI s x p)∧eI s≤eI (fI s x p):=by
 have a:jw s∧eI s≤eI s:=⟨h,fQ _⟩
 unfold fI;split
 exact a;split
 exact Df h _ _;split
 split
 exact wk h (λ_=>rfl);exact Df h _ _;split
 split
 exact wk h (λ_=>rfl);exact Df h _ _;split
 split
 exact wk h (λ_=>rfl);exact a;split
 split
 exact wk h (λ_=>rfl);exact a;split
 split
 exact wk (s:={ s with dir:=x.text }) ⟨h.e9,h.pos,h.most⟩ (λ_=>rfl);exact⟨⟨h.e9,h.pos,h.most⟩,fQ _⟩;exact a
theorem KG (x:ec): ∀l:List dr,(ha x l).getLast?=l.getLast?∧ ∀e∈ha x l,e∈l
 | []=>by unfold ha;exact⟨rfl,λ_ h=>h⟩
 | [a]=>by unfold ha;exact⟨rfl,λ_ h=>h⟩
 | a::b::l=>by
  have c:=KG x (b::l)
  unfold ha;split
  exact⟨by rw[c.1];simp,λe d=>rW _ (c.2 e d)⟩;exact⟨rfl,λ_ h=>h⟩
theorem Yh {s:du} (h:jw s) (x:ec):jw (mX s x)∧eI s≤eI (mX s x):=by
 unfold mX;split
 exact⟨h,fQ _⟩;have b: ∀(l:List dr) (g:dr→dr),(∀e,(g e).id=e.id)→l.getLast?=s.blocks.getLast?→(∀e∈l,e∈s.blocks)→jw { s with blocks:=l.map g }∧eI s≤eI { s with blocks:=l.map g }:=by
  intro l g c d i;refine⟨⟨λe j=>?_,h.pos,h.most⟩,?_⟩;obtain⟨y,k,rfl⟩:=dX.1 j;rw[c];exact h.e9 y (i y k)
  cases a:s.blocks.getLast? with
  | none=>rw[y1 a,y1 (by show (l.map g).getLast?=none;rw[qE,d,a];rfl)];exact fQ _
  | some e=>rw[rN a,rN (show (l.map g).getLast?=some (g e) by rw[qE,d,a];rfl),c];exact fQ _
 split
 have f:=KG x s.blocks
 have:=b (ha x s.blocks) (λe=>rD x (qr x e)) (λ_=>rfl) f.1 f.2
 simpa [lJ,Function.comp_def] using this
 exact b s.blocks (rD x) (λ_=>rfl) rfl (λ_ h=>h)
theorem Yi {s:du} (h:jw s) (c:jJ):jw (m6 s c)∧eI s≤eI (m6 s c):=by
 unfold m6;split
 exact Yh h _;split
 exact⟨h,fQ _⟩;exact Yg h _ _
theorem Dg: ∀(l:List jJ) {s:du},jw s→jw (n7 s l)∧eI s≤eI (n7 s l)
 | [],s,h=>⟨h,fQ _⟩
 | c::l,s,h=>by
  have a:=Yi h c
  have b:=Dg l a.1
  exact⟨b.1,Int.le_trans a.2 b.2⟩
theorem Yj (s:du) (x:kh) (p:bh): (fI s x p).most=s.most:=by
 unfold fI;repeat' split
 all_goals rfl
theorem Yk (s:du) (c:jJ): (m6 s c).most=s.most:=by
 unfold m6 mX;split
 split <;> rfl
 split
 rfl
 exact Yj _ _ _
theorem Dh: ∀(s:du) (l:List jJ),(n7 s l).most=s.most
 | _,[]=>rfl
 | s,c::l=>(Dh (m6 s c) l).trans (Yk s c)
theorem KH (q:bh): ∀(l:List dr) (e:dr),l.getLast?=some e→ ∃b,(iw q l).getLast?=some b∧b.id=e.id
 | [],e,h=>by cases h
 | [a],e,h=>by
  obtain rfl:a=e:=by simpa using h
  exact⟨kT a q,rfl,rfl⟩
 | a::f::l,e,h=>by
  obtain⟨b,c,hi⟩:=KH q (f::l) e (by simpa using h);refine⟨b,?_,hi⟩;show (kT a (kS f)::iw q (f::l)).getLast?=some b
  rw[List.getLast?_cons,c];rfl
theorem Yl (s:du) (q:bh): ∃b,(ki s q).getLast?=some b∧b.id=eI s:=by
 unfold ki eI;cases f:s.blocks with
 | nil=>exact⟨gp q,rfl,rfl⟩
 | cons a l=>
  have c: (a::l).getLast?=some ((a::l).getLast av):=uf av
  rw[c];obtain⟨b,d,e⟩:=KH (hz q (gI ((a::l).getLastD a))) (a::l) _ c;refine⟨b,?_,e⟩;show (gp (kS a)::iw (hz q (gI ((a::l).getLastD a))) (a::l)).getLast?=some b
  rw[List.getLast?_cons,d];rfl
end Go.Proofs.YtoghoobfpcadbaaGreatDoor.Mq
