/- part 18 of the proof -/
import Derived.Test.YtoghoobfpcadbaaGreatDoorQ17
namespace Go.Proofs.YtoghoobfpcadbaaGreatDoor.Mq
open Go Go.RowKit Go.Proofs Tryz
def lZ (s:bd) (k:Int):bd:=
 if k=0 then gn s (λp=>eraseP p s.y (fx s) s.cols (an s) (aM s)) else
 if k=1 then gn s (λp=>eraseP p s.y 0 (fx s+1) (an s) (aM s)) else
 if k=2 then vh s s.y (s.y+1) else s
theorem vi (s:bd) (k:Int):cR 0 s (lZ s k):=by
 unfold lZ;split
 exact hV s (oP _ _ _ _ _ _);split
 exact hV s (oP _ _ _ _ _ _);split
 exact ta s _ _;exact cR.refl s
def qd (s:bd) (k:Int):bd:=
 if k=0 then vh (lZ s 0) ((lZ s 0).y+1) (lZ s 0).rows else
 if k=1 then vh (lZ s 1) 0 (lZ s 1).y else
 if k=2 then vh s 0 s.rows else
 if k=3 then gn s sV else s
theorem RV (s:bd) (k:Int):cR 1 s (qd s k):=by
 unfold qd;split
 exact ((vi s 0).trans (ta _ _ _)).mono aa;split
 exact ((vi s 1).trans (ta _ _ _)).mono aa;split
 exact (ta _ _ _).mono aa;split
 exact (hV s (Gw _)).mono aa;exact (cR.refl s).mono aa
theorem hU.trans {s z u:bl} {q r:bd} (h:hU s q z) (k:hU z r u):hU s r u:=⟨k.g.trans h.g,k.ap.trans h.ap,k.st.trans h.st,k.wf,k.abs⟩
theorem A9 (w:World) (s:bl) (m:a8 w (aP s)) (c:dT s) (e:d4 s.abs) (k:Int):
 Calls prog 248 [ptr s.g,.int .i64 k].toArray w (ej s (.tuple #[]) (lZ s.abs k) w):=by
 obtain⟨u,l,v,z,A⟩:=e.nums;refine bC func248 ntmps248 m ?_;refine kw ?_;refine aj (λo=>?_) (λo=>?_);refine bF [0,1,2,3,4,5,6,7,8,10,12] 4 [[(9,false,[]),(11,false,[]),(13,false,[]),(14,true,[])]] ?_;refine bI ?_;refine ao rfl jb rfl (λb a=>jl b s (a.has aQ) (a.has bH) l) ?_;refine ah ?_;refine ao rfl jB rfl (λb a=>j4 b s s.ap rfl (a.has aQ) (a.has bH)) ?_;refine ah ?_;refine ao rfl k8 rfl (λb a=>lp b s (a.has aQ)) ?_;refine bV (λ_=>True) (λ_ h=> .inr ⟨.inr ⟨.inr h,cz⟩,cz⟩) (λ_ h=>aT) ?_;refine aq ?_;refine aY (l0:=bD s.ap) ae rfl uE rfl (λb a=>u9 b s.ap (a.bo ae) c.r e.bE s.y (min s.x (s.ap.cols - 1)) s.ap.cols s.bf.at_.an s.bf.at_.aM aa) (λf i=>?_);refine ax ?_;intro j d;exact kE s f ⟨rfl,rfl,rfl⟩ ⟨c.r,c.st,c.n⟩ i (oP s.ap.abs _ _ _ _ _).cols (by rw[lZ,ay aa];rfl) rfl d ae;refine al ?_;refine aj (λaK=>?_) (λaK=>?_);refine bF [0,1,2,3,4,5,6,7,8,11] 3 [[(9,false,[10]),(12,false,[]),(13,true,[])]] ?_;refine bB ?_;refine ao rfl jb rfl (λb a=>jl b s (a.has aQ) (a.has bH) l) ?_;refine aS ?_;refine ao rfl k8 rfl (λb a=>lp b s (a.has aQ)) ?_;refine ah ?_;refine aY (l0:=bD s.ap) ae rfl uE rfl (λb a=>u9 b s.ap (a.bo ae) c.r e.bE s.y 0 (min s.x (s.ap.cols - 1)+1) s.bf.at_.an s.bf.at_.aM aa) (λf i=>?_);refine ax ?_;intro j d;exact kE s f ⟨rfl,rfl,rfl⟩ ⟨c.r,c.st,c.n⟩ i (oP s.ap.abs _ _ _ _ _).cols (by rw[lZ,ag aa,ay aa];rfl) rfl d ae;refine al ?_;refine aj (λp=>?_) (λp=>?_);refine bF [0,1,2,3,4,5,6,7,8,9] 1 [[(10,true,[])]] ?_;refine bB ?_;refine aY (l0:=aP s) ae rfl wZ rfl (λb a=>xX b s (a.bo ae) c e s.y (s.y+1) aa aa) (λq t=>?_);refine ax ?_;intro j d;exact aN q (by rw[lZ,ag aa,ag aa,ay aa];exact t) d;refine ah ?_;intro j d;exact e6 s ⟨rfl,rfl,rfl⟩ c (by rw[lZ,ag aa,ag aa,ag aa]) rfl d ae
theorem RW (w:World) (s:bl) (p:a8 w (aP s)) (f:dT s) (h:d4 s.abs) (G:s.ap.be.l.length≤1152920000000) (k:Int):
 Calls prog 247 [ptr s.g,.int .i64 k].toArray w (ej s (.tuple #[]) (qd s.abs k) w):=by
 obtain⟨H,I,J,K,L⟩:=h.nums;have q:=lY s
 refine bC func247 ntmps247 p ?_;refine kw ?_;refine aj (λt=>?_) (λt=>?_);refine ah ?_;refine cE (λb a=>A9 b s a f h 0) (λc d=>?_);refine aq ?_;obtain⟨i,c8⟩:=d.fits (vi s.abs 0) h;obtain⟨u,v,x,z,A⟩:=i.nums;have B:=lY c
 rw[←d.g];refine bF [0,1,2,3,4,5,6] 2 [[(7,false,[]),(8,true,[])]] ?_;refine aJ ?_;refine ao rfl nj rfl (λb a=>nI b c c.ap rfl (a.has aQ) (a.has bH)) ?_;refine ah ?_;refine aY (l0:=aP c) ae rfl wZ rfl (λb a=>xX b c (a.bo ae) d.wf i (c.y+1) (c.ap.s.l.length:Int) aa aa) (λj m=>?_);refine ax ?_;intro o e
 (refine aO.bQ j ?_ rfl (e.aw ae);rw[qd,ay aa,←d.abs,bd.rows,B];exact d.trans m)
 refine al ?_;refine aj (λaK=>?_) (λaK=>?_);refine ah ?_;refine cE (λb a=>A9 b s a f h 1) (λc d=>?_);refine aq ?_;obtain⟨i,c8⟩:=d.fits (vi s.abs 1) h;obtain⟨u,v,x,z,A⟩:=i.nums;rw[←d.g];refine al ?_;refine aY (l0:=aP c) ae rfl wZ rfl (λb a=>xX b c (a.bo ae) d.wf i 0 c.y aa aa) (λj m=>?_);refine ah ?_;intro o e
 (refine aO.bQ j ?_ rfl (e.aw ae);rw[qd,ag aa,ay aa,←d.abs];exact d.trans m)
 refine al ?_;refine aj (λC=>?_) (λC=>?_);refine ah ?_;refine ao rfl nj rfl (λb a=>nI b s s.ap rfl (a.has aQ) (a.has bH)) ?_;refine aY (l0:=aP s) ae rfl wZ rfl (λb a=>xX b s (a.bo ae) f h 0 (s.ap.s.l.length:Int) aa aa) (λj m=>?_);refine ah ?_;intro o e
 (refine aO.bQ j ?_ rfl (e.aw ae);rw[qd,ag aa,ag aa,ay aa,bd.rows,q];exact m)
 refine al ?_;refine aj (λD=>?_) (λD=>?_);refine ax ?_;refine aY (l0:=bD s.ap) ae rfl Oi rfl (λb a=>QT b s.ap (a.bo ae) f.r h.bE aa) (λE F=>?_);refine ah ?_;intro o e;exact kE s E ⟨rfl,rfl,rfl⟩ ⟨f.r,f.st,f.n⟩ F (Gw s.ap.abs).cols (by rw[qd,ag aa,ag aa,ag aa,ay aa];rfl) rfl e ae;refine ah ?_;intro o e;exact e6 s ⟨rfl,rfl,rfl⟩ f (by rw[qd,ag aa,ag aa,ag aa,ag aa]) rfl e ae
def tb (s:bd) (n:Int):bd:=
 if n=0 then s else
 if 0<n then { s with x:=(cO.nF (cO.jk s.xL) s.xL.length (fx s) n:Int) }
 else { s with x:=(cO.nF (cO.iO s.xL) s.xL.length (fx s) (max 0 (0 - max n (-1000))):Int) }
def tc (s:bd) (r:Int):Nat→bd
 | 0=>s
 | n+1=>rg (tc s r n) r
theorem A_ (s:bd) (r:Int): ∀n,cR (2*n) s (tc s r n)
 | 0=>cR.refl s
 | n+1=>((A_ s r n).trans (G5 _ r)).mono aa
theorem RX (w:World) (s:bl) (h:a8 w (aP s)) (j: ∀w',Ext (aA (aP s)) w w'→cO.mK w') (a:dT s) (k:d4 s.abs) (n:Int):
 Calls prog 162 [ptr s.g,.int .i64 n].toArray w (ej s (.tuple #[]) (tb s.abs n) w):=by
 obtain⟨m,e,o,p,q⟩:=k.nums;have t:=a.n
 refine bC func162 ntmps162 h ?_;refine b_ ?_;refine aj (λl=>?_) (λl=>?_);refine ah ?_;intro f d;exact e6 s ⟨rfl,rfl,rfl⟩ a (by rw[tb,ay aa]) rfl d ae;refine aD ?_;refine aj (λaK=>?_) (λaK=>?_);refine bF [0,1,2,3,4,5,7] 3 [[(6,false,[]),(8,false,[9,10]),(11,true,[])]] ?_;refine aJ ?_;refine ao rfl jb rfl (λc b=>jl c s (b.has aQ) (b.has bH) e) ?_;refine ah ?_;refine ao rfl NC rfl (λc b=>cO.Rf c (j c b.ext) s.st.g s.st.bs s.st.i a.st (cO.gD.of (b.has eX) a.st.len) aa (min s.x (s.ap.cols - 1)) n) ?_;refine bp ?_;intro f d;exact e6 { s with x:=(cO.nF (cO.jk s.st.bs) s.st.bs.length (min s.x (s.ap.cols - 1)) n:Int) } ⟨rfl,rfl,rfl⟩ ⟨a.r,a.st,a.n⟩ (by rw[tb,ag aa,ay aa];rfl) rfl d ae;refine bF [0,1,2,3,4,5,7,8,9,10] 3 [[(6,false,[]),(11,false,[12,13]),(14,true,[])]] ?_;refine aL ?_;refine aI rfl (λu v=>(ov rfl rfl (wrap64 aa aa) aC)) ?_;refine ah ?_;refine ao rfl jb rfl (λc b=>jl c s (b.has aQ) (b.has bH) e) ?_;refine ah ?_;refine ao rfl ND rfl (λc b=>cO.uT c s.st.g s.st.bs s.st.i a.st (cO.gD.of (b.has eX) a.st.len) aa (min s.x (s.ap.cols - 1)) _) ?_;refine bp ?_;intro f d;exact e6 { s with x:=(cO.nF (cO.iO s.st.bs) s.st.bs.length (min s.x (s.ap.cols - 1)) (max 0 (0 - max n (-1000))):Int) } ⟨rfl,rfl,rfl⟩ ⟨a.r,a.st,a.n⟩ (by rw[tb,ag aa,ag aa];rfl) rfl d ae
theorem RY (s:bd): (rg s s.last).last=s.last:=by
 rw[xP];split
 unfold iR;split <;> rfl
 rfl
theorem Hh (s:bd): ∀n,(tc s s.last n).last=s.last
 | 0=>rfl
 | n+1=>by
  have h:=Hh s n
  have a:=RY (tc s s.last n)
  rw[h] at a
  exact a
def vj (s:bd) (n:Int):bd:=if s.last=0 then s else tc s s.last (fw n 1 (s.rows*s.cols)).toNat
theorem RZ (s:bd) (n:Int) (h:d4 s):cR 2000000 s (vj s n):=by
 have b:=h.bE.rows;have a:=h.bE.cols
 have c:s.rows*s.cols≤1000*1000:=Int.mul_le_mul (by simp only[bd.rows];omega) a.2 (by simp only[bd.cols];omega) aa
 unfold vj;split
 exact (cR.refl s).mono aa;exact (A_ s s.last _).mono (by unfold fw;omega)
theorem R0 (w:World) (s:bl) (o:a8 w (aP s)) (j:dT s) (k:d4 s.abs) (C:s.ap.be.l.length≤1152910000000) (n:Int):
 Calls prog 263 [ptr s.g,.int .i64 n].toArray w (ej s (.tuple #[]) (vj s.abs n) w):=by
 obtain⟨D,p,E,F,G⟩:=k.nums;have r:=lY s
 have H: (s.ap.s.l.length:Int)*s.ap.cols≤1000*1000:=Int.mul_le_mul aa p.2 aa aa
 have I:1*1≤(s.ap.s.l.length:Int)*s.ap.cols:=Int.mul_le_mul aa aa aa aa
 have J:=lq (n:=n) (lo:=1) (hi:=(s.ap.s.l.length:Int)*s.ap.cols) aa
 obtain⟨N,m⟩ : ∃N:Nat,fw n 1 ((s.ap.s.l.length:Int)*s.ap.cols)=(N:Int):=⟨(fw n 1 ((s.ap.s.l.length:Int)*s.ap.cols)).toNat,aa⟩;refine bC func263 ntmps263 o ?_;refine eM ?_;refine aj (λe=>?_) (λe=>?_);refine ah ?_;intro t f;exact e6 s ⟨rfl,rfl,rfl⟩ j (by rw[vj,ay (by exact e)]) rfl f ae;refine al ?_;refine ao rfl nj rfl (λc b=>nI c s s.ap rfl (b.has aQ) (b.has bH)) ?_;refine ar ?_;refine ao rfl jB rfl (λc b=>j4 c s s.ap rfl (b.has aQ) (b.has bH)) ?_;refine k1 rfl rfl rfl (wrap64 aa aa) ?_;refine ao rfl nl rfl (λc b=>nH c _ _ _) ?_;refine aS ?_;rw[m];refine b1 (ι:=Nat × bl) (λi=>[(0,ptr s.g),(19,.int .i64 (N:Int)),(20,.int .i64 (i.1 :Int))]) (λi=>af w (aA (aP s)) (aP i.2)) (λi=>i.1≤N∧hU s (tc s.abs s.abs.last i.1) i.2) (λi=>N - i.1) ?_ ?_;exact λw' u=>⟨(0,s),⟨bP _,hU.refl j⟩,(ef rfl rfl rfl),u⟩
 rintro⟨i,q⟩ ⟨hi,a⟩;dsimp only at hi a ⊢
 obtain⟨v,K⟩:=a.fits (A_ s.abs s.abs.last i) k;have x:q.last=s.last:=by have d:=Hh s.abs i;rw[←a.abs] at d;exact d
 rw[←a.g];refine al ?_;refine aj (λy=>?_) (λy=>?_);refine aR ?_;refine aY (l0:=aP q) ae rfl EH rfl (λc b=>G6 c q (b.bo ae) a.wf v aa q.last) (λz A=>?_);refine aD ?_;exact bg (i+1,z) ⟨by show i+1≤N;omega,by have d:=a.trans A;rw[a.abs,x] at d;exact d⟩ (by show N - (i+1)<N - i;omega) bR (λ_ h=>h.aw ae);refine ax ?_;intro t f;have B:i=N:=by omega
 subst B;exact aO.bQ q ⟨a.g,a.ap,a.st,a.wf,by rw[vj,ag (by exact e),bd.rows,r];rw[show fw n 1 ((s.ap.s.l.length:Int)*s.abs.cols)=(i:Int) from m,hc];exact a.abs⟩ rfl f
def vk:fV:=⟨66,66,66,66,0,0⟩
def ri:List Int:=[9670,9618,9225,9228,9229,9226,176,177,9252,9227,9496,9488,9484,9492,9532,9146,9147,9472,9148,9149,9500,9508,9524,9516,9474,8804,8805,960,8800,163,183]
def oW (kind r:Int):Int:=
 if kind=65∧r=35 then 163 else if kind=48∧r=95 then 32 else if kind=48∧96≤r∧r≤126 then (ri[(r - 96).toNat]?).getD 0 else r
def l3 (s:fV):Int:=if s.j1=2∨s.j1=3 then s.j1 else if 0≤s.use∧s.use≤3 then s.use else 0
def Ba (s:fV) (k:Int):Int:=if k=0 then s.fv else if k=1 then s.s1 else if k=2 then s.s2 else s.ln
def rj (s:fV) (r:Int):Int × fV:=(oW (Ba s (l3 s)) r,{ s with j1:=0 })
theorem R1 (s:fV):0≤l3 s∧l3 s≤3:=by
 unfold l3;split
 omega
 split <;> omega
theorem R2 (w:World) (c:fV):Calls prog 316 [.agg c.enc.toArray].toArray w (Pure (.int .i64 (l3 c)) w):=by
 refine aW func316 ntmps316 ?_;refine ah ?_;intro i j k;refine bp ?_;refine aX 7 rfl (λd=>?_) (λd=>?_);have f:=a1 d
 refine eM ?_;intro b a;exact⟨by unfold l3;rw[ay aa],a.ext⟩;have f:=bc d
 refine aR ?_;refine aj (λaK=>?_) (λaK=>?_);refine bp ?_;intro b a;exact⟨by unfold l3;rw[ay aa],a.ext⟩;refine al ?_;refine aX 18 rfl (λe=>?_) (λe=>?_);have g:=a1 e
 refine aR ?_;refine aj (λh=>?_) (λh=>?_);refine bp ?_;intro b a;exact⟨by unfold l3;rw[ag aa,ay aa],a.ext⟩;refine aR ?_;intro b a;exact⟨by unfold l3;rw[ag aa,ag aa],a.ext⟩;have g:=bc e
 refine e4 ?_;intro b a;exact⟨by unfold l3;rw[ag aa,ag aa],a.ext⟩
theorem xY (w:World):Calls prog 382 [].toArray w (Pure (.agg ([.int .i32 9670,.int .i32 9618,.int .i32 9225,.int .i32 9228,.int .i32 9229,.int .i32 9226,.int .i32 176,.int .i32 177,.int .i32 9252,.int .i32 9227,.int .i32 9496,.int .i32 9488,.int .i32 9484,.int .i32 9492,.int .i32 9532,.int .i32 9146,.int .i32 9147,.int .i32 9472,.int .i32 9148,.int .i32 9149,.int .i32 9500,.int .i32 9508,.int .i32 9524,.int .i32 9516,.int .i32 9474,.int .i32 8804,.int .i32 8805,.int .i32 960,.int .i32 8800,.int .i32 163,.int .i32 183]:List Value).toArray) w):=by
 refine aW func382 ntmps382 ?_;refine ah ?_;intro b c d;refine aS ?_;refine zh (out:=[.int .i32 9670,.int .i32 9618,.int .i32 9225,.int .i32 9228,.int .i32 9229,.int .i32 9226,.int .i32 176,.int .i32 177,.int .i32 9252,.int .i32 9227,.int .i32 9496,.int .i32 9488,.int .i32 9484,.int .i32 9492,.int .i32 9532,.int .i32 9146,.int .i32 9147,.int .i32 9472,.int .i32 9148,.int .i32 9149,.int .i32 9500,.int .i32 9508,.int .i32 9524,.int .i32 9516,.int .i32 9474,.int .i32 8804,.int .i32 8805,.int .i32 960,.int .i32 8800,.int .i32 163,.int .i32 183]) L7 rfl rfl (by simp[hF,putAt,cZ,Value.cells,fa]) ?_;refine eW L6 rfl rfl cA bb (aH.cons rfl (aH.cons rfl (aH.cons rfl (aH.cons rfl (aH.cons rfl (aH.cons rfl (aH.cons rfl (aH.cons rfl (aH.cons rfl (aH.cons rfl (aH.cons rfl (aH.cons rfl (aH.cons rfl (aH.cons rfl (aH.cons rfl (aH.cons rfl (aH.cons rfl (aH.cons rfl (aH.cons rfl (aH.cons rfl (aH.cons rfl (gb rfl rfl rfl rfl rfl rfl rfl rfl rfl rfl)))))))))))))))))))))) (dY rfl) ?_;refine aS ?_;intro e a;exact⟨rfl,a.ext⟩
theorem xZ (q:Nat) (h:q≤30): ([.int .i32 9670,.int .i32 9618,.int .i32 9225,.int .i32 9228,.int .i32 9229,.int .i32 9226,.int .i32 176,.int .i32 177,.int .i32 9252,.int .i32 9227,.int .i32 9496,.int .i32 9488,.int .i32 9484,.int .i32 9492,.int .i32 9532,.int .i32 9146,.int .i32 9147,.int .i32 9472,.int .i32 9148,.int .i32 9149,.int .i32 9500,.int .i32 9508,.int .i32 9524,.int .i32 9516,.int .i32 9474,.int .i32 8804,.int .i32 8805,.int .i32 960,.int .i32 8800,.int .i32 163,.int .i32 183]:List Value)[q]? = some (.int .i32 ((ri[q]?).getD 0)):=by
 have e: ([.int .i32 9670,.int .i32 9618,.int .i32 9225,.int .i32 9228,.int .i32 9229,.int .i32 9226,.int .i32 176,.int .i32 177,.int .i32 9252,.int .i32 9227,.int .i32 9496,.int .i32 9488,.int .i32 9484,.int .i32 9492,.int .i32 9532,.int .i32 9146,.int .i32 9147,.int .i32 9472,.int .i32 9148,.int .i32 9149,.int .i32 9500,.int .i32 9508,.int .i32 9524,.int .i32 9516,.int .i32 9474,.int .i32 8804,.int .i32 8805,.int .i32 960,.int .i32 8800,.int .i32 163,.int .i32 183]:List Value)=ri.map (Value.int .i32):=rfl
 have b:ri.length=31:=rfl
 obtain⟨v,a⟩ : ∃v,ri[q]? = some v:=⟨ri[q]'aa,bG _⟩;rw[e,eJ,a];rfl
theorem R3 (k r:Int) (h:k=65∧r=35):oW k r=163:=ay h
theorem R4 (k r:Int) (h:k=48∧r=95):oW k r=32:=by unfold oW;rw[ag aa,ay h]
theorem R5 (k:Int) (q:Nat) (h:k=48) (a:q≤30):oW k (96+(q:Int))=(ri[q]?).getD 0:=by unfold oW;rw[ag aa,ag aa,ay aa,show (96+(q:Int) - 96).toNat=q by omega]
theorem x0 (k r:Int) (a: ¬(k=65∧r=35)) (b: ¬(k=48∧r=95)) (c: ¬(k=48∧96≤r∧r≤126)):oW k r=r:=by unfold oW;rw[ag a,ag b,ag c]
theorem R6 (w:World) (k r:Int):Calls prog 315 [.int .i64 k,.int .i32 r].toArray w (Pure (.int .i32 (oW k r)) w):=by
 refine aW func315 ntmps315 ?_;refine bB ?_;refine aX 8 rfl (λf=>?_) (λf=>?_);have u:=a1 f
 refine aL ?_;refine aj (λaK=>?_) (λaK=>?_);refine aJ ?_;intro b a;exact⟨by rw[R3 _ _ aa],a.ext⟩;refine ax ?_;refine aX 15 rfl (λg=>?_) (λg=>?_);have v:=a1 g
 refine aL ?_;refine aj (λx=>?_) (λx=>?_);refine aJ ?_;intro b a
 (exfalso;omega)
 refine ax ?_;refine aX 22 rfl (λh=>?_) (λh=>?_);have y:=a1 h
 refine al ?_;refine aX 26 rfl (λi=>?_) (λi=>?_);have z:=a1 i
 refine aL ?_;refine aj (λA=>?_) (λA=>?_);refine ar ?_;obtain⟨q,d⟩ : ∃q:Nat,r=96+(q:Int):=⟨(r - 96).toNat,aa⟩;have c:q≤30:=by omega
 subst d;refine ar ?_;refine ao rfl w1 rfl (λe j=>xY e) ?_;refine ar ?_;refine gN rfl rfl rfl (uJ aa aa) ?_;refine lP (q:=q) underlying405 jz rfl rfl rfl aa aa (xZ q c) ?_;refine aD ?_;intro b a
 (exfalso;omega)
 refine bp ?_;intro b a
 (exfalso;omega)
 have z:=bc i
 refine e4 ?_;intro b a
 (exfalso;omega)
 have y:=bc h
 refine kw ?_;intro b a
 (exfalso;omega)
 have v:=bc g
 refine bB ?_;refine aX 22 rfl (λl=>?_) (λl=>?_);have B:=a1 l
 refine al ?_;refine aX 26 rfl (λm=>?_) (λm=>?_);have C:=a1 m
 refine aL ?_;refine aj (λD=>?_) (λD=>?_);refine ar ?_;obtain⟨q,d⟩ : ∃q:Nat,r=96+(q:Int):=⟨(r - 96).toNat,aa⟩;have c:q≤30:=by omega
 subst d;refine ar ?_;refine ao rfl w1 rfl (λe j=>xY e) ?_;refine ar ?_;refine gN rfl rfl rfl (uJ aa aa) ?_;refine lP (q:=q) underlying405 jz rfl rfl rfl aa aa (xZ q c) ?_;refine aD ?_;intro b a
 (exfalso;omega)
 refine bp ?_;intro b a
 (exfalso;omega)
 have C:=bc m
 refine e4 ?_;intro b a
 (exfalso;omega)
 have B:=bc l
 refine kw ?_;intro b a;exact⟨by rw[x0 _ _ aa aa aa],a.ext⟩;have u:=bc f
 refine bB ?_;refine aX 15 rfl (λn=>?_) (λn=>?_);have E:=a1 n
 refine aL ?_;refine aj (λF=>?_) (λF=>?_);refine aJ ?_;intro b a;exact⟨by rw[R4 _ _ aa],a.ext⟩;refine ax ?_;refine aX 22 rfl (λo=>?_) (λo=>?_);have G:=a1 o
 refine al ?_;refine aX 26 rfl (λp=>?_) (λp=>?_);have H:=a1 p
 refine aL ?_;refine aj (λI=>?_) (λI=>?_);refine ar ?_;obtain⟨q,d⟩ : ∃q:Nat,r=96+(q:Int):=⟨(r - 96).toNat,aa⟩;have c:q≤30:=by omega
 subst d;refine ar ?_;refine ao rfl w1 rfl (λe j=>xY e) ?_;refine ar ?_;refine gN rfl rfl rfl (uJ aa aa) ?_;refine lP (q:=q) underlying405 jz rfl rfl rfl aa aa (xZ q c) ?_;refine aD ?_;intro b a;exact⟨by rw[R5 _ _ aa c],a.ext⟩;refine bp ?_;intro b a;exact⟨by rw[x0 _ _ aa aa aa],a.ext⟩;have H:=bc p
 refine e4 ?_;intro b a;exact⟨by rw[x0 _ _ aa aa aa],a.ext⟩;have G:=bc o
 refine kw ?_;intro b a
 (exfalso;omega)
 have E:=bc n
 refine bB ?_;refine aX 22 rfl (λs=>?_) (λs=>?_);have J:=a1 s
 refine al ?_;refine aX 26 rfl (λt=>?_) (λt=>?_);have K:=a1 t
 refine aL ?_;refine aj (λL=>?_) (λL=>?_);refine ar ?_;obtain⟨q,d⟩ : ∃q:Nat,r=96+(q:Int):=⟨(r - 96).toNat,aa⟩;have c:q≤30:=by omega
 subst d;refine ar ?_;refine ao rfl w1 rfl (λe j=>xY e) ?_;refine ar ?_;refine gN rfl rfl rfl (uJ aa aa) ?_;refine lP (q:=q) underlying405 jz rfl rfl rfl aa aa (xZ q c) ?_;refine aD ?_;intro b a
 (exfalso;omega)
 refine bp ?_;intro b a
 (exfalso;omega)
 have K:=bc t
 refine e4 ?_;intro b a
 (exfalso;omega)
 have J:=bc s
 refine kw ?_;intro b a;exact⟨by rw[x0 _ _ aa aa aa],a.ext⟩
theorem R7 (c:fV) (q:Nat) (h:q≤3): (c.enc)[0+0+q*1]? = some (.int .i64 (Ba c q)):=by
 rcases q with _ | _ | _ | _ | q
 rfl
 rfl
 rfl
 rfl
 omega
theorem R8 (w:World) (c:fV) (r:Int):Calls prog 223 [.agg c.enc.toArray,.int .i32 r].toArray w (Pure (.tuple #[.int .i32 (rj c r).1,.agg (rj c r).2.enc.toArray]) w):=by
 have g:=R1 c
 obtain⟨q,b⟩ : ∃q:Nat,l3 c=(q:Int):=⟨(l3 c).toNat,aa⟩;refine aW func223 ntmps223 ?_;refine ah ?_;intro h i j;refine aq ?_;intro k l m;refine ax ?_;refine ao rfl N6 rfl (λa d=>R2 a c) ?_;refine ar ?_;refine dt (q:=q) underlying89 jA rfl rfl rfl b aa ?_;refine a7 (v:= .int .i64 (Ba c q)) bM rfl rfl (λn e=>af.ep (xs:=c.enc) e bH (R7 c q aa)) ?_;refine ar ?_;refine ao rfl N5 rfl (λa d=>R6 a _ r) ?_;refine aR ?_;refine bF [0,1,2] 1 [[(3,true,[])]] ?_;refine bp ?_;refine ij results223 (cC.tmp rfl) (cC.eR lN rfl aQ rfl rfl) (λo f=>?_);exact⟨by rw[rj,b];rfl,f.ext⟩
def vl (s:bd) (r:Int):bd:=rg { s with bf:={ s.bf with aG:=(rj s.bf.aG r).2 } } (rj s.bf.aG r).1
theorem R9 (s:bd) (r:Int):cR 2 s (vl s r):=((s9 s _).trans (G5 _ _)).mono aa
abbrev Bb (s:bl) (c:fV):bl:={ s with bf:={ s.bf with aG:=c } }
theorem R_ (s:bl) (c:fV):cZ (eT s) (0+5) [.int .i64 c.fv,.int .i64 c.s1,.int .i64 c.s2,.int .i64 c.ln,.int .i64 c.use,.int .i64 c.j1]=eT (Bb s c):=by
 simp only[cZ,eT,dA,Nat.reduceAdd,qF,mw]
theorem Sa (w:World) (s:bl) (k:a8 w (aP s)) (d:dT s) (b:d4 s.abs) (p:s.ap.be.l.length≤1152910000000) (r:Int):
 Calls prog 160 [ptr s.g,.int .i32 r].toArray w (ej s (.tuple #[]) (vl s.abs r) w):=by
 obtain⟨c,f⟩ : ∃c,c=(rj s.bf.aG r).2:=⟨_,rfl⟩;obtain⟨fb,h⟩ : ∃c,c=(rj s.bf.aG r).1:=⟨_,rfl⟩;refine bC func160 ntmps160 k ?_;refine eM ?_;refine ao rfl NB rfl (λe i=>by have j:=R8 e s.bf.aG r;rw[←f,←h] at j;exact j) ?_;refine aR ?_;rw[R_];refine ah ?_;refine aY (l0:=aP (Bb s c)) ae rfl EH rfl (λe i=>G6 e (Bb s c) (i.bo ae) ⟨d.r,d.st,d.n⟩ ⟨b.bE,b.y,b.x,b.top⟩ (by show s.ap.be.l.length≤_;omega) fb) (λm a=>?_);refine aq ?_;intro q o;exact aN m ⟨a.g,a.ap,a.st,a.wf,by rw[vl,show s.abs.bf.aG=s.bf.aG from rfl,←f,←h];exact a.abs⟩ o
def lr:gE:=⟨⟨0,0,0,0,0⟩,vk,false,true,false⟩
def x1 (s:fV) (c:Int):fV:=if c=14 then { s with use:=1 } else if c=15 then { s with use:=0 } else s
def td (s:fV) (c:Int):fV:=if c=110 then { s with use:=2 } else if c=111 then { s with use:=3 } else if c=78 then { s with j1:=2 } else if c=79 then { s with j1:=3 } else s
theorem Sb (w:World):Calls prog 151 [].toArray w (Pure (.agg vk.enc.toArray) w):=by
 refine aW func151 ntmps151 ?_;refine ah ?_;intro b c d;refine bp ?_;intro e a;exact⟨rfl,a.ext⟩
theorem Bc (w:World):Calls prog 100 [].toArray w (Pure (.agg lr.enc.toArray) w):=by
 refine aW func100 ntmps100 ?_;refine ah ?_;intro c d e;refine aS ?_;refine ao rfl Nb rfl (λa f=>Sb a) ?_;refine ar ?_;refine ko (out:=lr.enc) LS rfl rfl (by simp[hF,putAt,cZ,Value.cells,lr,vk]) ?_;refine eW qU rfl rfl cA bb (aH.cons rfl (aH.cons rfl (aH.cons rfl (aH.cons rfl (gb rfl rfl rfl rfl rfl rfl rfl rfl rfl rfl))))) (dY rfl) ?_;refine aS ?_;intro g b;exact⟨rfl,b.ext⟩
theorem Hi (w:World) (c:fV) (b:Int):Calls prog 167 [.agg c.enc.toArray,.int .u8 b].toArray w (Pure (.agg (x1 c b).enc.toArray) w):=by
 refine aW func167 ntmps167 ?_;refine ah ?_;intro f g h;refine ar ?_;intro i j k;refine cI ?_;refine aj (λe=>?_) (λe=>?_);refine b_ ?_;intro d a;exact⟨by unfold x1;(rw[ay aa];rfl),a.ext⟩;refine al ?_;refine aj (λaK=>?_) (λaK=>?_);refine b_ ?_;intro d a;exact⟨by unfold x1;(rw[ag aa,ay aa];rfl),a.ext⟩;refine bp ?_;intro d a;exact⟨by unfold x1;(rw[ag aa,ag aa];rfl),a.ext⟩
theorem x2 (w:World) (c:fV) (b:Int):Calls prog 237 [.agg c.enc.toArray,.int .u8 b].toArray w (Pure (.agg (td c b).enc.toArray) w):=by
 refine aW func237 ntmps237 ?_;refine ah ?_;intro h i j;refine ar ?_;intro k l m;refine cI ?_;refine aj (λe=>?_) (λe=>?_);refine b_ ?_;intro d a;exact⟨by unfold td;(rw[ay aa];rfl),a.ext⟩;refine al ?_;refine aj (λaK=>?_) (λaK=>?_);refine b_ ?_;intro d a;exact⟨by unfold td;(rw[ag aa,ay aa];rfl),a.ext⟩;refine al ?_;refine aj (λf=>?_) (λf=>?_);refine b_ ?_;intro d a;exact⟨by unfold td;(rw[ag aa,ag aa,ay aa];rfl),a.ext⟩;refine al ?_;refine aj (λg=>?_) (λg=>?_);refine b_ ?_;intro d a;exact⟨by unfold td;(rw[ag aa,ag aa,ag aa,ay aa];rfl),a.ext⟩;refine bp ?_;intro d a;exact⟨by unfold td;(rw[ag aa,ag aa,ag aa,ag aa];rfl),a.ext⟩
def rk:gE:=⟨⟨0,0,0,0,0⟩,⟨0,0,0,0,0,0⟩,false,false,false⟩
def Hj (s:bd):bd:=vc { s with bf:=lr,fW:=rk,kC:=0,kD:=0,has:=false,last:=0 }
theorem Sc (s:bd):cR 0 s (Hj s):=by
 have a:cR 0 s { s with bf:=lr,fW:=rk,kC:=0,kD:=0,has:=false,last:=0 }:=⟨λw=>⟨w.bE,w.y,w.x,w.top⟩,rfl,rfl,rfl,ch _⟩
 exact a.trans (Ha _)
theorem Hk (s:bl) (p:gE):cZ (eT s) (0+0) p.enc=eT { s with bf:=p }:=RS s p
theorem Sd (s:bl) (p:gE) (y x:Int):cZ (eT s) (0+20) (p.enc++[.int .i64 y,.int .i64 x])=eT { s with fW:=p,kC:=y,kD:=x }:=Hg s p y x
abbrev Se (s:bl):bl:={ s with bf:=lr,fW:=rk,kC:=0,kD:=0,has:=false,last:=0 }
theorem Sf (w:World) (s:bl) (e:a8 w (aP s)) (b:dT s) (f:c7 s.ap.abs):
 Calls prog 252 [ptr s.g].toArray w (ej s (.tuple #[]) (Hj s.abs) w):=by
 refine bC func252 ntmps252 e ?_;refine bI ?_;refine ao rfl zH rfl (λc d=>Bc c) ?_;refine ko (out:=rk.enc++[.int .i64 0,.int .i64 0]) zu rfl rfl rfl ?_;refine aq ?_;refine eW qU rfl rfl cA bb (aH.cons rfl (aH.cons rfl (aH.cons rfl (aH.cons rfl (gb rfl rfl rfl rfl rfl rfl rfl rfl rfl rfl))))) (dY rfl) ?_;refine aq ?_;rw[Hk];refine eW uy rfl rfl cA bb (aH.cons rfl (aH.cons rfl (aH.cons rfl (aH.cons rfl (aH.cons rfl (aH.cons rfl (gb rfl rfl rfl rfl rfl rfl rfl rfl rfl rfl))))))) (dY rfl) ?_;refine aq ?_;rw[Sd];refine aL ?_;refine cE (λc d=>vd c (Se s) d ⟨b.r,b.st,b.n⟩ f) (λh a=>?_);refine aq ?_;intro j i;exact aN h ⟨a.g,a.ap,a.st,a.wf,by rw[a.abs];rfl⟩ i
def tf (s:bd):gE × Int × Int:=if s.has=true then (s.fW,s.kC,s.kD) else (lr,0,0)
def Sg (s:bd) (p:gE):bd:={ s with bf:={ s.bf with at_:=p.at_,aG:=p.aG,home:=p.home } }
def Bd (s:bd):bd:=xT (Sg s (tf s).1) (tf s).2.1 (tf s).2.2
theorem Sh (s:bd):cR 0 s (Bd s):=(s9 s _).trans (xU _ _ _)
abbrev oX (k:gE × Int × Int):List Value:=k.1.enc++[.int .i64 k.2.1,.int .i64 k.2.2]
theorem Hl (a b c d e f g h i j l m n o p q:Value) (k:gE × Int × Int):cZ [a,b,c,d,e,f,g,h,i,j,l,m,n,o,p,q] 0 (oX k)=oX k:=by
 simp only[cZ,oX,gE.enc,mq,oe,dA,Nat.reduceAdd,qF,mw]
theorem Si (j k:gE × Int × Int):cZ (oX j) 0 (oX k)=oX k:=Hl _ _ _ _ _ _ _ _ _ _ _ _ _ _ _ _ k
abbrev Sj (s:bl) (p:gE):bl:={ s with bf:={ s.bf with at_:=p.at_,aG:=p.aG,home:=p.home } }
theorem Sk (w:World) (s:bl) (m:a8 w (aP s)) (b:dT s) (o:d4 s.abs):
 Calls prog 328 [ptr s.g].toArray w (ej s (.tuple #[]) (Bd s.abs) w):=by
 refine bC func328 ntmps328 m ?_;refine aD ?_;refine b6 rfl (λf=>?_) (λf=>?_);exact Bool.noConfusion f;refine aS ?_;refine ao rfl zH rfl (λc i=>Bc c) ?_;refine ko (out:=oX (lr,0,0)) zu rfl rfl (by simp[hF,putAt,cZ,Value.cells,lr,vk]) ?_;refine ar ?_;intro l x y;refine eW uy rfl rfl cA bb (aH.cons rfl (aH.cons rfl (aH.cons rfl (aH.cons rfl (aH.cons rfl (aH.cons rfl (gb rfl rfl rfl rfl rfl rfl rfl rfl rfl rfl))))))) (dY rfl) ?_;refine bp ?_;rw[Hl];refine hK (λ_:gE × Int × Int=>[(0,ptr s.g),(2,ptr l)]) (λk=>af w (aA (aP s)) [s.an,aE l (oX k) 98,s.ap.an,aU (cd s.ap.r),s.ap.s.au,s.ap.s.cj,s.ap.be.au,s.st.aG]) (λk=>k=tf s.abs) ?_ ?_;refine b6 rfl (λd=>?_) (λd=>?_);refine aS ?_;refine cy (vs:=oX (s.fW,s.kC,s.kD)) uy rfl rfl rfl (λz p j u q=>af.k5 (sz:=16) (xs:=eT s) p bH rfl j u q) ?_;refine eW uy rfl rfl cA bb (aH.cons rfl (aH.cons rfl (aH.cons rfl (aH.cons rfl (aH.cons rfl (aH.cons rfl (gb rfl rfl rfl rfl rfl rfl rfl rfl rfl rfl))))))) (dY rfl) ?_;refine ar ?_;rw[Si];exact dw (s.fW,s.kC,s.kD) (by rw[tf,ay (by exact d)];rfl) bR (λ_ h=>h.aw ae);refine ar ?_;exact dw (lr,0,0) (by rw[tf,ag (by rw[show s.abs.has=s.has from rfl,d];decide)]) bR (λ_ h=>h.aw ae);rintro k t;refine aq ?_;refine eq [0,1,2,3,4,5,6,7,8,9,10,11,12,13,14,15] 3 [[(16,false,[17,18,19]),(20,false,[21,22,23,24]),(25,false,[])]] (_) mixed ab (λ_ e=>e.drew) (λ_ h=>h.rem bv.head) ?_;refine eM ?_;refine bV (λ_=>True) (λ_ h=> .inr (h.rem bv.head)) (λ_ h=>aT) ?_;refine al ?_;refine bV (λ_=>True) (λ_ h=> .inr ⟨.inr (h.rem bv.head),cz⟩) (λ_ h=>aT) ?_;refine aD ?_;refine bV (λ_=>True) (λ_ h=> .inr ⟨.inr ⟨.inr (h.rem bv.head),cz⟩,cz⟩) (λ_ h=>aT) ?_;refine aJ ?_;refine cE (λc i=>xV c (Sj s k.1) i ⟨b.r,b.st,b.n⟩ o.bE k.2.1 k.2.2) (λv a=>?_);refine aq ?_;intro A e;exact aN v ⟨a.g,a.ap,a.st,a.wf,by rw[Bd,←t];exact a.abs⟩ e
theorem x3 (w:World) (s:bl) (a:s.an.pred w):Calls prog 232 [ptr s.g].toArray w (Pure (ptr s.st.g) w):=by
 refine aW func232 ntmps232 ?_;refine hr ?_;refine a7 zt rfl rfl (λd b=>b.bZ a (by (simp;done)) rfl) ?_;refine ax ?_;intro e c;exact⟨rfl,c.ext⟩
end Go.Proofs.YtoghoobfpcadbaaGreatDoor.Mq
