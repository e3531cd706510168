/- part 18 of the proof -/
import Derived.Test.YtkeokgcdnfjaaaaGreatDoorQ17
namespace Go.Proofs.YtkeokgcdnfjaaaaGreatDoor.Mq
open Go Go.RowKit Go.Proofs Tryz
def lR (s:bd) (k:Int):bd:=
 if k=0 then gh s (λp=>eraseP p s.y (fu s) s.cols (an s) (aM s)) else
 if k=1 then gh s (λp=>eraseP p s.y 0 (fu s+1) (an s) (aM s)) else
 if k=2 then u4 s s.y (s.y+1) else s
theorem u5 (s:bd) (k:Int):cP 0 s (lR s k):=by
 unfold lR;split
 exact hN s (oK _ _ _ _ _ _);split
 exact hN s (oK _ _ _ _ _ _);split
 exact s3 s _ _;exact cP.refl s
def p8 (s:bd) (k:Int):bd:=
 if k=0 then u4 (lR s 0) ((lR s 0).y+1) (lR s 0).rows else
 if k=1 then u4 (lR s 1) 0 (lR s 1).y else
 if k=2 then u4 s 0 s.rows else
 if k=3 then gh s sN else s
theorem RE (s:bd) (k:Int):cP 1 s (p8 s k):=by
 unfold p8;split
 exact ((u5 s 0).trans (s3 _ _ _)).mono aa;split
 exact ((u5 s 1).trans (s3 _ _ _)).mono aa;split
 exact (s3 _ _ _).mono aa;split
 exact (hN s (Gp _)).mono aa;exact (cP.refl s).mono aa
theorem hM.trans {s z u:bk} {q r:bd} (h:hM s q z) (k:hM z r u):hM s r u:=⟨k.g.trans h.g,k.ap.trans h.ap,k.st.trans h.st,k.wf,k.abs⟩
theorem A1 (w:World) (s:bk) (m:bb w (aO s)) (c:dO s) (e:dV s.abs) (k:Int):
 Calls prog 234 [ptr s.g,.int .i64 k].toArray w (eg s (.tuple #[]) (lR s.abs k) w):=by
 obtain⟨u,l,v,z,A⟩:=e.nums;refine bI func234 ntmps234 m ?_;refine kq ?_;refine aj (λo=>?_) (λo=>?_);refine bG [0,1,2,3,4,5,6,7,8,10,12] 4 [[(9,false,[]),(11,false,[]),(13,false,[]),(14,true,[])]] ?_;refine bH ?_;refine ao rfl i7 rfl (λb a=>ji b s (a.has aQ) (a.has bF) l) ?_;refine ah ?_;refine ao rfl jv rfl (λb a=>jX b s s.ap rfl (a.has aQ) (a.has bF)) ?_;refine ah ?_;refine ao rfl k0 rfl (λb a=>lh b s (a.has aQ)) ?_;refine bY (λ_=>True) (λ_ h=> .inr ⟨.inr ⟨.inr h,dj⟩,dj⟩) (λ_ h=>aU) ?_;refine ar ?_;refine aZ (l0:=bB s.ap) ae rfl ut rfl (λb a=>uV b s.ap (a.bp ae) c.r e.bC s.y (min s.x (s.ap.cols - 1)) s.ap.cols s.bf.at_.an s.bf.at_.aM aa) (λf i=>?_);refine ay ?_;intro j d;exact ky s f ⟨rfl,rfl,rfl⟩ ⟨c.r,c.st,c.n⟩ i (oK s.ap.abs _ _ _ _ _).cols (by rw[lR,ax aa];rfl) rfl d ae;refine al ?_;refine aj (λaH=>?_) (λaH=>?_);refine bG [0,1,2,3,4,5,6,7,8,11] 3 [[(9,false,[10]),(12,false,[]),(13,true,[])]] ?_;refine bw ?_;refine ao rfl i7 rfl (λb a=>ji b s (a.has aQ) (a.has bF) l) ?_;refine aS ?_;refine ao rfl k0 rfl (λb a=>lh b s (a.has aQ)) ?_;refine ah ?_;refine aZ (l0:=bB s.ap) ae rfl ut rfl (λb a=>uV b s.ap (a.bp ae) c.r e.bC s.y 0 (min s.x (s.ap.cols - 1)+1) s.bf.at_.an s.bf.at_.aM aa) (λf i=>?_);refine ay ?_;intro j d;exact ky s f ⟨rfl,rfl,rfl⟩ ⟨c.r,c.st,c.n⟩ i (oK s.ap.abs _ _ _ _ _).cols (by rw[lR,ag aa,ax aa];rfl) rfl d ae;refine al ?_;refine aj (λp=>?_) (λp=>?_);refine bG [0,1,2,3,4,5,6,7,8,9] 1 [[(10,true,[])]] ?_;refine bw ?_;refine aZ (l0:=aO s) ae rfl wP rfl (λb a=>xM b s (a.bp ae) c e s.y (s.y+1) aa aa) (λq t=>?_);refine ay ?_;intro j d;exact aN q (by rw[lR,ag aa,ag aa,ax aa];exact t) d;refine ah ?_;intro j d;exact e6 s ⟨rfl,rfl,rfl⟩ c (by rw[lR,ag aa,ag aa,ag aa]) rfl d ae
theorem RF (w:World) (s:bk) (p:bb w (aO s)) (f:dO s) (h:dV s.abs) (G:s.ap.be.l.length≤1152920000000) (k:Int):
 Calls prog 233 [ptr s.g,.int .i64 k].toArray w (eg s (.tuple #[]) (p8 s.abs k) w):=by
 obtain⟨H,I,J,K,L⟩:=h.nums;have q:=lQ s
 refine bI func233 ntmps233 p ?_;refine kq ?_;refine aj (λt=>?_) (λt=>?_);refine ah ?_;refine cI (λb a=>A1 b s a f h 0) (λc d=>?_);refine ar ?_;obtain⟨i,c6⟩:=d.fits (u5 s.abs 0) h;obtain⟨u,v,x,z,A⟩:=i.nums;have B:=lQ c
 rw[←d.g];refine bG [0,1,2,3,4,5,6] 2 [[(7,false,[]),(8,true,[])]] ?_;refine aJ ?_;refine ao rfl nd rfl (λb a=>nB b c c.ap rfl (a.has aQ) (a.has bF)) ?_;refine ah ?_;refine aZ (l0:=aO c) ae rfl wP rfl (λb a=>xM b c (a.bp ae) d.wf i (c.y+1) (c.ap.s.l.length:Int) aa aa) (λj m=>?_);refine ay ?_;intro o e
 (refine aP.bP j ?_ rfl (e.aw ae);rw[p8,ax aa,←d.abs,bd.rows,B];exact d.trans m)
 refine al ?_;refine aj (λaH=>?_) (λaH=>?_);refine ah ?_;refine cI (λb a=>A1 b s a f h 1) (λc d=>?_);refine ar ?_;obtain⟨i,c6⟩:=d.fits (u5 s.abs 1) h;obtain⟨u,v,x,z,A⟩:=i.nums;rw[←d.g];refine al ?_;refine aZ (l0:=aO c) ae rfl wP rfl (λb a=>xM b c (a.bp ae) d.wf i 0 c.y aa aa) (λj m=>?_);refine ah ?_;intro o e
 (refine aP.bP j ?_ rfl (e.aw ae);rw[p8,ag aa,ax aa,←d.abs];exact d.trans m)
 refine al ?_;refine aj (λC=>?_) (λC=>?_);refine ah ?_;refine ao rfl nd rfl (λb a=>nB b s s.ap rfl (a.has aQ) (a.has bF)) ?_;refine aZ (l0:=aO s) ae rfl wP rfl (λb a=>xM b s (a.bp ae) f h 0 (s.ap.s.l.length:Int) aa aa) (λj m=>?_);refine ah ?_;intro o e
 (refine aP.bP j ?_ rfl (e.aw ae);rw[p8,ag aa,ag aa,ax aa,bd.rows,q];exact m)
 refine al ?_;refine aj (λD=>?_) (λD=>?_);refine ay ?_;refine aZ (l0:=bB s.ap) ae rfl N2 rfl (λb a=>QC b s.ap (a.bp ae) f.r h.bC aa) (λE F=>?_);refine ah ?_;intro o e;exact ky s E ⟨rfl,rfl,rfl⟩ ⟨f.r,f.st,f.n⟩ F (Gp s.ap.abs).cols (by rw[p8,ag aa,ag aa,ag aa,ax aa];rfl) rfl e ae;refine ah ?_;intro o e;exact e6 s ⟨rfl,rfl,rfl⟩ f (by rw[p8,ag aa,ag aa,ag aa,ag aa]) rfl e ae
def s4 (s:bd) (n:Int):bd:=
 if n=0 then s else
 if 0<n then { s with x:=(cK.ny (cK.jh s.xA) s.xA.length (fu s) n:Int) }
 else { s with x:=(cK.ny (cK.iF s.xA) s.xA.length (fu s) (max 0 (0 - max n (-1000))):Int) }
def s5 (s:bd) (r:Int):Nat→bd
 | 0=>s
 | n+1=>q9 (s5 s r n) r
theorem A2 (s:bd) (r:Int): ∀n,cP (2*n) s (s5 s r n)
 | 0=>cP.refl s
 | n+1=>((A2 s r n).trans (GY _ r)).mono aa
theorem RG (w:World) (s:bk) (h:bb w (aO s)) (j: ∀w',Ext (aB (aO s)) w w'→cK.mG w') (a:dO s) (k:dV s.abs) (n:Int):
 Calls prog 157 [ptr s.g,.int .i64 n].toArray w (eg s (.tuple #[]) (s4 s.abs n) w):=by
 obtain⟨m,e,o,p,q⟩:=k.nums;have t:=a.n
 refine bI func157 ntmps157 h ?_;refine b5 ?_;refine aj (λl=>?_) (λl=>?_);refine ah ?_;intro f d;exact e6 s ⟨rfl,rfl,rfl⟩ a (by rw[s4,ax aa]) rfl d ae;refine aC ?_;refine aj (λaH=>?_) (λaH=>?_);refine bG [0,1,2,3,4,5,7] 3 [[(6,false,[]),(8,false,[9,10]),(11,true,[])]] ?_;refine aJ ?_;refine ao rfl i7 rfl (λc b=>ji c s (b.has aQ) (b.has bF) e) ?_;refine ah ?_;refine ao rfl Nl rfl (λc b=>cK.QY c (j c b.ext) s.st.g s.st.bs s.st.i a.st (cK.gu.of (b.has eY) a.st.len) aa (min s.x (s.ap.cols - 1)) n) ?_;refine bo ?_;intro f d;exact e6 { s with x:=(cK.ny (cK.jh s.st.bs) s.st.bs.length (min s.x (s.ap.cols - 1)) n:Int) } ⟨rfl,rfl,rfl⟩ ⟨a.r,a.st,a.n⟩ (by rw[s4,ag aa,ax aa];rfl) rfl d ae;refine bG [0,1,2,3,4,5,7,8,9,10] 3 [[(6,false,[]),(11,false,[12,13]),(14,true,[])]] ?_;refine aK ?_;refine aL rfl (λu v=>(oj rfl rfl (wrap64 aa aa) aG)) ?_;refine ah ?_;refine ao rfl i7 rfl (λc b=>ji c s (b.has aQ) (b.has bF) e) ?_;refine ah ?_;refine ao rfl Nm rfl (λc b=>cK.uG c s.st.g s.st.bs s.st.i a.st (cK.gu.of (b.has eY) a.st.len) aa (min s.x (s.ap.cols - 1)) _) ?_;refine bo ?_;intro f d;exact e6 { s with x:=(cK.ny (cK.iF s.st.bs) s.st.bs.length (min s.x (s.ap.cols - 1)) (max 0 (0 - max n (-1000))):Int) } ⟨rfl,rfl,rfl⟩ ⟨a.r,a.st,a.n⟩ (by rw[s4,ag aa,ag aa];rfl) rfl d ae
theorem RH (s:bd): (q9 s s.last).last=s.last:=by
 rw[xE];split
 unfold iI;split <;> rfl
 rfl
theorem Ha (s:bd): ∀n,(s5 s s.last n).last=s.last
 | 0=>rfl
 | n+1=>by
  have h:=Ha s n
  have a:=RH (s5 s s.last n)
  rw[h] at a
  exact a
def u6 (s:bd) (n:Int):bd:=if s.last=0 then s else s5 s s.last (ft n 1 (s.rows*s.cols)).toNat
theorem RI (s:bd) (n:Int) (h:dV s):cP 2000000 s (u6 s n):=by
 have b:=h.bC.rows;have a:=h.bC.cols
 have c:s.rows*s.cols≤1000*1000:=Int.mul_le_mul (by simp only[bd.rows];omega) a.2 (by simp only[bd.cols];omega) aa
 unfold u6;split
 exact (cP.refl s).mono aa;exact (A2 s s.last _).mono (by unfold ft;omega)
theorem RJ (w:World) (s:bk) (o:bb w (aO s)) (j:dO s) (k:dV s.abs) (C:s.ap.be.l.length≤1152910000000) (n:Int):
 Calls prog 249 [ptr s.g,.int .i64 n].toArray w (eg s (.tuple #[]) (u6 s.abs n) w):=by
 obtain⟨D,p,E,F,G⟩:=k.nums;have r:=lQ s
 have H: (s.ap.s.l.length:Int)*s.ap.cols≤1000*1000:=Int.mul_le_mul aa p.2 aa aa
 have I:1*1≤(s.ap.s.l.length:Int)*s.ap.cols:=Int.mul_le_mul aa aa aa aa
 have J:=li (n:=n) (lo:=1) (hi:=(s.ap.s.l.length:Int)*s.ap.cols) aa
 obtain⟨N,m⟩ : ∃N:Nat,ft n 1 ((s.ap.s.l.length:Int)*s.ap.cols)=(N:Int):=⟨(ft n 1 ((s.ap.s.l.length:Int)*s.ap.cols)).toNat,aa⟩;refine bI func249 ntmps249 o ?_;refine eG ?_;refine aj (λe=>?_) (λe=>?_);refine ah ?_;intro t f;exact e6 s ⟨rfl,rfl,rfl⟩ j (by rw[u6,ax (by exact e)]) rfl f ae;refine al ?_;refine ao rfl nd rfl (λc b=>nB c s s.ap rfl (b.has aQ) (b.has bF)) ?_;refine aq ?_;refine ao rfl jv rfl (λc b=>jX c s s.ap rfl (b.has aQ) (b.has bF)) ?_;refine kV rfl rfl rfl (wrap64 aa aa) ?_;refine ao rfl nf rfl (λc b=>nA c _ _ _) ?_;refine aS ?_;rw[m];refine b3 (ι:=Nat × bk) (λi=>[(0,ptr s.g),(19,.int .i64 (N:Int)),(20,.int .i64 (i.1 :Int))]) (λi=>af w (aB (aO s)) (aO i.2)) (λi=>i.1≤N∧hM s (s5 s.abs s.abs.last i.1) i.2) (λi=>N - i.1) ?_ ?_;exact λw' u=>⟨(0,s),⟨bN _,hM.refl j⟩,(dZ rfl rfl rfl),u⟩
 rintro⟨i,q⟩ ⟨hi,a⟩;dsimp only at hi a ⊢
 obtain⟨v,K⟩:=a.fits (A2 s.abs s.abs.last i) k;have x:q.last=s.last:=by have d:=Ha s.abs i;rw[←a.abs] at d;exact d
 rw[←a.g];refine al ?_;refine aj (λy=>?_) (λy=>?_);refine aR ?_;refine aZ (l0:=aO q) ae rfl Ey rfl (λc b=>GZ c q (b.bp ae) a.wf v aa q.last) (λz A=>?_);refine aC ?_;exact bg (i+1,z) ⟨by show i+1≤N;omega,by have d:=a.trans A;rw[a.abs,x] at d;exact d⟩ (by show N - (i+1)<N - i;omega) bO (λ_ h=>h.aw ae);refine ay ?_;intro t f;have B:i=N:=by omega
 subst B;exact aP.bP q ⟨a.g,a.ap,a.st,a.wf,by rw[u6,ag (by exact e),bd.rows,r];rw[show ft n 1 ((s.ap.s.l.length:Int)*s.abs.cols)=(i:Int) from m,gZ];exact a.abs⟩ rfl f
def u7:fO:=⟨66,66,66,66,0,0⟩
def ra:List Int:=[9670,9618,9225,9228,9229,9226,176,177,9252,9227,9496,9488,9484,9492,9532,9146,9147,9472,9148,9149,9500,9508,9524,9516,9474,8804,8805,960,8800,163,183]
def oR (kind r:Int):Int:=
 if kind=65∧r=35 then 163 else if kind=48∧r=95 then 32 else if kind=48∧96≤r∧r≤126 then (ra[(r - 96).toNat]?).getD 0 else r
def lS (s:fO):Int:=if s.jU=2∨s.jU=3 then s.jU else if 0≤s.use∧s.use≤3 then s.use else 0
def A3 (s:fO) (k:Int):Int:=if k=0 then s.fs else if k=1 then s.s1 else if k=2 then s.s2 else s.lg
def rb (s:fO) (r:Int):Int × fO:=(oR (A3 s (lS s)) r,{ s with jU:=0 })
theorem RK (s:fO):0≤lS s∧lS s≤3:=by
 unfold lS;split
 omega
 split <;> omega
theorem RL (w:World) (c:fO):Calls prog 299 [.agg c.enc.toArray].toArray w (Pure (.int .i64 (lS c)) w):=by
 refine aW func299 ntmps299 ?_;refine ah ?_;intro i j k;refine bo ?_;refine aV 7 rfl (λd=>?_) (λd=>?_);have f:=aY d
 refine eG ?_;intro b a;exact⟨by unfold lS;rw[ax aa],a.ext⟩;have f:=a8 d
 refine aR ?_;refine aj (λaH=>?_) (λaH=>?_);refine bo ?_;intro b a;exact⟨by unfold lS;rw[ax aa],a.ext⟩;refine al ?_;refine aV 18 rfl (λe=>?_) (λe=>?_);have g:=aY e
 refine aR ?_;refine aj (λh=>?_) (λh=>?_);refine bo ?_;intro b a;exact⟨by unfold lS;rw[ag aa,ax aa],a.ext⟩;refine aR ?_;intro b a;exact⟨by unfold lS;rw[ag aa,ag aa],a.ext⟩;have g:=a8 e
 refine eT ?_;intro b a;exact⟨by unfold lS;rw[ag aa,ag aa],a.ext⟩
theorem xN (w:World):Calls prog 366 [].toArray w (Pure (.agg ([.int .i32 9670,.int .i32 9618,.int .i32 9225,.int .i32 9228,.int .i32 9229,.int .i32 9226,.int .i32 176,.int .i32 177,.int .i32 9252,.int .i32 9227,.int .i32 9496,.int .i32 9488,.int .i32 9484,.int .i32 9492,.int .i32 9532,.int .i32 9146,.int .i32 9147,.int .i32 9472,.int .i32 9148,.int .i32 9149,.int .i32 9500,.int .i32 9508,.int .i32 9524,.int .i32 9516,.int .i32 9474,.int .i32 8804,.int .i32 8805,.int .i32 960,.int .i32 8800,.int .i32 163,.int .i32 183]:List Value).toArray) w):=by
 refine aW func366 ntmps366 ?_;refine ah ?_;intro b c d;refine aS ?_;refine y_ (out:=[.int .i32 9670,.int .i32 9618,.int .i32 9225,.int .i32 9228,.int .i32 9229,.int .i32 9226,.int .i32 176,.int .i32 177,.int .i32 9252,.int .i32 9227,.int .i32 9496,.int .i32 9488,.int .i32 9484,.int .i32 9492,.int .i32 9532,.int .i32 9146,.int .i32 9147,.int .i32 9472,.int .i32 9148,.int .i32 9149,.int .i32 9500,.int .i32 9508,.int .i32 9524,.int .i32 9516,.int .i32 9474,.int .i32 8804,.int .i32 8805,.int .i32 960,.int .i32 8800,.int .i32 163,.int .i32 183]) LU rfl rfl (by simp[hx,putAt,dd,Value.cells,e9]) ?_;refine eX LT rfl rfl cz a7 (aI.cons rfl (aI.cons rfl (aI.cons rfl (aI.cons rfl (aI.cons rfl (aI.cons rfl (aI.cons rfl (aI.cons rfl (aI.cons rfl (aI.cons rfl (aI.cons rfl (aI.cons rfl (aI.cons rfl (aI.cons rfl (aI.cons rfl (aI.cons rfl (aI.cons rfl (aI.cons rfl (aI.cons rfl (aI.cons rfl (aI.cons rfl (fY rfl rfl rfl rfl rfl rfl rfl rfl rfl rfl)))))))))))))))))))))) (dT rfl) ?_;refine aS ?_;intro e a;exact⟨rfl,a.ext⟩
theorem xO (q:Nat) (h:q≤30): ([.int .i32 9670,.int .i32 9618,.int .i32 9225,.int .i32 9228,.int .i32 9229,.int .i32 9226,.int .i32 176,.int .i32 177,.int .i32 9252,.int .i32 9227,.int .i32 9496,.int .i32 9488,.int .i32 9484,.int .i32 9492,.int .i32 9532,.int .i32 9146,.int .i32 9147,.int .i32 9472,.int .i32 9148,.int .i32 9149,.int .i32 9500,.int .i32 9508,.int .i32 9524,.int .i32 9516,.int .i32 9474,.int .i32 8804,.int .i32 8805,.int .i32 960,.int .i32 8800,.int .i32 163,.int .i32 183]:List Value)[q]? = some (.int .i32 ((ra[q]?).getD 0)):=by
 have e: ([.int .i32 9670,.int .i32 9618,.int .i32 9225,.int .i32 9228,.int .i32 9229,.int .i32 9226,.int .i32 176,.int .i32 177,.int .i32 9252,.int .i32 9227,.int .i32 9496,.int .i32 9488,.int .i32 9484,.int .i32 9492,.int .i32 9532,.int .i32 9146,.int .i32 9147,.int .i32 9472,.int .i32 9148,.int .i32 9149,.int .i32 9500,.int .i32 9508,.int .i32 9524,.int .i32 9516,.int .i32 9474,.int .i32 8804,.int .i32 8805,.int .i32 960,.int .i32 8800,.int .i32 163,.int .i32 183]:List Value)=ra.map (Value.int .i32):=rfl
 have b:ra.length=31:=rfl
 obtain⟨v,a⟩ : ∃v,ra[q]? = some v:=⟨ra[q]'aa,bE _⟩;rw[e,eJ,a];rfl
theorem RM (k r:Int) (h:k=65∧r=35):oR k r=163:=ax h
theorem RN (k r:Int) (h:k=48∧r=95):oR k r=32:=by unfold oR;rw[ag aa,ax h]
theorem RO (k:Int) (q:Nat) (h:k=48) (a:q≤30):oR k (96+(q:Int))=(ra[q]?).getD 0:=by unfold oR;rw[ag aa,ag aa,ax aa,show (96+(q:Int) - 96).toNat=q by omega]
theorem xP (k r:Int) (a: ¬(k=65∧r=35)) (b: ¬(k=48∧r=95)) (c: ¬(k=48∧96≤r∧r≤126)):oR k r=r:=by unfold oR;rw[ag a,ag b,ag c]
theorem RP (w:World) (k r:Int):Calls prog 298 [.int .i64 k,.int .i32 r].toArray w (Pure (.int .i32 (oR k r)) w):=by
 refine aW func298 ntmps298 ?_;refine bw ?_;refine aV 8 rfl (λf=>?_) (λf=>?_);have u:=aY f
 refine aK ?_;refine aj (λaH=>?_) (λaH=>?_);refine aJ ?_;intro b a;exact⟨by rw[RM _ _ aa],a.ext⟩;refine ay ?_;refine aV 15 rfl (λg=>?_) (λg=>?_);have v:=aY g
 refine aK ?_;refine aj (λx=>?_) (λx=>?_);refine aJ ?_;intro b a
 (exfalso;omega)
 refine ay ?_;refine aV 22 rfl (λh=>?_) (λh=>?_);have y:=aY h
 refine al ?_;refine aV 26 rfl (λi=>?_) (λi=>?_);have z:=aY i
 refine aK ?_;refine aj (λA=>?_) (λA=>?_);refine aq ?_;obtain⟨q,d⟩ : ∃q:Nat,r=96+(q:Int):=⟨(r - 96).toNat,aa⟩;have c:q≤30:=by omega
 subst d;refine aq ?_;refine ao rfl wR rfl (λe j=>xN e) ?_;refine aq ?_;refine gI rfl rfl rfl (uy aa aa) ?_;refine lH (q:=q) underlying396 jt rfl rfl rfl aa aa (xO q c) ?_;refine aC ?_;intro b a
 (exfalso;omega)
 refine bo ?_;intro b a
 (exfalso;omega)
 have z:=a8 i
 refine eT ?_;intro b a
 (exfalso;omega)
 have y:=a8 h
 refine kq ?_;intro b a
 (exfalso;omega)
 have v:=a8 g
 refine bw ?_;refine aV 22 rfl (λl=>?_) (λl=>?_);have B:=aY l
 refine al ?_;refine aV 26 rfl (λm=>?_) (λm=>?_);have C:=aY m
 refine aK ?_;refine aj (λD=>?_) (λD=>?_);refine aq ?_;obtain⟨q,d⟩ : ∃q:Nat,r=96+(q:Int):=⟨(r - 96).toNat,aa⟩;have c:q≤30:=by omega
 subst d;refine aq ?_;refine ao rfl wR rfl (λe j=>xN e) ?_;refine aq ?_;refine gI rfl rfl rfl (uy aa aa) ?_;refine lH (q:=q) underlying396 jt rfl rfl rfl aa aa (xO q c) ?_;refine aC ?_;intro b a
 (exfalso;omega)
 refine bo ?_;intro b a
 (exfalso;omega)
 have C:=a8 m
 refine eT ?_;intro b a
 (exfalso;omega)
 have B:=a8 l
 refine kq ?_;intro b a;exact⟨by rw[xP _ _ aa aa aa],a.ext⟩;have u:=a8 f
 refine bw ?_;refine aV 15 rfl (λn=>?_) (λn=>?_);have E:=aY n
 refine aK ?_;refine aj (λF=>?_) (λF=>?_);refine aJ ?_;intro b a;exact⟨by rw[RN _ _ aa],a.ext⟩;refine ay ?_;refine aV 22 rfl (λo=>?_) (λo=>?_);have G:=aY o
 refine al ?_;refine aV 26 rfl (λp=>?_) (λp=>?_);have H:=aY p
 refine aK ?_;refine aj (λI=>?_) (λI=>?_);refine aq ?_;obtain⟨q,d⟩ : ∃q:Nat,r=96+(q:Int):=⟨(r - 96).toNat,aa⟩;have c:q≤30:=by omega
 subst d;refine aq ?_;refine ao rfl wR rfl (λe j=>xN e) ?_;refine aq ?_;refine gI rfl rfl rfl (uy aa aa) ?_;refine lH (q:=q) underlying396 jt rfl rfl rfl aa aa (xO q c) ?_;refine aC ?_;intro b a;exact⟨by rw[RO _ _ aa c],a.ext⟩;refine bo ?_;intro b a;exact⟨by rw[xP _ _ aa aa aa],a.ext⟩;have H:=a8 p
 refine eT ?_;intro b a;exact⟨by rw[xP _ _ aa aa aa],a.ext⟩;have G:=a8 o
 refine kq ?_;intro b a
 (exfalso;omega)
 have E:=a8 n
 refine bw ?_;refine aV 22 rfl (λs=>?_) (λs=>?_);have J:=aY s
 refine al ?_;refine aV 26 rfl (λt=>?_) (λt=>?_);have K:=aY t
 refine aK ?_;refine aj (λL=>?_) (λL=>?_);refine aq ?_;obtain⟨q,d⟩ : ∃q:Nat,r=96+(q:Int):=⟨(r - 96).toNat,aa⟩;have c:q≤30:=by omega
 subst d;refine aq ?_;refine ao rfl wR rfl (λe j=>xN e) ?_;refine aq ?_;refine gI rfl rfl rfl (uy aa aa) ?_;refine lH (q:=q) underlying396 jt rfl rfl rfl aa aa (xO q c) ?_;refine aC ?_;intro b a
 (exfalso;omega)
 refine bo ?_;intro b a
 (exfalso;omega)
 have K:=a8 t
 refine eT ?_;intro b a
 (exfalso;omega)
 have J:=a8 s
 refine kq ?_;intro b a;exact⟨by rw[xP _ _ aa aa aa],a.ext⟩
theorem RQ (c:fO) (q:Nat) (h:q≤3): (c.enc)[0+0+q*1]? = some (.int .i64 (A3 c q)):=by
 rcases q with _ | _ | _ | _ | q
 rfl
 rfl
 rfl
 rfl
 omega
theorem RR (w:World) (c:fO) (r:Int):Calls prog 209 [.agg c.enc.toArray,.int .i32 r].toArray w (Pure (.tuple #[.int .i32 (rb c r).1,.agg (rb c r).2.enc.toArray]) w):=by
 have g:=RK c
 obtain⟨q,b⟩ : ∃q:Nat,lS c=(q:Int):=⟨(lS c).toNat,aa⟩;refine aW func209 ntmps209 ?_;refine ah ?_;intro h i j;refine ar ?_;intro k l m;refine ay ?_;refine ao rfl NP rfl (λa d=>RL a c) ?_;refine aq ?_;refine dq (q:=q) underlying102 ju rfl rfl rfl b aa ?_;refine ba (v:= .int .i64 (A3 c q)) bM rfl rfl (λn e=>af.eM (xs:=c.enc) e bF (RQ c q aa)) ?_;refine aq ?_;refine ao rfl NO rfl (λa d=>RP a _ r) ?_;refine aR ?_;refine bG [0,1,2] 1 [[(3,true,[])]] ?_;refine bo ?_;refine h_ results209 (cx.tmp rfl) (cx.eR lF rfl aQ rfl rfl) (λo f=>?_);exact⟨by rw[rb,b];rfl,f.ext⟩
def u9 (s:bd) (r:Int):bd:=q9 { s with bf:={ s.bf with aF:=(rb s.bf.aF r).2 } } (rb s.bf.aF r).1
theorem RS (s:bd) (r:Int):cP 2 s (u9 s r):=((sZ s _).trans (GY _ _)).mono aa
abbrev A4 (s:bk) (c:fO):bk:={ s with bf:={ s.bf with aF:=c } }
theorem RT (s:bk) (c:fO):dd (eU s) (0+5) [.int .i64 c.fs,.int .i64 c.s1,.int .i64 c.s2,.int .i64 c.lg,.int .i64 c.use,.int .i64 c.jU]=eU (A4 s c):=by
 simp only[dd,eU,dG,Nat.reduceAdd,qy,mo]
theorem RU (w:World) (s:bk) (k:bb w (aO s)) (d:dO s) (b:dV s.abs) (p:s.ap.be.l.length≤1152910000000) (r:Int):
 Calls prog 155 [ptr s.g,.int .i32 r].toArray w (eg s (.tuple #[]) (u9 s.abs r) w):=by
 obtain⟨c,f⟩ : ∃c,c=(rb s.bf.aF r).2:=⟨_,rfl⟩;obtain⟨e_,h⟩ : ∃c,c=(rb s.bf.aF r).1:=⟨_,rfl⟩;refine bI func155 ntmps155 k ?_;refine eG ?_;refine ao rfl Nk rfl (λe i=>by have j:=RR e s.bf.aF r;rw[←f,←h] at j;exact j) ?_;refine aR ?_;rw[RT];refine ah ?_;refine aZ (l0:=aO (A4 s c)) ae rfl Ey rfl (λe i=>GZ e (A4 s c) (i.bp ae) ⟨d.r,d.st,d.n⟩ ⟨b.bC,b.y,b.x,b.top⟩ (by show s.ap.be.l.length≤_;omega) e_) (λm a=>?_);refine ar ?_;intro q o;exact aN m ⟨a.g,a.ap,a.st,a.wf,by rw[u9,show s.abs.bf.aF=s.bf.aF from rfl,←f,←h];exact a.abs⟩ o
def lj:gv:=⟨⟨0,0,0,0,0⟩,u7,false,true,false⟩
def xQ (s:fO) (c:Int):fO:=if c=14 then { s with use:=1 } else if c=15 then { s with use:=0 } else s
def s6 (s:fO) (c:Int):fO:=if c=110 then { s with use:=2 } else if c=111 then { s with use:=3 } else if c=78 then { s with jU:=2 } else if c=79 then { s with jU:=3 } else s
theorem RV (w:World):Calls prog 146 [].toArray w (Pure (.agg u7.enc.toArray) w):=by
 refine aW func146 ntmps146 ?_;refine ah ?_;intro b c d;refine bo ?_;intro e a;exact⟨rfl,a.ext⟩
theorem A5 (w:World):Calls prog 100 [].toArray w (Pure (.agg lj.enc.toArray) w):=by
 refine aW func100 ntmps100 ?_;refine ah ?_;intro c d e;refine aS ?_;refine ao rfl MV rfl (λa f=>RV a) ?_;refine aq ?_;refine ki (out:=lj.enc) LH rfl rfl (by simp[hx,putAt,dd,Value.cells,lj,u7]) ?_;refine eX qO rfl rfl cz a7 (aI.cons rfl (aI.cons rfl (aI.cons rfl (aI.cons rfl (fY rfl rfl rfl rfl rfl rfl rfl rfl rfl rfl))))) (dT rfl) ?_;refine aS ?_;intro g b;exact⟨rfl,b.ext⟩
theorem Hb (w:World) (c:fO) (b:Int):Calls prog 162 [.agg c.enc.toArray,.int .u8 b].toArray w (Pure (.agg (xQ c b).enc.toArray) w):=by
 refine aW func162 ntmps162 ?_;refine ah ?_;intro f g h;refine aq ?_;intro i j k;refine cE ?_;refine aj (λe=>?_) (λe=>?_);refine b5 ?_;intro d a;exact⟨by unfold xQ;(rw[ax aa];rfl),a.ext⟩;refine al ?_;refine aj (λaH=>?_) (λaH=>?_);refine b5 ?_;intro d a;exact⟨by unfold xQ;(rw[ag aa,ax aa];rfl),a.ext⟩;refine bo ?_;intro d a;exact⟨by unfold xQ;(rw[ag aa,ag aa];rfl),a.ext⟩
theorem xR (w:World) (c:fO) (b:Int):Calls prog 223 [.agg c.enc.toArray,.int .u8 b].toArray w (Pure (.agg (s6 c b).enc.toArray) w):=by
 refine aW func223 ntmps223 ?_;refine ah ?_;intro h i j;refine aq ?_;intro k l m;refine cE ?_;refine aj (λe=>?_) (λe=>?_);refine b5 ?_;intro d a;exact⟨by unfold s6;(rw[ax aa];rfl),a.ext⟩;refine al ?_;refine aj (λaH=>?_) (λaH=>?_);refine b5 ?_;intro d a;exact⟨by unfold s6;(rw[ag aa,ax aa];rfl),a.ext⟩;refine al ?_;refine aj (λf=>?_) (λf=>?_);refine b5 ?_;intro d a;exact⟨by unfold s6;(rw[ag aa,ag aa,ax aa];rfl),a.ext⟩;refine al ?_;refine aj (λg=>?_) (λg=>?_);refine b5 ?_;intro d a;exact⟨by unfold s6;(rw[ag aa,ag aa,ag aa,ax aa];rfl),a.ext⟩;refine bo ?_;intro d a;exact⟨by unfold s6;(rw[ag aa,ag aa,ag aa,ag aa];rfl),a.ext⟩
def rc:gv:=⟨⟨0,0,0,0,0⟩,⟨0,0,0,0,0,0⟩,false,false,false⟩
def Hc (s:bd):bd:=uZ { s with bf:=lj,fP:=rc,kw:=0,kx:=0,has:=false,last:=0 }
theorem RW (s:bd):cP 0 s (Hc s):=by
 have a:cP 0 s { s with bf:=lj,fP:=rc,kw:=0,kx:=0,has:=false,last:=0 }:=⟨λw=>⟨w.bC,w.y,w.x,w.top⟩,rfl,rfl,rfl,cd _⟩
 exact a.trans (G4 _)
theorem Hd (s:bk) (p:gv):dd (eU s) (0+0) p.enc=eU { s with bf:=p }:=RB s p
theorem RX (s:bk) (p:gv) (y x:Int):dd (eU s) (0+20) (p.enc++[.int .i64 y,.int .i64 x])=eU { s with fP:=p,kw:=y,kx:=x }:=G_ s p y x
abbrev RY (s:bk):bk:={ s with bf:=lj,fP:=rc,kw:=0,kx:=0,has:=false,last:=0 }
theorem RZ (w:World) (s:bk) (e:bb w (aO s)) (b:dO s) (f:cZ s.ap.abs):
 Calls prog 238 [ptr s.g].toArray w (eg s (.tuple #[]) (Hc s.abs) w):=by
 refine bI func238 ntmps238 e ?_;refine bH ?_;refine ao rfl zz rfl (λc d=>A5 c) ?_;refine ki (out:=rc.enc++[.int .i64 0,.int .i64 0]) zl rfl rfl rfl ?_;refine ar ?_;refine eX qO rfl rfl cz a7 (aI.cons rfl (aI.cons rfl (aI.cons rfl (aI.cons rfl (fY rfl rfl rfl rfl rfl rfl rfl rfl rfl rfl))))) (dT rfl) ?_;refine ar ?_;rw[Hd];refine eX un rfl rfl cz a7 (aI.cons rfl (aI.cons rfl (aI.cons rfl (aI.cons rfl (aI.cons rfl (aI.cons rfl (fY rfl rfl rfl rfl rfl rfl rfl rfl rfl rfl))))))) (dT rfl) ?_;refine ar ?_;rw[RX];refine aK ?_;refine cI (λc d=>u0 c (RY s) d ⟨b.r,b.st,b.n⟩ f) (λh a=>?_);refine ar ?_;intro j i;exact aN h ⟨a.g,a.ap,a.st,a.wf,by rw[a.abs];rfl⟩ i
def s7 (s:bd):gv × Int × Int:=if s.has=true then (s.fP,s.kw,s.kx) else (lj,0,0)
def R0 (s:bd) (p:gv):bd:={ s with bf:={ s.bf with at_:=p.at_,aF:=p.aF,home:=p.home } }
def A6 (s:bd):bd:=xI (R0 s (s7 s).1) (s7 s).2.1 (s7 s).2.2
theorem R1 (s:bd):cP 0 s (A6 s):=(sZ s _).trans (xJ _ _ _)
abbrev oS (k:gv × Int × Int):List Value:=k.1.enc++[.int .i64 k.2.1,.int .i64 k.2.2]
theorem He (a b c d e f g h i j l m n o p q:Value) (k:gv × Int × Int):dd [a,b,c,d,e,f,g,h,i,j,l,m,n,o,p,q] 0 (oS k)=oS k:=by
 simp only[dd,oS,gv.enc,mi,qw,dG,Nat.reduceAdd,qy,mo]
theorem R2 (j k:gv × Int × Int):dd (oS j) 0 (oS k)=oS k:=He _ _ _ _ _ _ _ _ _ _ _ _ _ _ _ _ k
abbrev R3 (s:bk) (p:gv):bk:={ s with bf:={ s.bf with at_:=p.at_,aF:=p.aF,home:=p.home } }
theorem R4 (w:World) (s:bk) (m:bb w (aO s)) (b:dO s) (o:dV s.abs):
 Calls prog 311 [ptr s.g].toArray w (eg s (.tuple #[]) (A6 s.abs) w):=by
 refine bI func311 ntmps311 m ?_;refine aC ?_;refine b2 rfl (λf=>?_) (λf=>?_);exact Bool.noConfusion f;refine aS ?_;refine ao rfl zz rfl (λc i=>A5 c) ?_;refine ki (out:=oS (lj,0,0)) zl rfl rfl (by simp[hx,putAt,dd,Value.cells,lj,u7]) ?_;refine aq ?_;intro l x y;refine eX un rfl rfl cz a7 (aI.cons rfl (aI.cons rfl (aI.cons rfl (aI.cons rfl (aI.cons rfl (aI.cons rfl (fY rfl rfl rfl rfl rfl rfl rfl rfl rfl rfl))))))) (dT rfl) ?_;refine bo ?_;rw[He];refine hC (λ_:gv × Int × Int=>[(0,ptr s.g),(2,ptr l)]) (λk=>af w (aB (aO s)) [s.an,aD l (oS k) 111,s.ap.an,aT (b9 s.ap.r),s.ap.s.au,s.ap.s.cc,s.ap.be.au,s.st.aF]) (λk=>k=s7 s.abs) ?_ ?_;refine b2 rfl (λd=>?_) (λd=>?_);refine aS ?_;refine cw (vs:=oS (s.fP,s.kw,s.kx)) un rfl rfl rfl (λz p j u q=>af.kY (sz:=16) (xs:=eU s) p bF rfl j u q) ?_;refine eX un rfl rfl cz a7 (aI.cons rfl (aI.cons rfl (aI.cons rfl (aI.cons rfl (aI.cons rfl (aI.cons rfl (fY rfl rfl rfl rfl rfl rfl rfl rfl rfl rfl))))))) (dT rfl) ?_;refine aq ?_;rw[R2];exact dr (s.fP,s.kw,s.kx) (by rw[s7,ax (by exact d)];rfl) bO (λ_ h=>h.aw ae);refine aq ?_;exact dr (lj,0,0) (by rw[s7,ag (by rw[show s.abs.has=s.has from rfl,d];decide)]) bO (λ_ h=>h.aw ae);rintro k t;refine ar ?_;refine ew [0,1,2,3,4,5,6,7,8,9,10,11,12,13,14,15] 3 [[(16,false,[17,18,19]),(20,false,[21,22,23,24]),(25,false,[])]] (_) mixed ab (λ_ e=>e.drew) (λ_ h=>h.rem bv.head) ?_;refine eG ?_;refine bY (λ_=>True) (λ_ h=> .inr (h.rem bv.head)) (λ_ h=>aU) ?_;refine al ?_;refine bY (λ_=>True) (λ_ h=> .inr ⟨.inr (h.rem bv.head),dj⟩) (λ_ h=>aU) ?_;refine aC ?_;refine bY (λ_=>True) (λ_ h=> .inr ⟨.inr ⟨.inr (h.rem bv.head),dj⟩,dj⟩) (λ_ h=>aU) ?_;refine aJ ?_;refine cI (λc i=>xK c (R3 s k.1) i ⟨b.r,b.st,b.n⟩ o.bC k.2.1 k.2.2) (λv a=>?_);refine ar ?_;intro A e;exact aN v ⟨a.g,a.ap,a.st,a.wf,by rw[A6,←t];exact a.abs⟩ e
theorem xS (w:World) (s:bk) (a:s.an.pred w):Calls prog 218 [ptr s.g].toArray w (Pure (ptr s.st.g) w):=by
 refine aW func218 ntmps218 ?_;refine hh ?_;refine ba zk rfl rfl (λd b=>b.bV a (by (simp;done)) rfl) ?_;refine ay ?_;intro e c;exact⟨rfl,c.ext⟩
end Go.Proofs.YtkeokgcdnfjaaaaGreatDoor.Mq
