/- part 19 of the proof -/
import Derived.Test.YtlgnfdodnhokjaaGreatDoorQ18
namespace Go.Proofs.YtlgnfdodnhokjaaGreatDoor.Mq
open Go Go.RowKit Go.Proofs Tryz
def l7 (s:be) (k:Int):be:=
 if k=0 then gr s (λp=>eraseP p s.y (fE s) s.cols (an s) (aM s)) else
 if k=1 then gr s (λp=>eraseP p s.y 0 (fE s+1) (an s) (aM s)) else
 if k=2 then vt s s.y (s.y+1) else s
theorem vu (s:be) (k:Int):cS 0 s (l7 s k):=by
 unfold l7;split
 exact hY s (o2 _ _ _ _ _ _);split
 exact hY s (o2 _ _ _ _ _ _);split
 exact tq s _ _;exact cS.refl s
def qj (s:be) (k:Int):be:=
 if k=0 then vt (l7 s 0) ((l7 s 0).y+1) (l7 s 0).rows else
 if k=1 then vt (l7 s 1) 0 (l7 s 1).y else
 if k=2 then vt s 0 s.rows else
 if k=3 then gr s s9 else s
theorem SB (s:be) (k:Int):cS 1 s (qj s k):=by
 unfold qj;split
 exact ((vu s 0).trans (tq _ _ _)).mono aa;split
 exact ((vu s 1).trans (tq _ _ _)).mono aa;split
 exact (tq _ _ _).mono aa;split
 exact (hY s (Ha _)).mono aa;exact (cS.refl s).mono aa
theorem hX.trans {s z u:bl} {q r:be} (h:hX s q z) (k:hX z r u):hX s r u:=⟨k.g.trans h.g,k.ap.trans h.ap,k.st.trans h.st,k.wf,k.abs⟩
theorem Bn (w:World) (s:bl) (m:a8 w (aO s)) (c:dR s) (e:dX s.abs) (k:Int):
 Calls prog 239 [ptr s.g,.int .i64 k].toArray w (eo s (.tuple #[]) (l7 s.abs k) w):=by
 obtain⟨u,l,v,z,A⟩:=e.nums;refine bI func239 ntmps239 m ?_;refine kA ?_;refine aj (λo=>?_) (λo=>?_);refine bF [0,1,2,3,4,5,6,7,8,10,12] 4 [[(9,false,[]),(11,false,[]),(13,false,[]),(14,true,[])]] ?_;refine bH ?_;refine ao rfl jg rfl (λb a=>jq b s (a.has aT) (a.has bJ) l) ?_;refine ah ?_;refine ao rfl jE rfl (λb a=>j9 b s s.ap rfl (a.has aT) (a.has bJ)) ?_;refine ah ?_;refine ao rfl k8 rfl (λb a=>lq b s (a.has aT)) ?_;refine b3 (λ_=>True) (λ_ h=> .inr ⟨.inr ⟨.inr h,dp⟩,dp⟩) (λ_ h=>a1) ?_;refine aq ?_;refine a6 (l0:=bB s.ap) ae rfl uN rfl (λb a=>vj b s.ap (a.bo ae) c.r e.bD s.y (min s.x (s.ap.cols - 1)) s.ap.cols s.bg.at_.an s.bg.at_.aM aa) (λf i=>?_);refine ay ?_;intro j d;exact kJ s f ⟨rfl,rfl,rfl⟩ ⟨c.r,c.st,c.n⟩ i (o2 s.ap.abs _ _ _ _ _).cols (by rw[l7,aw aa];rfl) rfl d ae;refine al ?_;refine aj (λaH=>?_) (λaH=>?_);refine bF [0,1,2,3,4,5,6,7,8,11] 3 [[(9,false,[10]),(12,false,[]),(13,true,[])]] ?_;refine bx ?_;refine ao rfl jg rfl (λb a=>jq b s (a.has aT) (a.has bJ) l) ?_;refine aS ?_;refine ao rfl k8 rfl (λb a=>lq b s (a.has aT)) ?_;refine ah ?_;refine a6 (l0:=bB s.ap) ae rfl uN rfl (λb a=>vj b s.ap (a.bo ae) c.r e.bD s.y 0 (min s.x (s.ap.cols - 1)+1) s.bg.at_.an s.bg.at_.aM aa) (λf i=>?_);refine ay ?_;intro j d;exact kJ s f ⟨rfl,rfl,rfl⟩ ⟨c.r,c.st,c.n⟩ i (o2 s.ap.abs _ _ _ _ _).cols (by rw[l7,ag aa,aw aa];rfl) rfl d ae;refine al ?_;refine aj (λp=>?_) (λp=>?_);refine bF [0,1,2,3,4,5,6,7,8,9] 1 [[(10,true,[])]] ?_;refine bx ?_;refine a6 (l0:=aO s) ae rfl w_ rfl (λb a=>x_ b s (a.bo ae) c e s.y (s.y+1) aa aa) (λq t=>?_);refine ay ?_;intro j d;exact aN q (by rw[l7,ag aa,ag aa,aw aa];exact t) d;refine ah ?_;intro j d;exact fb s ⟨rfl,rfl,rfl⟩ c (by rw[l7,ag aa,ag aa,ag aa]) rfl d ae
theorem SC (w:World) (s:bl) (p:a8 w (aO s)) (f:dR s) (h:dX s.abs) (G:s.ap.bf.l.length≤1152920000000) (k:Int):
 Calls prog 238 [ptr s.g,.int .i64 k].toArray w (eo s (.tuple #[]) (qj s.abs k) w):=by
 obtain⟨H,I,J,K,L⟩:=h.nums;have q:=l6 s
 refine bI func238 ntmps238 p ?_;refine kA ?_;refine aj (λt=>?_) (λt=>?_);refine ah ?_;refine cJ (λb a=>Bn b s a f h 0) (λc d=>?_);refine aq ?_;obtain⟨i,c8⟩:=d.fits (vu s.abs 0) h;obtain⟨u,v,x,z,A⟩:=i.nums;have B:=l6 c
 rw[←d.g];refine bF [0,1,2,3,4,5,6] 2 [[(7,false,[]),(8,true,[])]] ?_;refine aJ ?_;refine ao rfl nu rfl (λb a=>nS b c c.ap rfl (a.has aT) (a.has bJ)) ?_;refine ah ?_;refine a6 (l0:=aO c) ae rfl w_ rfl (λb a=>x_ b c (a.bo ae) d.wf i (c.y+1) (c.ap.s.l.length:Int) aa aa) (λj m=>?_);refine ay ?_;intro o e
 (refine aP.bQ j ?_ rfl (e.ax ae);rw[qj,aw aa,←d.abs,be.rows,B];exact d.trans m)
 refine al ?_;refine aj (λaH=>?_) (λaH=>?_);refine ah ?_;refine cJ (λb a=>Bn b s a f h 1) (λc d=>?_);refine aq ?_;obtain⟨i,c8⟩:=d.fits (vu s.abs 1) h;obtain⟨u,v,x,z,A⟩:=i.nums;rw[←d.g];refine al ?_;refine a6 (l0:=aO c) ae rfl w_ rfl (λb a=>x_ b c (a.bo ae) d.wf i 0 c.y aa aa) (λj m=>?_);refine ah ?_;intro o e
 (refine aP.bQ j ?_ rfl (e.ax ae);rw[qj,ag aa,aw aa,←d.abs];exact d.trans m)
 refine al ?_;refine aj (λC=>?_) (λC=>?_);refine ah ?_;refine ao rfl nu rfl (λb a=>nS b s s.ap rfl (a.has aT) (a.has bJ)) ?_;refine a6 (l0:=aO s) ae rfl w_ rfl (λb a=>x_ b s (a.bo ae) f h 0 (s.ap.s.l.length:Int) aa aa) (λj m=>?_);refine ah ?_;intro o e
 (refine aP.bQ j ?_ rfl (e.ax ae);rw[qj,ag aa,ag aa,aw aa,be.rows,q];exact m)
 refine al ?_;refine aj (λD=>?_) (λD=>?_);refine ay ?_;refine a6 (l0:=bB s.ap) ae rfl OT rfl (λb a=>RA b s.ap (a.bo ae) f.r h.bD aa) (λE F=>?_);refine ah ?_;intro o e;exact kJ s E ⟨rfl,rfl,rfl⟩ ⟨f.r,f.st,f.n⟩ F (Ha s.ap.abs).cols (by rw[qj,ag aa,ag aa,ag aa,aw aa];rfl) rfl e ae;refine ah ?_;intro o e;exact fb s ⟨rfl,rfl,rfl⟩ f (by rw[qj,ag aa,ag aa,ag aa,ag aa]) rfl e ae
def tr (s:be) (n:Int):be:=
 if n=0 then s else
 if 0<n then { s with x:=(cN.nP (cN.jp s.xY) s.xY.length (fE s) n:Int) }
 else { s with x:=(cN.nP (cN.iQ s.xY) s.xY.length (fE s) (max 0 (0 - max n (-1000))):Int) }
def tt (s:be) (r:Int):Nat→be
 | 0=>s
 | n+1=>rr (tt s r n) r
theorem Bo (s:be) (r:Int): ∀n,cS (2*n) s (tt s r n)
 | 0=>cS.refl s
 | n+1=>((Bo s r n).trans (HK _ r)).mono aa
theorem SD (w:World) (s:bl) (h:a8 w (aO s)) (j: ∀w',Ext (aB (aO s)) w w'→cN.mV w') (a:dR s) (k:dX s.abs) (n:Int):
 Calls prog 166 [ptr s.g,.int .i64 n].toArray w (eo s (.tuple #[]) (tr s.abs n) w):=by
 obtain⟨m,e,o,p,q⟩:=k.nums;have t:=a.n
 refine bI func166 ntmps166 h ?_;refine b7 ?_;refine aj (λl=>?_) (λl=>?_);refine ah ?_;intro f d;exact fb s ⟨rfl,rfl,rfl⟩ a (by rw[tr,aw aa]) rfl d ae;refine aC ?_;refine aj (λaH=>?_) (λaH=>?_);refine bF [0,1,2,3,4,5,7] 3 [[(6,false,[]),(8,false,[9,10]),(11,true,[])]] ?_;refine aJ ?_;refine ao rfl jg rfl (λc b=>jq c s (b.has aT) (b.has bJ) e) ?_;refine ah ?_;refine ao rfl N_ rfl (λc b=>cN.RW c (j c b.ext) s.st.g s.st.bs s.st.i a.st (cN.gG.of (b.has e4) a.st.len) aa (min s.x (s.ap.cols - 1)) n) ?_;refine bp ?_;intro f d;exact fb { s with x:=(cN.nP (cN.jp s.st.bs) s.st.bs.length (min s.x (s.ap.cols - 1)) n:Int) } ⟨rfl,rfl,rfl⟩ ⟨a.r,a.st,a.n⟩ (by rw[tr,ag aa,aw aa];rfl) rfl d ae;refine bF [0,1,2,3,4,5,7,8,9,10] 3 [[(6,false,[]),(11,false,[12,13]),(14,true,[])]] ?_;refine aK ?_;refine aL rfl (λu v=>(oG rfl rfl (wrap64 aa aa) aG)) ?_;refine ah ?_;refine ao rfl jg rfl (λc b=>jq c s (b.has aT) (b.has bJ) e) ?_;refine ah ?_;refine ao rfl Oa rfl (λc b=>cN.u4 c s.st.g s.st.bs s.st.i a.st (cN.gG.of (b.has e4) a.st.len) aa (min s.x (s.ap.cols - 1)) _) ?_;refine bp ?_;intro f d;exact fb { s with x:=(cN.nP (cN.iQ s.st.bs) s.st.bs.length (min s.x (s.ap.cols - 1)) (max 0 (0 - max n (-1000))):Int) } ⟨rfl,rfl,rfl⟩ ⟨a.r,a.st,a.n⟩ (by rw[tr,ag aa,ag aa];rfl) rfl d ae
theorem SE (s:be): (rr s s.last).last=s.last:=by
 rw[x2];split
 unfold iT;split <;> rfl
 rfl
theorem HX (s:be): ∀n,(tt s s.last n).last=s.last
 | 0=>rfl
 | n+1=>by
  have h:=HX s n
  have a:=SE (tt s s.last n)
  rw[h] at a
  exact a
def vv (s:be) (n:Int):be:=if s.last=0 then s else tt s s.last (fD n 1 (s.rows*s.cols)).toNat
theorem SF (s:be) (n:Int) (h:dX s):cS 2000000 s (vv s n):=by
 have b:=h.bD.rows;have a:=h.bD.cols
 have c:s.rows*s.cols≤1000*1000:=Int.mul_le_mul (by simp only[be.rows];omega) a.2 (by simp only[be.cols];omega) aa
 unfold vv;split
 exact (cS.refl s).mono aa;exact (Bo s s.last _).mono (by unfold fD;omega)
theorem SG (w:World) (s:bl) (o:a8 w (aO s)) (j:dR s) (k:dX s.abs) (C:s.ap.bf.l.length≤1152910000000) (n:Int):
 Calls prog 254 [ptr s.g,.int .i64 n].toArray w (eo s (.tuple #[]) (vv s.abs n) w):=by
 obtain⟨D,p,E,F,G⟩:=k.nums;have r:=l6 s
 have H: (s.ap.s.l.length:Int)*s.ap.cols≤1000*1000:=Int.mul_le_mul aa p.2 aa aa
 have I:1*1≤(s.ap.s.l.length:Int)*s.ap.cols:=Int.mul_le_mul aa aa aa aa
 have J:=lr (n:=n) (lo:=1) (hi:=(s.ap.s.l.length:Int)*s.ap.cols) aa
 obtain⟨N,m⟩ : ∃N:Nat,fD n 1 ((s.ap.s.l.length:Int)*s.ap.cols)=(N:Int):=⟨(fD n 1 ((s.ap.s.l.length:Int)*s.ap.cols)).toNat,aa⟩;refine bI func254 ntmps254 o ?_;refine eL ?_;refine aj (λe=>?_) (λe=>?_);refine ah ?_;intro t f;exact fb s ⟨rfl,rfl,rfl⟩ j (by rw[vv,aw (by exact e)]) rfl f ae;refine al ?_;refine ao rfl nu rfl (λc b=>nS c s s.ap rfl (b.has aT) (b.has bJ)) ?_;refine ar ?_;refine ao rfl jE rfl (λc b=>j9 c s s.ap rfl (b.has aT) (b.has bJ)) ?_;refine k3 rfl rfl rfl (wrap64 aa aa) ?_;refine ao rfl nw rfl (λc b=>nR c _ _ _) ?_;refine aS ?_;rw[m];refine b2 (ι:=Nat × bl) (λi=>[(0,ptr s.g),(19,.int .i64 (N:Int)),(20,.int .i64 (i.1 :Int))]) (λi=>af w (aB (aO s)) (aO i.2)) (λi=>i.1≤N∧hX s (tt s.abs s.abs.last i.1) i.2) (λi=>N - i.1) ?_ ?_;exact λw' u=>⟨(0,s),⟨bP _,hX.refl j⟩,(em rfl rfl rfl),u⟩
 rintro⟨i,q⟩ ⟨hi,a⟩;dsimp only at hi a ⊢
 obtain⟨v,K⟩:=a.fits (Bo s.abs s.abs.last i) k;have x:q.last=s.last:=by have d:=HX s.abs i;rw[←a.abs] at d;exact d
 rw[←a.g];refine al ?_;refine aj (λy=>?_) (λy=>?_);refine aQ ?_;refine a6 (l0:=aO q) ae rfl E0 rfl (λc b=>HL c q (b.bo ae) a.wf v aa q.last) (λz A=>?_);refine aC ?_;exact bi (i+1,z) ⟨by show i+1≤N;omega,by have d:=a.trans A;rw[a.abs,x] at d;exact d⟩ (by show N - (i+1)<N - i;omega) bR (λ_ h=>h.ax ae);refine ay ?_;intro t f;have B:i=N:=by omega
 subst B;exact aP.bQ q ⟨a.g,a.ap,a.st,a.wf,by rw[vv,ag (by exact e),be.rows,r];rw[show fD n 1 ((s.ap.s.l.length:Int)*s.abs.cols)=(i:Int) from m,fV];exact a.abs⟩ rfl f
def vw:fZ:=⟨66,66,66,66,0,0⟩
def rt:List Int:=[9670,9618,9225,9228,9229,9226,176,177,9252,9227,9496,9488,9484,9492,9532,9146,9147,9472,9148,9149,9500,9508,9524,9516,9474,8804,8805,960,8800,163,183]
def o9 (kind r:Int):Int:=
 if kind=65∧r=35 then 163 else if kind=48∧r=95 then 32 else if kind=48∧96≤r∧r≤126 then (rt[(r - 96).toNat]?).getD 0 else r
def l8 (s:fZ):Int:=if s.j7=2∨s.j7=3 then s.j7 else if 0≤s.use∧s.use≤3 then s.use else 0
def Bp (s:fZ) (k:Int):Int:=if k=0 then s.fC else if k=1 then s.s1 else if k=2 then s.s2 else s.lp
def ru (s:fZ) (r:Int):Int × fZ:=(o9 (Bp s (l8 s)) r,{ s with j7:=0 })
theorem SH (s:fZ):0≤l8 s∧l8 s≤3:=by
 unfold l8;split
 omega
 split <;> omega
theorem SI (w:World) (c:fZ):Calls prog 303 [.agg c.enc.toArray].toArray w (Pure (.int .i64 (l8 c)) w):=by
 refine aV func303 ntmps303 ?_;refine ah ?_;intro i j k;refine bp ?_;refine aW 7 rfl (λd=>?_) (λd=>?_);have f:=aX d
 refine eL ?_;intro b a;exact⟨by unfold l8;rw[aw aa],a.ext⟩;have f:=bd d
 refine aQ ?_;refine aj (λaH=>?_) (λaH=>?_);refine bp ?_;intro b a;exact⟨by unfold l8;rw[aw aa],a.ext⟩;refine al ?_;refine aW 18 rfl (λe=>?_) (λe=>?_);have g:=aX e
 refine aQ ?_;refine aj (λh=>?_) (λh=>?_);refine bp ?_;intro b a;exact⟨by unfold l8;rw[ag aa,aw aa],a.ext⟩;refine aQ ?_;intro b a;exact⟨by unfold l8;rw[ag aa,ag aa],a.ext⟩;have g:=bd e
 refine eR ?_;intro b a;exact⟨by unfold l8;rw[ag aa,ag aa],a.ext⟩
theorem ya (w:World):Calls prog 368 [].toArray w (Pure (.agg ([.int .i32 9670,.int .i32 9618,.int .i32 9225,.int .i32 9228,.int .i32 9229,.int .i32 9226,.int .i32 176,.int .i32 177,.int .i32 9252,.int .i32 9227,.int .i32 9496,.int .i32 9488,.int .i32 9484,.int .i32 9492,.int .i32 9532,.int .i32 9146,.int .i32 9147,.int .i32 9472,.int .i32 9148,.int .i32 9149,.int .i32 9500,.int .i32 9508,.int .i32 9524,.int .i32 9516,.int .i32 9474,.int .i32 8804,.int .i32 8805,.int .i32 960,.int .i32 8800,.int .i32 163,.int .i32 183]:List Value).toArray) w):=by
 refine aV func368 ntmps368 ?_;refine ah ?_;intro b c d;refine aS ?_;refine zr (out:=[.int .i32 9670,.int .i32 9618,.int .i32 9225,.int .i32 9228,.int .i32 9229,.int .i32 9226,.int .i32 176,.int .i32 177,.int .i32 9252,.int .i32 9227,.int .i32 9496,.int .i32 9488,.int .i32 9484,.int .i32 9492,.int .i32 9532,.int .i32 9146,.int .i32 9147,.int .i32 9472,.int .i32 9148,.int .i32 9149,.int .i32 9500,.int .i32 9508,.int .i32 9524,.int .i32 9516,.int .i32 9474,.int .i32 8804,.int .i32 8805,.int .i32 960,.int .i32 8800,.int .i32 163,.int .i32 183]) MH rfl rfl (by simp[hF,putAt,df,Value.cells,ff]) ?_;refine e3 MG rfl rfl cA bc (aI.cons rfl (aI.cons rfl (aI.cons rfl (aI.cons rfl (aI.cons rfl (aI.cons rfl (aI.cons rfl (aI.cons rfl (aI.cons rfl (aI.cons rfl (aI.cons rfl (aI.cons rfl (aI.cons rfl (aI.cons rfl (aI.cons rfl (aI.cons rfl (aI.cons rfl (aI.cons rfl (aI.cons rfl (aI.cons rfl (aI.cons rfl (gg rfl rfl rfl rfl rfl rfl rfl rfl rfl rfl)))))))))))))))))))))) (dV rfl) ?_;refine aS ?_;intro e a;exact⟨rfl,a.ext⟩
theorem yb (q:Nat) (h:q≤30): ([.int .i32 9670,.int .i32 9618,.int .i32 9225,.int .i32 9228,.int .i32 9229,.int .i32 9226,.int .i32 176,.int .i32 177,.int .i32 9252,.int .i32 9227,.int .i32 9496,.int .i32 9488,.int .i32 9484,.int .i32 9492,.int .i32 9532,.int .i32 9146,.int .i32 9147,.int .i32 9472,.int .i32 9148,.int .i32 9149,.int .i32 9500,.int .i32 9508,.int .i32 9524,.int .i32 9516,.int .i32 9474,.int .i32 8804,.int .i32 8805,.int .i32 960,.int .i32 8800,.int .i32 163,.int .i32 183]:List Value)[q]? = some (.int .i32 ((rt[q]?).getD 0)):=by
 have e: ([.int .i32 9670,.int .i32 9618,.int .i32 9225,.int .i32 9228,.int .i32 9229,.int .i32 9226,.int .i32 176,.int .i32 177,.int .i32 9252,.int .i32 9227,.int .i32 9496,.int .i32 9488,.int .i32 9484,.int .i32 9492,.int .i32 9532,.int .i32 9146,.int .i32 9147,.int .i32 9472,.int .i32 9148,.int .i32 9149,.int .i32 9500,.int .i32 9508,.int .i32 9524,.int .i32 9516,.int .i32 9474,.int .i32 8804,.int .i32 8805,.int .i32 960,.int .i32 8800,.int .i32 163,.int .i32 183]:List Value)=rt.map (Value.int .i32):=rfl
 have b:rt.length=31:=rfl
 obtain⟨v,a⟩ : ∃v,rt[q]? = some v:=⟨rt[q]'aa,bE _⟩;rw[e,eD,a];rfl
theorem SJ (k r:Int) (h:k=65∧r=35):o9 k r=163:=aw h
theorem SK (k r:Int) (h:k=48∧r=95):o9 k r=32:=by unfold o9;rw[ag aa,aw h]
theorem SL (k:Int) (q:Nat) (h:k=48) (a:q≤30):o9 k (96+(q:Int))=(rt[q]?).getD 0:=by unfold o9;rw[ag aa,ag aa,aw aa,show (96+(q:Int) - 96).toNat=q by omega]
theorem yc (k r:Int) (a: ¬(k=65∧r=35)) (b: ¬(k=48∧r=95)) (c: ¬(k=48∧96≤r∧r≤126)):o9 k r=r:=by unfold o9;rw[ag a,ag b,ag c]
theorem SM (w:World) (k r:Int):Calls prog 302 [.int .i64 k,.int .i32 r].toArray w (Pure (.int .i32 (o9 k r)) w):=by
 refine aV func302 ntmps302 ?_;refine bx ?_;refine aW 8 rfl (λf=>?_) (λf=>?_);have u:=aX f
 refine aK ?_;refine aj (λaH=>?_) (λaH=>?_);refine aJ ?_;intro b a;exact⟨by rw[SJ _ _ aa],a.ext⟩;refine ay ?_;refine aW 15 rfl (λg=>?_) (λg=>?_);have v:=aX g
 refine aK ?_;refine aj (λx=>?_) (λx=>?_);refine aJ ?_;intro b a
 (exfalso;omega)
 refine ay ?_;refine aW 22 rfl (λh=>?_) (λh=>?_);have y:=aX h
 refine al ?_;refine aW 26 rfl (λi=>?_) (λi=>?_);have z:=aX i
 refine aK ?_;refine aj (λA=>?_) (λA=>?_);refine ar ?_;obtain⟨q,d⟩ : ∃q:Nat,r=96+(q:Int):=⟨(r - 96).toNat,aa⟩;have c:q≤30:=by omega
 subst d;refine ar ?_;refine ao rfl xb rfl (λe j=>ya e) ?_;refine ar ?_;refine gS rfl rfl rfl (uS aa aa) ?_;refine lT (q:=q) underlying395 jC rfl rfl rfl aa aa (yb q c) ?_;refine aC ?_;intro b a
 (exfalso;omega)
 refine bp ?_;intro b a
 (exfalso;omega)
 have z:=bd i
 refine eR ?_;intro b a
 (exfalso;omega)
 have y:=bd h
 refine kA ?_;intro b a
 (exfalso;omega)
 have v:=bd g
 refine bx ?_;refine aW 22 rfl (λl=>?_) (λl=>?_);have B:=aX l
 refine al ?_;refine aW 26 rfl (λm=>?_) (λm=>?_);have C:=aX m
 refine aK ?_;refine aj (λD=>?_) (λD=>?_);refine ar ?_;obtain⟨q,d⟩ : ∃q:Nat,r=96+(q:Int):=⟨(r - 96).toNat,aa⟩;have c:q≤30:=by omega
 subst d;refine ar ?_;refine ao rfl xb rfl (λe j=>ya e) ?_;refine ar ?_;refine gS rfl rfl rfl (uS aa aa) ?_;refine lT (q:=q) underlying395 jC rfl rfl rfl aa aa (yb q c) ?_;refine aC ?_;intro b a
 (exfalso;omega)
 refine bp ?_;intro b a
 (exfalso;omega)
 have C:=bd m
 refine eR ?_;intro b a
 (exfalso;omega)
 have B:=bd l
 refine kA ?_;intro b a;exact⟨by rw[yc _ _ aa aa aa],a.ext⟩;have u:=bd f
 refine bx ?_;refine aW 15 rfl (λn=>?_) (λn=>?_);have E:=aX n
 refine aK ?_;refine aj (λF=>?_) (λF=>?_);refine aJ ?_;intro b a;exact⟨by rw[SK _ _ aa],a.ext⟩;refine ay ?_;refine aW 22 rfl (λo=>?_) (λo=>?_);have G:=aX o
 refine al ?_;refine aW 26 rfl (λp=>?_) (λp=>?_);have H:=aX p
 refine aK ?_;refine aj (λI=>?_) (λI=>?_);refine ar ?_;obtain⟨q,d⟩ : ∃q:Nat,r=96+(q:Int):=⟨(r - 96).toNat,aa⟩;have c:q≤30:=by omega
 subst d;refine ar ?_;refine ao rfl xb rfl (λe j=>ya e) ?_;refine ar ?_;refine gS rfl rfl rfl (uS aa aa) ?_;refine lT (q:=q) underlying395 jC rfl rfl rfl aa aa (yb q c) ?_;refine aC ?_;intro b a;exact⟨by rw[SL _ _ aa c],a.ext⟩;refine bp ?_;intro b a;exact⟨by rw[yc _ _ aa aa aa],a.ext⟩;have H:=bd p
 refine eR ?_;intro b a;exact⟨by rw[yc _ _ aa aa aa],a.ext⟩;have G:=bd o
 refine kA ?_;intro b a
 (exfalso;omega)
 have E:=bd n
 refine bx ?_;refine aW 22 rfl (λs=>?_) (λs=>?_);have J:=aX s
 refine al ?_;refine aW 26 rfl (λt=>?_) (λt=>?_);have K:=aX t
 refine aK ?_;refine aj (λL=>?_) (λL=>?_);refine ar ?_;obtain⟨q,d⟩ : ∃q:Nat,r=96+(q:Int):=⟨(r - 96).toNat,aa⟩;have c:q≤30:=by omega
 subst d;refine ar ?_;refine ao rfl xb rfl (λe j=>ya e) ?_;refine ar ?_;refine gS rfl rfl rfl (uS aa aa) ?_;refine lT (q:=q) underlying395 jC rfl rfl rfl aa aa (yb q c) ?_;refine aC ?_;intro b a
 (exfalso;omega)
 refine bp ?_;intro b a
 (exfalso;omega)
 have K:=bd t
 refine eR ?_;intro b a
 (exfalso;omega)
 have J:=bd s
 refine kA ?_;intro b a;exact⟨by rw[yc _ _ aa aa aa],a.ext⟩
theorem SN (c:fZ) (q:Nat) (h:q≤3): (c.enc)[0+0+q*1]? = some (.int .i64 (Bp c q)):=by
 rcases q with _ | _ | _ | _ | q
 rfl
 rfl
 rfl
 rfl
 omega
theorem SO (w:World) (c:fZ) (r:Int):Calls prog 214 [.agg c.enc.toArray,.int .i32 r].toArray w (Pure (.tuple #[.int .i32 (ru c r).1,.agg (ru c r).2.enc.toArray]) w):=by
 have g:=SH c
 obtain⟨q,b⟩ : ∃q:Nat,l8 c=(q:Int):=⟨(l8 c).toNat,aa⟩;refine aV func214 ntmps214 ?_;refine ah ?_;intro h i j;refine aq ?_;intro k l m;refine ay ?_;refine ao rfl OG rfl (λa d=>SI a c) ?_;refine ar ?_;refine ds (q:=q) underlying126 jD rfl rfl rfl b aa ?_;refine a_ (v:= .int .i64 (Bp c q)) bN rfl rfl (λn e=>af.eP (xs:=c.enc) e bJ (SN c q aa)) ?_;refine ar ?_;refine ao rfl OF rfl (λa d=>SM a _ r) ?_;refine aQ ?_;refine bF [0,1,2] 1 [[(3,true,[])]] ?_;refine bp ?_;refine ik results214 (cy.tmp rfl) (cy.eX lR rfl aT rfl rfl) (λo f=>?_);exact⟨by rw[ru,b];rfl,f.ext⟩
def vx (s:be) (r:Int):be:=rr { s with bg:={ s.bg with aF:=(ru s.bg.aF r).2 } } (ru s.bg.aF r).1
theorem SP (s:be) (r:Int):cS 2 s (vx s r):=((tm s _).trans (HK _ _)).mono aa
abbrev Bq (s:bl) (c:fZ):bl:={ s with bg:={ s.bg with aF:=c } }
theorem SQ (s:bl) (c:fZ):df (eZ s) (0+5) [.int .i64 c.fC,.int .i64 c.s1,.int .i64 c.s2,.int .i64 c.lp,.int .i64 c.use,.int .i64 c.j7]=eZ (Bq s c):=by
 simp only[df,eZ,dE,Nat.reduceAdd,qM,mE]
theorem SR (w:World) (s:bl) (k:a8 w (aO s)) (d:dR s) (b:dX s.abs) (p:s.ap.bf.l.length≤1152910000000) (r:Int):
 Calls prog 164 [ptr s.g,.int .i32 r].toArray w (eo s (.tuple #[]) (vx s.abs r) w):=by
 obtain⟨c,f⟩ : ∃c,c=(ru s.bg.aF r).2:=⟨_,rfl⟩;obtain⟨fg,h⟩ : ∃c,c=(ru s.bg.aF r).1:=⟨_,rfl⟩;refine bI func164 ntmps164 k ?_;refine eL ?_;refine ao rfl N9 rfl (λe i=>by have j:=SO e s.bg.aF r;rw[←f,←h] at j;exact j) ?_;refine aQ ?_;rw[SQ];refine ah ?_;refine a6 (l0:=aO (Bq s c)) ae rfl E0 rfl (λe i=>HL e (Bq s c) (i.bo ae) ⟨d.r,d.st,d.n⟩ ⟨b.bD,b.y,b.x,b.top⟩ (by show s.ap.bf.l.length≤_;omega) fg) (λm a=>?_);refine aq ?_;intro q o;exact aN m ⟨a.g,a.ap,a.st,a.wf,by rw[vx,show s.abs.bg.aF=s.bg.aF from rfl,←f,←h];exact a.abs⟩ o
def ls:gH:=⟨⟨0,0,0,0,0⟩,vw,false,true,false⟩
def yd (s:fZ) (c:Int):fZ:=if c=14 then { s with use:=1 } else if c=15 then { s with use:=0 } else s
def tu (s:fZ) (c:Int):fZ:=if c=110 then { s with use:=2 } else if c=111 then { s with use:=3 } else if c=78 then { s with j7:=2 } else if c=79 then { s with j7:=3 } else s
theorem SS (w:World):Calls prog 155 [].toArray w (Pure (.agg vw.enc.toArray) w):=by
 refine aV func155 ntmps155 ?_;refine ah ?_;intro b c d;refine bp ?_;intro e a;exact⟨rfl,a.ext⟩
theorem Br (w:World):Calls prog 110 [].toArray w (Pure (.agg ls.enc.toArray) w):=by
 refine aV func110 ntmps110 ?_;refine ah ?_;intro c d e;refine aS ?_;refine ao rfl NN rfl (λa f=>SS a) ?_;refine ar ?_;refine ks (out:=ls.enc) Mt rfl rfl (by simp[hF,putAt,df,Value.cells,ls,vw]) ?_;refine e3 q4 rfl rfl cA bc (aI.cons rfl (aI.cons rfl (aI.cons rfl (aI.cons rfl (gg rfl rfl rfl rfl rfl rfl rfl rfl rfl rfl))))) (dV rfl) ?_;refine aS ?_;intro g b;exact⟨rfl,b.ext⟩
theorem HY (w:World) (c:fZ) (b:Int):Calls prog 171 [.agg c.enc.toArray,.int .u8 b].toArray w (Pure (.agg (yd c b).enc.toArray) w):=by
 refine aV func171 ntmps171 ?_;refine ah ?_;intro f g h;refine ar ?_;intro i j k;refine cF ?_;refine aj (λe=>?_) (λe=>?_);refine b7 ?_;intro d a;exact⟨by unfold yd;(rw[aw aa];rfl),a.ext⟩;refine al ?_;refine aj (λaH=>?_) (λaH=>?_);refine b7 ?_;intro d a;exact⟨by unfold yd;(rw[ag aa,aw aa];rfl),a.ext⟩;refine bp ?_;intro d a;exact⟨by unfold yd;(rw[ag aa,ag aa];rfl),a.ext⟩
theorem ye (w:World) (c:fZ) (b:Int):Calls prog 228 [.agg c.enc.toArray,.int .u8 b].toArray w (Pure (.agg (tu c b).enc.toArray) w):=by
 refine aV func228 ntmps228 ?_;refine ah ?_;intro h i j;refine ar ?_;intro k l m;refine cF ?_;refine aj (λe=>?_) (λe=>?_);refine b7 ?_;intro d a;exact⟨by unfold tu;(rw[aw aa];rfl),a.ext⟩;refine al ?_;refine aj (λaH=>?_) (λaH=>?_);refine b7 ?_;intro d a;exact⟨by unfold tu;(rw[ag aa,aw aa];rfl),a.ext⟩;refine al ?_;refine aj (λf=>?_) (λf=>?_);refine b7 ?_;intro d a;exact⟨by unfold tu;(rw[ag aa,ag aa,aw aa];rfl),a.ext⟩;refine al ?_;refine aj (λg=>?_) (λg=>?_);refine b7 ?_;intro d a;exact⟨by unfold tu;(rw[ag aa,ag aa,ag aa,aw aa];rfl),a.ext⟩;refine bp ?_;intro d a;exact⟨by unfold tu;(rw[ag aa,ag aa,ag aa,ag aa];rfl),a.ext⟩
def rv:gH:=⟨⟨0,0,0,0,0⟩,⟨0,0,0,0,0,0⟩,false,false,false⟩
def HZ (s:be):be:=vn { s with bg:=ls,f_:=rv,kG:=0,kH:=0,has:=false,last:=0 }
theorem ST (s:be):cS 0 s (HZ s):=by
 have a:cS 0 s { s with bg:=ls,f_:=rv,kG:=0,kH:=0,has:=false,last:=0 }:=⟨λw=>⟨w.bD,w.y,w.x,w.top⟩,rfl,rfl,rfl,bW _⟩
 exact a.trans (HQ _)
theorem H0 (s:bl) (p:gH):df (eZ s) (0+0) p.enc=eZ { s with bg:=p }:=Sy s p
theorem SU (s:bl) (p:gH) (y x:Int):df (eZ s) (0+20) (p.enc++[.int .i64 y,.int .i64 x])=eZ { s with f_:=p,kG:=y,kH:=x }:=HW s p y x
abbrev SV (s:bl):bl:={ s with bg:=ls,f_:=rv,kG:=0,kH:=0,has:=false,last:=0 }
theorem SW (w:World) (s:bl) (e:a8 w (aO s)) (b:dR s) (f:c7 s.ap.abs):
 Calls prog 243 [ptr s.g].toArray w (eo s (.tuple #[]) (HZ s.abs) w):=by
 refine bI func243 ntmps243 e ?_;refine bH ?_;refine ao rfl zU rfl (λc d=>Br c) ?_;refine ks (out:=rv.enc++[.int .i64 0,.int .i64 0]) zD rfl rfl rfl ?_;refine aq ?_;refine e3 q4 rfl rfl cA bc (aI.cons rfl (aI.cons rfl (aI.cons rfl (aI.cons rfl (gg rfl rfl rfl rfl rfl rfl rfl rfl rfl rfl))))) (dV rfl) ?_;refine aq ?_;rw[H0];refine e3 uH rfl rfl cA bc (aI.cons rfl (aI.cons rfl (aI.cons rfl (aI.cons rfl (aI.cons rfl (aI.cons rfl (gg rfl rfl rfl rfl rfl rfl rfl rfl rfl rfl))))))) (dV rfl) ?_;refine aq ?_;rw[SU];refine aK ?_;refine cJ (λc d=>vo c (SV s) d ⟨b.r,b.st,b.n⟩ f) (λh a=>?_);refine aq ?_;intro j i;exact aN h ⟨a.g,a.ap,a.st,a.wf,by rw[a.abs];rfl⟩ i
def tv (s:be):gH × Int × Int:=if s.has=true then (s.f_,s.kG,s.kH) else (ls,0,0)
def SX (s:be) (p:gH):be:={ s with bg:={ s.bg with at_:=p.at_,aF:=p.aF,home:=p.home } }
def Bs (s:be):be:=x6 (SX s (tv s).1) (tv s).2.1 (tv s).2.2
theorem SY (s:be):cS 0 s (Bs s):=(tm s _).trans (x7 _ _ _)
abbrev o_ (k:gH × Int × Int):List Value:=k.1.enc++[.int .i64 k.2.1,.int .i64 k.2.2]
theorem H1 (a b c d e f g h i j l m n o p q:Value) (k:gH × Int × Int):df [a,b,c,d,e,f,g,h,i,j,l,m,n,o,p,q] 0 (o_ k)=o_ k:=by
 simp only[df,o_,gH.enc,my,lO,dE,Nat.reduceAdd,qM,mE]
theorem SZ (j k:gH × Int × Int):df (o_ j) 0 (o_ k)=o_ k:=H1 _ _ _ _ _ _ _ _ _ _ _ _ _ _ _ _ k
abbrev S0 (s:bl) (p:gH):bl:={ s with bg:={ s.bg with at_:=p.at_,aF:=p.aF,home:=p.home } }
theorem S1 (w:World) (s:bl) (m:a8 w (aO s)) (b:dR s) (o:dX s.abs):
 Calls prog 315 [ptr s.g].toArray w (eo s (.tuple #[]) (Bs s.abs) w):=by
 refine bI func315 ntmps315 m ?_;refine aC ?_;refine b1 rfl (λf=>?_) (λf=>?_);exact Bool.noConfusion f;refine aS ?_;refine ao rfl zU rfl (λc i=>Br c) ?_;refine ks (out:=o_ (ls,0,0)) zD rfl rfl (by simp[hF,putAt,df,Value.cells,ls,vw]) ?_;refine ar ?_;intro l x y;refine e3 uH rfl rfl cA bc (aI.cons rfl (aI.cons rfl (aI.cons rfl (aI.cons rfl (aI.cons rfl (aI.cons rfl (gg rfl rfl rfl rfl rfl rfl rfl rfl rfl rfl))))))) (dV rfl) ?_;refine bp ?_;rw[H1];refine hL (λ_:gH × Int × Int=>[(0,ptr s.g),(2,ptr l)]) (λk=>af w (aB (aO s)) [s.an,aD l (o_ k) 135,s.ap.an,aR (cc s.ap.r),s.ap.s.au,s.ap.s.b9,s.ap.bf.au,s.st.aF]) (λk=>k=tv s.abs) ?_ ?_;refine b1 rfl (λd=>?_) (λd=>?_);refine aS ?_;refine cx (vs:=o_ (s.f_,s.kG,s.kH)) uH rfl rfl rfl (λz p j u q=>af.k6 (sz:=16) (xs:=eZ s) p bJ rfl j u q) ?_;refine e3 uH rfl rfl cA bc (aI.cons rfl (aI.cons rfl (aI.cons rfl (aI.cons rfl (aI.cons rfl (aI.cons rfl (gg rfl rfl rfl rfl rfl rfl rfl rfl rfl rfl))))))) (dV rfl) ?_;refine ar ?_;rw[SZ];exact dr (s.f_,s.kG,s.kH) (by rw[tv,aw (by exact d)];rfl) bR (λ_ h=>h.ax ae);refine ar ?_;exact dr (ls,0,0) (by rw[tv,ag (by rw[show s.abs.has=s.has from rfl,d];decide)]) bR (λ_ h=>h.ax ae);rintro k t;refine aq ?_;refine eF [0,1,2,3,4,5,6,7,8,9,10,11,12,13,14,15] 3 [[(16,false,[17,18,19]),(20,false,[21,22,23,24]),(25,false,[])]] (_) mixed ab (λ_ e=>e.drew) (λ_ h=>h.rem bw.head) ?_;refine eL ?_;refine b3 (λ_=>True) (λ_ h=> .inr (h.rem bw.head)) (λ_ h=>a1) ?_;refine al ?_;refine b3 (λ_=>True) (λ_ h=> .inr ⟨.inr (h.rem bw.head),dp⟩) (λ_ h=>a1) ?_;refine aC ?_;refine b3 (λ_=>True) (λ_ h=> .inr ⟨.inr ⟨.inr (h.rem bw.head),dp⟩,dp⟩) (λ_ h=>a1) ?_;refine aJ ?_;refine cJ (λc i=>x8 c (S0 s k.1) i ⟨b.r,b.st,b.n⟩ o.bD k.2.1 k.2.2) (λv a=>?_);refine aq ?_;intro A e;exact aN v ⟨a.g,a.ap,a.st,a.wf,by rw[Bs,←t];exact a.abs⟩ e
theorem yf (w:World) (s:bl) (a:s.an.pred w):Calls prog 223 [ptr s.g].toArray w (Pure (ptr s.st.g) w):=by
 refine aV func223 ntmps223 ?_;refine hq ?_;refine a_ zC rfl rfl (λd b=>b.bU a (by (simp;done)) rfl) ?_;refine ay ?_;intro e c;exact⟨rfl,c.ext⟩
end Go.Proofs.YtlgnfdodnhokjaaGreatDoor.Mq
