/- part 17 of the proof -/
import Derived.Test.YtoghoobfpcadbaaGreatDoorQ16
namespace Go.Proofs.YtoghoobfpcadbaaGreatDoor.Mq
open Go Go.RowKit Go.Proofs Tryz
def oS (s:bd):bd:=
 let s:={ s with x:=fx s }
 if s.y=s.top then gn s (λp=>hS p s.top s.cQ 1 (λp a b=>oO p a b (an s) (aM s)))
 else if 0<s.y then { s with y:=s.y - 1 } else s
theorem Rn (s:bd):cR 2 s (oS s):=by
 have c:cR 0 s { s with x:=fx s }:=oR s (λw=>xM w)
 unfold oS;dsimp only;split
 exact (c.trans (hV { s with x:=fx s } (f:=λp=>hS p s.top s.cQ 1 (λp a b=>oO p a b (an s) (aM s))) (xN s.bE _ _ (λq a b d e=>rf q d e _ _)))).mono aa;split
 exact (c.trans (GX _ (λw=>by have:=w.y;simp only[bd.rows] at *;omega))).mono aa;exact c.mono aa
theorem Ro {s:bl} (h:s.y=s.top):oS s.abs= { (hv s).abs with bE:=hS s.ap.abs s.top s.cQ 1 (λq a b=>oO q a b s.bf.at_.an s.bf.at_.aM) }:=by
 unfold oS;exact ay h
theorem Rp {s:bl} (h: ¬s.y=s.top) (a:0<s.y):oS s.abs= { hv s with y:=s.y - 1 }.abs:=by
 unfold oS;exact (ag h).trans (ay a)
theorem Rq {s:bl} (h: ¬s.y=s.top) (a: ¬0<s.y):oS s.abs=(hv s).abs:=by
 unfold oS;exact (ag h).trans (ag a)
theorem Rr (w:World) (s:bl) (m:a8 w (aP s)) (c:dT s) (i:d4 s.abs) (o:s.ap.be.l.length≤1152921500000):
 Calls prog 231 [ptr s.g].toArray w (ej s (.tuple #[]) (oS s.abs) w):=by
 obtain⟨x,p,z,A,j⟩:=i.nums;refine bC func231 ntmps231 m ?_;refine b_ ?_;refine ao rfl jb rfl (λe d=>jl e s (d.has aQ) (d.has bH) p) ?_;refine aD ?_;refine bF [0,1,2,3,4,5,6,7,8,9] 0 [[]] ?_;refine bI ?_;refine aj (λh=>?_) (λh=>?_);refine bF [0,1,2,3,4,5,6,7,8,9,10,11,12] 2 [[(13,false,[]),(14,true,[])]] ?_;refine cI ?_;refine ao rfl k8 rfl (λe d=>lp e (hv s) (d.has aQ)) ?_;refine ah ?_;refine cE (λe d=>A0 e s.ap d c.r i.bE o s.top s.cQ 1 s.bf.at_.an s.bf.at_.aM) (λt u=>?_);refine ax ?_;intro k f;exact kE (hv s) t ⟨rfl,rfl,rfl⟩ ⟨c.r,c.st,c.n⟩ u (xN s.ap.abs s.top s.cQ (λq a b v j=>rf q v j s.bf.at_.an s.bf.at_.aM)).cols (by rw[Ro h]) rfl f ae;refine aR ?_;refine aj (λaK=>?_) (λaK=>?_);refine bB ?_;intro k f;exact e6 { hv s with y:=s.y - 1 } ⟨rfl,rfl,rfl⟩ ⟨c.r,c.st,c.n⟩ (by rw[Rp h aa]) rfl f ae;refine ah ?_;intro k f;exact e6 (hv s) ⟨rfl,rfl,rfl⟩ ⟨c.r,c.st,c.n⟩ (by rw[Rq h aa]) rfl f ae
def nJ (s:bd):bd:=if s.x<s.cols then gn s (λp=>xy p s.y) else s
def oT (s:bd):bd:=if (iQ s).2=true then gn { (iQ s).1 with x:=0 } (λp=>iL p (iQ s).1.y true) else { (iQ s).1 with x:=0 }
theorem s3 (s:bd) (w:Int):j2 s w=if s.x+w≤s.cols then s else if s.bf.wrap=false then { s with x:=s.cols - w } else oT (nJ s):=rfl
theorem G2 (s:bd):cR 0 s (nJ s):=by
 unfold nJ;split
 exact hV s (GA s.bE s.y);exact cR.refl s
theorem Rs (s:bd):cR 2 s (oT s):=by
 have a:=(s0 s).trans (oR (x:=0) _ (λh=>by have:=h.bE.cols;simp only[bd.cols] at *;omega))
 unfold oT;split
 exact (a.trans (hV _ (lW _ _ true))).mono aa;exact a.mono aa
theorem Rt (s:bd): (oT s).x=0:=by
 unfold oT;split <;> rfl
theorem A5 (s:bd) (w:Int) (a:0≤w∧w≤2):cR 2 s (j2 s w):=by
 rw[s3];split
 exact (cR.refl s).mono aa;split
 exact (oR s (λh=>by have:=h.bE.cols;have:=h.x;simp only[bd.cols] at *;omega)).mono aa;exact ((G2 s).trans (Rs _)).mono aa
theorem G3 (s:bd) (w:Int) (a:0≤w∧w≤2) (h:d4 s): (j2 s w).x+w≤s.cols∧0≤(j2 s w).x:=by
 have b:=h.bE.cols
 have c:=h.x
 rw[s3];simp only[bd.cols] at *
 split
 omega
 split
 show s.bE.cols - w+w≤_∧0≤s.bE.cols - w;omega
 rw[Rt];omega
theorem hU.fits {s z:bl} {q:bd} {k:Nat} (h:hU s q z) (b:cR k s.abs q) (c:d4 s.abs):d4 z.abs∧z.ap.be.l.length≤s.ap.be.l.length+k:=by
 have a:=b.be
 rw[←h.abs] at a
 simp only[bl.abs,bq.abs,cT] at a
 exact⟨by rw[h.abs];exact b.wf c,a⟩
theorem xO {s:bl} {q:b4} {Q:bd} {i:bq} (t:bl) (a:t.g=s.g∧t.ap.g=s.ap.g∧t.st.g=s.st.g) (b:dT t) (hi:i.g=t.ap.g∧cU i.r∧i.abs=q) (d:q.cols=t.ap.cols) (e: { t.abs with bE:=q } = Q):hU s Q { t with ap:=i }:=by
 obtain⟨f,h,c⟩:=hi;refine⟨a.1,f.trans a.2.1,a.2.2,⟨h,b.st,?_⟩,?_⟩;have:i.cols=q.cols:=by rw[←c];rfl
 rw[b.n,←d,←this];rw[←e];simp only[bl.abs,c]
theorem s4 {t:bl} {i:bq} (a:i.g=t.ap.g):aP { t with ap:=i } = [t.an,i.an,aU (cd i.r),i.s.au,i.s.cj,i.be.au,t.st.aG]:=by
 simp only[aP,bl.an,eT,a]
theorem Ru (w:World) (s:bl) (B:a8 w (aP s)) (e:dT s) (o:d4 s.abs) (G:s.ap.be.l.length≤1152921000000) (n:Int) (H:1≤n∧n≤2):
 Calls prog 319 [ptr s.g,.int .i64 n].toArray w (ej s (.tuple #[]) (j2 s.abs n) w):=by
 obtain⟨I,J,K,L,M⟩:=o.nums;refine bC func319 ntmps319 B ?_;refine aq ?_;refine bF [0,1,2,3,4,5,6] 1 [[(7,false,[8])]] ?_;refine aJ ?_;refine ao rfl jB rfl (λc b=>j4 c s s.ap rfl (b.has aQ) (b.has bH)) ?_;refine ax ?_;refine aj (λj=>?_) (λj=>?_);refine ah ?_;intro p f;exact e6 s ⟨rfl,rfl,rfl⟩ e (by rw[s3,ay (by exact j)]) rfl f ae;refine b_ ?_;refine b6 rfl (λm=>?_) (λm=>?_);refine aS ?_;refine ao rfl jB rfl (λc b=>j4 c s s.ap rfl (b.has aQ) (b.has bH)) ?_;refine aR ?_;intro p f;exact e6 { s with x:=s.ap.cols - n } ⟨rfl,rfl,rfl⟩ ⟨e.r,e.st,e.n⟩ (by rw[s3,ag (by exact j),ay (by have k:s.bf.wrap=false:=(by simpa using m);exact k)];rfl) rfl f ae;refine aS ?_;refine bF [0,1,2,3,4] 1 [[(5,false,[6])]] ?_;refine aD ?_;refine ao rfl jB rfl (λc b=>j4 c s s.ap rfl (b.has aQ) (b.has bH)) ?_;refine ax ?_;refine hK (λz:bl=>[(0,ptr z.g),(1,.int .i64 n)]) (λz=>af w (aA (aP s)) (aP z)) (λz=>hU s (nJ s.abs) z) ?_ ?_;refine aj (λq=>?_) (λq=>?_);refine bF [0,1,2,3,4,5,6,7] 1 [[(8,true,[])]] ?_;refine aR ?_;refine cE (λc b=>Qs c s.ap b e.r o.bE s.y) (λC A=>?_);refine ah ?_;exact dw { s with ap:=C } (xO s ⟨rfl,rfl,rfl⟩ e A (GA s.ap.abs s.y).cols (by rw[nJ,ay (by exact q)];rfl)) bR (λ_ h=>by rw[s4 A.1];exact h.aw ae);refine ar ?_;exact dw s ⟨rfl,rfl,rfl,e,by rw[nJ,ag (by exact q)]⟩ bR (λ_ h=>h);rintro z d;obtain⟨t,N⟩:=d.fits (G2 s.abs) o;obtain⟨O,P,Q,R,S⟩:=t.nums;refine aS ?_;refine aY (l0:=aP z) ae rfl EI rfl (λc b=>G1 c z (b.bo ae) d.wf t aa) (λi a=>?_);refine aS ?_;obtain⟨D,T⟩:=a.fits (s0 z.abs) t;rw[←a.g];refine bB ?_;refine b6 rfl (λu=>?_) (λu=>?_);refine bF [0,1,2,3,4,5,6,7] 1 [[(8,true,[])]] ?_;refine aR ?_;refine cE (λc b=>Qk c i.ap b a.wf.r D.bE i.y) (λE F=>?_);refine aS ?_;intro p f;have v:j2 s.abs n=oT z.abs:=by rw[s3,ag (by exact j),ag (by have k: ¬s.bf.wrap=false:=(by simpa using m);exact k),d.abs]
 exact kE { i with x:=0 } E ⟨a.g.trans d.g,a.ap.trans d.ap,a.st.trans d.st⟩ ⟨a.wf.r,a.wf.st,a.wf.n⟩ F (lW i.ap.abs i.y true).cols (by rw[v,oT,ay u,←a.abs];rfl) rfl f ae;refine aq ?_;intro p f;have v:j2 s.abs n=oT z.abs:=by rw[s3,ag (by exact j),ag (by have k: ¬s.bf.wrap=false:=(by simpa using m);exact k),d.abs]
 exact e6 { i with x:=0 } ⟨a.g.trans d.g,a.ap.trans d.ap,a.st.trans d.st⟩ ⟨a.wf.r,a.wf.st,a.wf.n⟩ (by rw[v,oT,ag (by rw[u];decide),←a.abs];rfl) rfl f ae
def iR (s:bd) (r:Int):bd:=if dC r=0 then gn s (λp=>xx p s.y (s.x - 1) r) else s
def kF (s:bd) (w:Int):bd:=if s.bf.put=true then gn s (λp=>u1 p s.y s.x w (an s) (aM s)) else s
def A6 (s:bd) (r w:Int):bd:={ gn s (λp=>u0 p s.y s.x r s.bf.at_) with x:=s.x+w,last:=r }
theorem xP (s:bd) (r:Int):rg s r=if dC r<1 then iR s r else A6 (kF (j2 (iR s r) (dC r)) (dC r)) r (dC r):=rfl
theorem xQ (s:bd) (r:Int):cR 0 s (iR s r):=by
 unfold iR;split
 exact hV s (Gz s.bE _ _ _);exact cR.refl s
theorem A7 (s:bd) (w:Int):cR 0 s (kF s w):=by
 unfold kF;split
 exact hV s (xF s.bE _ _ _ _ _);exact cR.refl s
theorem Rv (s:bd) (w:Int): (kF s w).x=s.x:=by
 unfold kF;split <;> rfl
theorem Rw (s:bd) (r w:Int) (h:d4 s→0≤s.x+w∧s.x+w≤s.cols):cR 0 s (A6 s r w):=by
 have a:=hV s (u6 s.bE s.y s.x r s.bf.at_)
 exact⟨λk=>⟨(a.wf k).bE,(a.wf k).y,by have:=h k;have e:=a.cols;show 0≤s.x+w∧s.x+w≤(u0 s.bE s.y s.x r s.bf.at_).cols;rw[(u6 s.bE s.y s.x r s.bf.at_).cols];exact this,(a.wf k).top⟩,a.rows,a.cols,a.room,a.be⟩
theorem G4 (r:Int) (h: ¬dC r<1):1≤dC r∧dC r≤2:=by
 rcases AH r with e | e | e | e <;> omega
theorem G5 (s:bd) (r:Int):cR 2 s (rg s r):=by
 rw[xP];split
 ·exact (xQ s r).mono aa
 ·rename_i h
  have c:=G4 r h
  have d:=(xQ s r).trans (A5 (iR s r) (dC r) ⟨aa,c.2⟩)
  have a:=d.trans (A7 _ (dC r))
  refine⟨λk=>?_,?_,?_,?_,?_⟩
  ·have f:=(xQ s r).wf k
   have g:=G3 (iR s r) (dC r) ⟨aa,c.2⟩ f
   exact (Rw _ r (dC r) (λ_=>by
    rw[Rv];have e: (kF (j2 (iR s r) (dC r)) (dC r)).cols=(iR s r).cols:=((A5 (iR s r) (dC r) ⟨aa,c.2⟩).trans (A7 _ (dC r))).cols
    rw[e];omega)).wf (a.wf k)
  all_goals
   have b:=hV (kF (j2 (iR s r) (dC r)) (dC r)) (u6 (kF (j2 (iR s r) (dC r)) (dC r)).bE (kF (j2 (iR s r) (dC r)) (dC r)).y (kF (j2 (iR s r) (dC r)) (dC r)).x r (kF (j2 (iR s r) (dC r)) (dC r)).bf.at_)
  ·exact (a.trans b).rows
  ·exact (a.trans b).cols
  ·exact (a.trans b).room
  ·exact ((a.trans b).mono aa).be
theorem G6 (w:World) (s:bl) (D:a8 w (aP s)) (k:dT s) (m:d4 s.abs) (L:s.ap.be.l.length≤1152920000000) (r:Int):
 Calls prog 224 [ptr s.g,.int .i32 r].toArray w (ej s (.tuple #[]) (rg s.abs r) w):=by
 obtain⟨M,N,O,P,Q⟩:=m.nums;have R:=AH r
 refine bC func224 ntmps224 D ?_;refine ah ?_;refine ao rfl z1 rfl (λb d=>AJ b r) ?_;refine aR ?_;refine hK (λz:bl=>[(0,ptr z.g),(1,.int .i32 r),(4,.int .i64 (dC r))]) (λz=>af w (aA (aP s)) (aP z)) (λz=>hU s (iR s.abs r) z) ?_ ?_;refine aj (λo=>?_) (λo=>?_);refine bF [0,1,2,3,4,5,6,7,8,9,10,11,12,13] 1 [[(14,true,[])]] ?_;refine dx ?_;refine cE (λb d=>Qn b s.ap d k.r m.bE s.y (s.x - 1) r) (λE v=>?_);refine ah ?_;exact dw { s with ap:=E } (xO s ⟨rfl,rfl,rfl⟩ k v (Gz s.ap.abs _ _ _).cols (by rw[iR,ay o];rfl)) (ef rfl rfl rfl) (λ_ h=>by rw[s4 v.1];exact h.aw ae);refine ar ?_;exact dw s ⟨rfl,rfl,rfl,k,by rw[iR,ag o]⟩ bR (λ_ h=>h);rintro z c;obtain⟨i,S⟩:=c.fits (xQ s.abs r) m;obtain⟨T,U,V,W,X⟩:=i.nums;refine aL ?_;refine aj (λj=>?_) (λj=>?_);refine ah ?_;intro F p;exact aO.bQ z ⟨c.g,c.ap,c.st,c.wf,by rw[xP,ay j,c.abs]⟩ rfl p;have q:=G4 r j
 refine al ?_;refine aY (l0:=aP z) ae rfl N7 rfl (λb d=>Ru b z (d.bo ae) c.wf i aa (dC r) q) (λa e=>?_);refine aR ?_;obtain⟨A,Y⟩:=e.fits (A5 z.abs (dC r) ⟨aa,q.2⟩) i;have G:=G3 z.abs (dC r) ⟨aa,q.2⟩ i
 rw[←e.abs] at G
 rw[←e.g];refine ah ?_;refine hK (λu:bl=>[(0,ptr u.g),(1,.int .i32 r),(4,.int .i64 (dC r))]) (λu=>af w (aA (aP s)) (aP u)) (λu=>hU a (kF a.abs (dC r)) u) ?_ ?_;refine b6 rfl (λt=>?_) (λt=>?_);refine bF [0,1,2,3,4,5,6,7,8,9,10,11,12,13] 2 [[(14,false,[]),(15,true,[])]] ?_;refine dx ?_;refine ao rfl k8 rfl (λb d=>lp b a (d.has aQ)) ?_;refine ah ?_;refine cE (λb d=>Gg b a.ap d e.wf.r A.bE a.y a.x (dC r) a.bf.at_.an a.bf.at_.aM) (λH B=>?_);refine ah ?_;exact dw { a with ap:=H } (xO a ⟨rfl,rfl,rfl⟩ e.wf B (xF a.ap.abs _ _ _ _ _).cols (by rw[kF,ay (by exact t)];rfl)) (ef rfl rfl rfl) (λ_ h=>by rw[s4 B.1];exact h.aw ae);refine ar ?_;exact dw a ⟨rfl,rfl,rfl,e.wf,by rw[kF,ag (by rw[show a.abs.bf.put=a.bf.put from rfl,t];decide)]⟩ bR (λ_ h=>h);rintro u f;obtain⟨C,Z⟩:=f.fits (A7 a.abs (dC r)) A;obtain⟨Za,Zb,Zc,Zd,Ze⟩:=C.nums;refine aq ?_;refine bF [0,1,2,3,4,5,6,7,8,9,10,11,12,13,14,15,16,17] 1 [[(18,true,[])]] ?_;refine hr ?_;refine cE (λb d=>Gf b u.ap d f.wf.r C.bE u.y u.x r u.bf.at_) (λI J=>?_);refine sE ?_;intro F p;have K:rg s.abs r=A6 u.abs r (dC r):=by rw[xP,ag j,f.abs,e.abs,c.abs]
 exact kE { u with x:=u.x+dC r,last:=r } I ⟨(f.g.trans e.g).trans c.g,(f.ap.trans e.ap).trans c.ap,(f.st.trans e.st).trans c.st⟩ ⟨f.wf.r,f.wf.st,f.wf.n⟩ J (u6 u.ap.abs _ _ _ _).cols (by rw[K];rfl) rfl p ae
def s5 (s:bd) (y x:Int):bd:=
 if s.bf.home=true then { s with y:=s.top+fw y 0 (s.cQ - s.top),x:=fw x 0 (s.cols - 1) }
 else { s with y:=0+fw y 0 (s.rows - 1 - 0),x:=fw x 0 (s.cols - 1) }
theorem lq {n lo hi:Int} (h:lo≤hi):lo≤fw n lo hi∧fw n lo hi≤hi:=by unfold fw;omega
theorem xR (s:bd) {y x:Int} (h:d4 s→(0≤y∧y<s.rows)∧(0≤x∧x≤s.cols)):cR 0 s { s with y:=y,x:=x }:=⟨λw=>⟨w.bE,(h w).1,(h w).2,w.top⟩,rfl,rfl,rfl,by show s.bE.gd.length≤_;omega⟩
theorem G7 (s:bd) (y x:Int):cR 0 s (s5 s y x):=by
 unfold s5;split
 refine xR s (λw=>?_);have a:=w.top;have b:=w.bE.cols;have c:=w.bE.rows
 have d:=lq (n:=y) (lo:=0) (hi:=s.cQ - s.top) aa
 have e:=lq (n:=x) (lo:=0) (hi:=s.cols - 1) (by simp only[bd.cols];omega)
 simp only[bd.cols,bd.rows] at *
 omega
 refine xR s (λw=>?_);have a:=w.top;have b:=w.bE.cols;have c:=w.bE.rows
 have d:=lq (n:=y) (lo:=0) (hi:=s.rows - 1 - 0) (by simp only[bd.rows];omega)
 have e:=lq (n:=x) (lo:=0) (hi:=s.cols - 1) (by simp only[bd.cols];omega)
 simp only[bd.cols,bd.rows] at *
 omega
def G8 (s:bd):bd:={ s with x:=max 0 (fx s - 1) }
theorem Rx (s:bd):cR 0 s (G8 s):=oR s (λw=>by have:=xM w;have:=w.bE.cols;simp only[bd.cols] at *;omega)
theorem s6 (s:bd):cR 0 s { s with x:=0 }:=oR s (λw=>by have:=w.bE.cols;simp only[bd.cols] at *;omega)
theorem xS (w:World) (s:bl) (a:a8 w (aP s)) (b:dT s) (c:d4 s.abs) (j:s.ap.be.l.length≤1152920000000):
 Calls prog 163 [ptr s.g].toArray w (ej s (.tuple #[]) (iQ s.abs).1 w):=by
 refine bC func163 ntmps163 a ?_;refine aJ ?_;refine aY (l0:=aP s) ae rfl EI rfl (λd e=>G1 d s (e.bo ae) b c aa) (λf h=>?_);refine aq ?_;intro k i;exact aN f h i
theorem G9 (w:World) (s:bl) (b:a8 w (aP s)) (a:dT s):
 Calls prog 165 [ptr s.g].toArray w (ej s (.tuple #[]) { s.abs with x:=0 } w):=by
 refine bC func165 ntmps165 b ?_;refine b_ ?_;intro d c;exact e6 { s with x:=0 } ⟨rfl,rfl,rfl⟩ ⟨a.r,a.st,a.n⟩ rfl rfl c ae
theorem Ry (w:World) (s:bl) (c:a8 w (aP s)) (a:dT s) (d:d4 s.abs):
 Calls prog 161 [ptr s.g].toArray w (ej s (.tuple #[]) (G8 s.abs) w):=by
 obtain⟨i,e,j,k,l⟩:=d.nums;refine bC func161 ntmps161 c ?_;refine aR ?_;refine ao rfl jb rfl (λf b=>jl f s (b.has aQ) (b.has bH) e) ?_;refine aD ?_;intro m h;exact e6 { s with x:=max 0 (min s.x (s.ap.cols - 1) - 1) } ⟨rfl,rfl,rfl⟩ ⟨a.r,a.st,a.n⟩ rfl rfl h ae
theorem G_ (w:World) (s:bl) (f:a8 w (aP s)) (c:dT s) (h:d4 s.abs) (y x:Int):
 Calls prog 256 [ptr s.g,.int .i64 y,.int .i64 x].toArray w (ej s (.tuple #[]) (s5 s.abs y x) w):=by
 obtain⟨k,m,o,p,q⟩:=h.nums;have i:=lY s
 have t:=lq (n:=y) (lo:=0) (hi:=s.cQ - s.top) aa
 have u:=lq (n:=y) (lo:=0) (hi:=(s.ap.s.l.length:Int) - 1 - 0) aa
 refine bC func256 ntmps256 f ?_;refine bI ?_;refine ao rfl nj rfl (λa b=>nI a s s.ap rfl (b.has aQ) (b.has bH)) ?_;refine dx ?_;refine b6 rfl (λd=>?_) (λd=>?_);refine bF [0,1,2,3,4,5,6,7,8,9] 0 [[]] ?_;refine hs ?_;refine ao rfl nl rfl (λa b=>nH a _ _ _) ?_;refine aR ?_;refine ao rfl jB rfl (λa b=>j4 a { s with y:=s.top+fw y 0 (s.cQ - s.top) } s.ap rfl (b.has aQ) (b.has bH)) ?_;refine ar ?_;refine ao rfl nl rfl (λa b=>nH a _ _ _) ?_;refine ax ?_;intro j e;exact e6 { s with y:=s.top+fw y 0 (s.cQ - s.top),x:=fw x 0 (s.ap.cols - 1) } ⟨rfl,rfl,rfl⟩ ⟨c.r,c.st,c.n⟩ (by rw[s5,ay (by exact d)];rfl) rfl e ae;refine aR ?_;refine ao rfl nl rfl (λa b=>nH a _ _ _) ?_;refine aR ?_;refine ao rfl jB rfl (λa b=>j4 a { s with y:=0+fw y 0 ((s.ap.s.l.length:Int) - 1 - 0) } s.ap rfl (b.has aQ) (b.has bH)) ?_;refine ar ?_;refine ao rfl nl rfl (λa b=>nH a _ _ _) ?_;refine ax ?_;intro j e;exact e6 { s with y:=0+fw y 0 ((s.ap.s.l.length:Int) - 1 - 0),x:=fw x 0 (s.ap.cols - 1) } ⟨rfl,rfl,rfl⟩ ⟨c.r,c.st,c.n⟩ (by rw[s5,ag (by rw[show s.abs.bf.home=s.bf.home from rfl,d];decide),bd.rows,i];rfl) rfl e ae
theorem c7.nums {p:bq} (h:c7 p.abs): (1≤(p.s.l.length:Int)∧(p.s.l.length:Int)≤1000)∧(2≤p.cols∧p.cols≤1000):=by
 have c: (b0 p.s.l).length=p.s.l.length:=by simp[b0]
 obtain⟨a,b,-,-,-⟩:=h;simp only[bq.abs] at a b
 rw[c] at b
 exact⟨aa,a⟩
def vc (s:bd):bd:={ s with top:=0,cQ:=s.rows - 1 }
def xT (s:bd) (y x:Int):bd:={ s with y:=fw y 0 (s.rows - 1),x:=fw x 0 (s.cols - 1) }
theorem xU (s:bd) (y x:Int):cR 0 s (xT s y x):=by
 refine xR s (λw=>?_);have a:=w.bE.cols;have b:=w.bE.rows
 have c:=lq (n:=y) (lo:=0) (hi:=s.rows - 1) (by simp only[bd.rows];omega)
 have d:=lq (n:=x) (lo:=0) (hi:=s.cols - 1) (by simp only[bd.cols];omega)
 simp only[bd.cols,bd.rows] at *
 omega
theorem Ha (s:bd):cR 0 s (vc s):=⟨λw=>⟨w.bE,w.y,w.x,by have:=w.bE.rows;show (0 :Int)≤0∧0≤(s.bE.cJ.length:Int) - 1∧(s.bE.cJ.length:Int) - 1<s.bE.cJ.length;omega⟩,rfl,rfl,rfl,ch _⟩
def Hb (s:bd) (n:Int):bd:=let s:={ s with x:=fx s };gn s (λp=>u1 p s.y s.x (max 1 n) (an s) (aM s))
def Hc (s:bd) (n:Int):bd:=let s:={ s with x:=fx s };gn s (λp=>AO p s.y s.x (max 1 n) (an s) (aM s))
def Hd (s:bd) (n:Int):bd:=let s:={ s with x:=fx s };gn s (λp=>eraseP p s.y s.x (s.x+fw n 1 1000) (an s) (aM s))
theorem A8 (s:bd):cR 0 s { s with x:=fx s }:=oR s (λw=>xM w)
theorem Rz (s:bd) (n:Int):cR 0 s (Hb s n):=(A8 s).trans (hV { s with x:=fx s } (xF s.bE s.y (fx s) (max 1 n) (an s) (aM s)))
theorem RA (s:bd) (n:Int):cR 0 s (Hc s n):=(A8 s).trans (hV { s with x:=fx s } (GB s.bE s.y (fx s) (max 1 n) (an s) (aM s)))
theorem RB (s:bd) (n:Int):cR 0 s (Hd s n):=(A8 s).trans (hV { s with x:=fx s } (oP s.bE s.y (fx s) (fx s+fw n 1 1000) (an s) (aM s)))
theorem vd (w:World) (s:bl) (c:a8 w (aP s)) (a:dT s) (d:c7 s.ap.abs):
 Calls prog 130 [ptr s.g].toArray w (ej s (.tuple #[]) (vc s.abs) w):=by
 obtain⟨i,j⟩:=d.nums;have e:=lY s
 refine bC func130 ntmps130 c ?_;refine aS ?_;refine ao rfl nj rfl (λf b=>nI f s s.ap rfl (b.has aQ) (b.has bH)) ?_;refine aJ ?_;intro k h;exact e6 { s with top:=0,cQ:=(s.ap.s.l.length:Int) - 1 } ⟨rfl,rfl,rfl⟩ ⟨a.r,a.st,a.n⟩ (by rw[vc,bd.rows,e];rfl) rfl h ae
theorem xV (w:World) (s:bl) (d:a8 w (aP s)) (c:dT s) (e:c7 s.ap.abs) (y x:Int):
 Calls prog 242 [ptr s.g,.int .i64 y,.int .i64 x].toArray w (ej s (.tuple #[]) (xT s.abs y x) w):=by
 obtain⟨i,j⟩:=e.nums;have f:=lY s
 refine bC func242 ntmps242 d ?_;refine ax ?_;refine ao rfl nj rfl (λa b=>nI a s s.ap rfl (b.has aQ) (b.has bH)) ?_;refine ar ?_;refine ao rfl nl rfl (λa b=>nH a _ _ _) ?_;refine aq ?_;refine ao rfl jB rfl (λa b=>j4 a s s.ap rfl (b.has aQ) (b.has bH)) ?_;refine ar ?_;refine ao rfl nl rfl (λa b=>nH a _ _ _) ?_;refine aL ?_;intro k h;exact e6 { s with y:=fw y 0 ((s.ap.s.l.length:Int) - 1),x:=fw x 0 (s.ap.cols - 1) } ⟨rfl,rfl,rfl⟩ ⟨c.r,c.st,c.n⟩ (by rw[xT,bd.rows,f];rfl) rfl h ae
theorem RC (w:World) (s:bl) (e:a8 w (aP s)) (c:dT s) (d:d4 s.abs) (n:Int):
 Calls prog 257 [ptr s.g,.int .i64 n].toArray w (ej s (.tuple #[]) (Hb s.abs n) w):=by
 obtain⟨k,f,l,m,o⟩:=d.nums;refine bC func257 ntmps257 e ?_;refine bp ?_;refine ao rfl jb rfl (λb a=>jl b s (a.has aQ) (a.has bH) f) ?_;refine ax ?_;refine bF [0,1,2,3,4,5,6,7,8,9,10,11,12,13,14] 2 [[(15,false,[]),(16,true,[])]] ?_;refine et ?_;refine ao rfl k8 rfl (λb a=>lp b (hv s) (a.has aQ)) ?_;refine ah ?_;refine cE (λb a=>Gg b s.ap a c.r d.bE s.y (min s.x (s.ap.cols - 1)) (max 1 n) s.bf.at_.an s.bf.at_.aM) (λh i=>?_);refine aS ?_;intro p j;exact kE (hv s) h ⟨rfl,rfl,rfl⟩ ⟨c.r,c.st,c.n⟩ i (xF s.ap.abs _ _ _ _ _).cols rfl rfl j ae
theorem RD (w:World) (s:bl) (e:a8 w (aP s)) (c:dT s) (d:d4 s.abs) (n:Int):
 Calls prog 260 [ptr s.g,.int .i64 n].toArray w (ej s (.tuple #[]) (Hc s.abs n) w):=by
 obtain⟨k,f,l,m,o⟩:=d.nums;refine bC func260 ntmps260 e ?_;refine bp ?_;refine ao rfl jb rfl (λb a=>jl b s (a.has aQ) (a.has bH) f) ?_;refine ax ?_;refine bF [0,1,2,3,4,5,6,7,8,9,10,11,12,13,14] 2 [[(15,false,[]),(16,true,[])]] ?_;refine et ?_;refine ao rfl k8 rfl (λb a=>lp b (hv s) (a.has aQ)) ?_;refine ah ?_;refine cE (λb a=>Qq b s.ap a c.r d.bE s.y (min s.x (s.ap.cols - 1)) (max 1 n) s.bf.at_.an s.bf.at_.aM) (λh i=>?_);refine aS ?_;intro p j;exact kE (hv s) h ⟨rfl,rfl,rfl⟩ ⟨c.r,c.st,c.n⟩ i (GB s.ap.abs _ _ _ _ _).cols rfl rfl j ae
theorem RE (w:World) (s:bl) (e:a8 w (aP s)) (c:dT s) (d:d4 s.abs) (n:Int):
 Calls prog 262 [ptr s.g,.int .i64 n].toArray w (ej s (.tuple #[]) (Hd s.abs n) w):=by
 obtain⟨k,f,l,m,o⟩:=d.nums;have p:=lq (n:=n) (lo:=1) (hi:=1000) aa
 refine bC func262 ntmps262 e ?_;refine bp ?_;refine ao rfl jb rfl (λa b=>jl a s (b.has aQ) (b.has bH) f) ?_;refine ax ?_;refine bF [0,1,2,3,4,5,6,7,8,9,10,11,12,13,14,15,16,19] 3 [[(17,false,[18]),(20,false,[]),(21,true,[])]] ?_;refine hr ?_;refine ao rfl nl rfl (λa b=>nH a _ _ _) ?_;refine aS ?_;refine ao rfl k8 rfl (λa b=>lp a (hv s) (b.has aQ)) ?_;refine ah ?_;refine aY (l0:=bD s.ap) ae rfl uE rfl (λa b=>u9 a s.ap (b.bo ae) c.r d.bE s.y (min s.x (s.ap.cols - 1)) (min s.x (s.ap.cols - 1)+fw n 1 1000) s.bf.at_.an s.bf.at_.aM aa) (λh i=>?_);refine aS ?_;intro q j;exact kE (hv s) h ⟨rfl,rfl,rfl⟩ ⟨c.r,c.st,c.n⟩ i (oP s.ap.abs _ _ _ _ _).cols rfl rfl j ae
def oU (s:bd):Bool:=decide (s.top≤s.y∧s.y≤s.cQ)
def ve (s:bd) (n:Int):bd:=if oU s=true then gn { s with x:=0 } (λp=>hS p s.y s.cQ (max 1 n) (λp a b=>oO p a b (an s) (aM s))) else s
def vf (s:bd) (n:Int):bd:=if oU s=true then gn { s with x:=0 } (λp=>hS p s.y s.cQ (max 1 n) (λp a b=>sU p a b (an s) (aM s))) else s
def s7 (s:bd) (n:Int):bd:=
 if 0<n then gn s (λp=>hS p s.top s.cQ n (λp a b=>mH p a b (an s) (aM s)))
 else if n<0 then gn s (λp=>hS p s.top s.cQ (0 - max n (-1000)) (λp a b=>oO p a b (an s) (aM s))) else s
theorem s8 {s:bd} (w:d4 s):s.bE.cJ.length≤1000:=w.bE.rows.2
theorem RF (s:bd) (h:s.bE.cJ.length≤1000) (n:Int):cR 2000 s (ve s n):=by
 unfold ve;split
 exact ((s6 s).trans (hV { s with x:=0 } (p9 s.bE s.y s.cQ (max 1 n) (λq a b c d=>rf q c d (an s) (aM s))))).mono (by show 0+2*s.bE.cJ.length≤2000;omega);exact (cR.refl s).mono aa
theorem RG (s:bd) (h:s.bE.cJ.length≤1000) (n:Int):cR 2000 s (vf s n):=by
 unfold vf;split
 exact ((s6 s).trans (hV { s with x:=0 } (p9 s.bE s.y s.cQ (max 1 n) (λq a b c d=>xE q c d (an s) (aM s))))).mono (by show 0+2*s.bE.cJ.length≤2000;omega);exact (cR.refl s).mono aa
theorem RH (s:bd) (h:s.bE.cJ.length≤1000) (n:Int):cR 2000 s (s7 s n):=by
 unfold s7;split
 exact (hV s (p9 s.bE s.top s.cQ n (λq a b c d=>u2 q c d (an s) (aM s)))).mono aa;split
 exact (hV s (p9 s.bE s.top s.cQ _ (λq a b c d=>rf q c d (an s) (aM s)))).mono aa;exact (cR.refl s).mono aa
abbrev xW (s:bl):bl:={ s with x:=0 }
theorem He (w:World) (s:bl) (f:a8 w (aP s)) (a:dT s):
 Calls prog 347 [ptr s.g].toArray w (ej s (.bool (oU s.abs)) (if oU s.abs=true then (xW s).abs else s.abs) w):=by
 have b:oU s.abs=decide (s.top≤s.y∧s.y≤s.cQ):=rfl
 refine bC func347 ntmps347 f ?_;refine aD ?_;refine bF [0,1,2,3,4,5,6,7,8,9,10,11,12,13,14,15,16,17,18,19,20,21,22,23] 0 [[]] ?_;refine b_ ?_;refine no 16 rfl (λd=>?_) (λd=>?_);have h:=a1 d
 refine kw ?_;intro e c;exact e6 s ⟨rfl,rfl,rfl⟩ ⟨a.r,a.st,a.n⟩ (by rw[b,ag (by rw[e2];omega)]) (by rw[b,bO aa]) c ae;have h:=bc d
 refine bI ?_;refine aj (λaK=>?_) (λaK=>?_);refine aL ?_;intro e c;exact e6 s ⟨rfl,rfl,rfl⟩ ⟨a.r,a.st,a.n⟩ (by rw[b,ag (by rw[e2];omega)]) (by rw[b,bO aa]) c ae;refine et ?_;intro e c;exact e6 (xW s) ⟨rfl,rfl,rfl⟩ ⟨a.r,a.st,a.n⟩ (by rw[b,ay (b5 aa)]) (by rw[b,b5 aa]) c ae
theorem RI (w:World) (s:bl) (p:a8 w (aP s)) (c:dT s) (i:d4 s.abs) (u:s.ap.be.l.length≤1152920000000) (n:Int):
 Calls prog 261 [ptr s.g,.int .i64 n].toArray w (ej s (.tuple #[]) (s7 s.abs n) w):=by
 obtain⟨v,x,y,z,h⟩:=i.nums;refine bC func261 ntmps261 p ?_;refine dx ?_;refine aj (λt=>?_) (λt=>?_);refine bF [0,1,2,3,4,5,6,7,8,9,10,11,12,13] 2 [[(14,false,[]),(15,true,[])]] ?_;refine dx ?_;refine ao rfl k8 rfl (λd e=>lp d s (e.has aQ)) ?_;refine ah ?_;refine aY (l0:=bD s.ap) ae rfl Ob rfl (λd e=>Gu d s.ap (e.bo ae) c.r i.bE aa s.top s.cQ n s.bf.at_.an s.bf.at_.aM) (λj k=>?_);refine ax ?_;intro o f;exact kE s j ⟨rfl,rfl,rfl⟩ ⟨c.r,c.st,c.n⟩ k (p9 s.ap.abs s.top s.cQ n (λq a b m h=>u2 q m h s.bf.at_.an s.bf.at_.aM)).cols (by rw[s7,ay aa];rfl) rfl f ae;refine aD ?_;refine aj (λaK=>?_) (λaK=>?_);refine bF [0,1,2,3,4,5,6,7,8,9,10,11,12,13,14,15] 2 [[(16,false,[]),(17,true,[])]] ?_;refine b_ ?_;refine aI rfl (λA B=>(ov rfl rfl (wrap64 aa aa) aC)) ?_;refine ah ?_;refine ao rfl k8 rfl (λd e=>lp d s (e.has aQ)) ?_;refine ah ?_;refine aY (l0:=bD s.ap) ae rfl E1 rfl (λd e=>A0 d s.ap (e.bo ae) c.r i.bE aa s.top s.cQ _ s.bf.at_.an s.bf.at_.aM) (λj k=>?_);refine ax ?_;intro o f;exact kE s j ⟨rfl,rfl,rfl⟩ ⟨c.r,c.st,c.n⟩ k (p9 s.ap.abs s.top s.cQ _ (λq a b m h=>rf q m h s.bf.at_.an s.bf.at_.aM)).cols (by rw[s7,ag aa,ay aa];rfl) rfl f ae;refine ah ?_;intro o f;exact e6 s ⟨rfl,rfl,rfl⟩ c (by rw[s7,ag aa,ag aa]) rfl f ae
theorem RJ (w:World) (s:bl) (p:a8 w (aP s)) (t:dT s) (k:d4 s.abs) (F:s.ap.be.l.length≤1152920000000) (n:Int):
 Calls prog 258 [ptr s.g,.int .i64 n].toArray w (ej s (.tuple #[]) (ve s.abs n) w):=by
 obtain⟨G,H,I,J,m⟩:=k.nums;refine bC func258 ntmps258 p ?_;refine ah ?_;refine cE (λh i=>He h s i t) (λc d=>?_);refine aq ?_;refine aj (λe=>?_) (λe=>?_);have e:oU s.abs=true:=b5 e
 rw[ay e] at d
 have f:c.abs=(xW s).abs:=d.abs
 have u:c.y=s.y:=aV bd.y f
 have v:c.cQ=s.cQ:=aV bd.cQ f
 have x:c.bf=s.bf:=aV bd.bf f
 have o:c.ap.abs=s.ap.abs:=aV bd.bE f
 have A:d4 c.abs:=by rw[f];exact (s6 s.abs).wf k
 have c8:c.ap.be.l.length=s.ap.be.l.length:=by have:=aV (λz=>z.gd.length) o;simpa [bq.abs] using this
 rw[←d.g];refine bF [0,1,2,3,4,5,6,7,8,9,10,11,12,13,14] 2 [[(15,false,[]),(16,true,[])]] ?_;refine et ?_;refine ao rfl k8 rfl (λh i=>lp h c (i.has aQ)) ?_;refine ah ?_;refine aY (l0:=bD c.ap) ae rfl E1 rfl (λh i=>A0 h c.ap (i.bo ae) d.wf.r A.bE aa c.y c.cQ (max 1 n) c.bf.at_.an c.bf.at_.aM) (λB C=>?_);refine aS ?_;intro D j;exact kE c B ⟨d.g,d.ap,d.st⟩ d.wf C (p9 c.ap.abs _ _ _ (λq a b E m=>rf q E m _ _)).cols (by rw[ve,ay e,o,u,v,x,f];rfl) rfl j ae;have e:oU s.abs=false:=bO e
 refine aq ?_;intro D j;exact aO.bQ c (by rw[ve];rw[ag (by rw[e];decide)] at d ⊢;exact d) rfl j
theorem RK (w:World) (s:bl) (p:a8 w (aP s)) (t:dT s) (k:d4 s.abs) (F:s.ap.be.l.length≤1152920000000) (n:Int):
 Calls prog 259 [ptr s.g,.int .i64 n].toArray w (ej s (.tuple #[]) (vf s.abs n) w):=by
 obtain⟨G,H,I,J,m⟩:=k.nums;refine bC func259 ntmps259 p ?_;refine ah ?_;refine cE (λh i=>He h s i t) (λc d=>?_);refine aq ?_;refine aj (λe=>?_) (λe=>?_);have e:oU s.abs=true:=b5 e
 rw[ay e] at d
 have f:c.abs=(xW s).abs:=d.abs
 have u:c.y=s.y:=aV bd.y f
 have v:c.cQ=s.cQ:=aV bd.cQ f
 have x:c.bf=s.bf:=aV bd.bf f
 have o:c.ap.abs=s.ap.abs:=aV bd.bE f
 have A:d4 c.abs:=by rw[f];exact (s6 s.abs).wf k
 have c8:c.ap.be.l.length=s.ap.be.l.length:=by have:=aV (λz=>z.gd.length) o;simpa [bq.abs] using this
 rw[←d.g];refine bF [0,1,2,3,4,5,6,7,8,9,10,11,12,13,14] 2 [[(15,false,[]),(16,true,[])]] ?_;refine et ?_;refine ao rfl k8 rfl (λh i=>lp h c (i.has aQ)) ?_;refine ah ?_;refine aY (l0:=bD c.ap) ae rfl Oj rfl (λh i=>QS h c.ap (i.bo ae) d.wf.r A.bE aa c.y c.cQ (max 1 n) c.bf.at_.an c.bf.at_.aM) (λB C=>?_);refine aS ?_;intro D j;exact kE c B ⟨d.g,d.ap,d.st⟩ d.wf C (p9 c.ap.abs _ _ _ (λq a b E m=>xE q E m _ _)).cols (by rw[vf,ay e,o,u,v,x,f];rfl) rfl j ae;have e:oU s.abs=false:=bO e
 refine aq ?_;intro D j;exact aO.bQ c (by rw[vf];rw[ag (by rw[e];decide)] at d ⊢;exact d) rfl j
def rh (s:bd) (t b:Int):bd:=if 0≤t∧b<s.rows∧t<b then s5 { s with top:=t,cQ:=b } 0 0 else s
theorem RL (s:bd) (t b:Int):cR 0 s (rh s t b):=by
 unfold rh;split
 rename_i h;have a:cR 0 s { s with top:=t,cQ:=b }:=⟨λw=>⟨w.bE,w.y,w.x,by show 0≤t∧t≤b∧b<s.rows;omega⟩,rfl,rfl,rfl,ch _⟩
 exact a.trans (G7 _ 0 0);exact cR.refl s
def oV (s:bd) (p w h:Bool):bd:={ s with bf:={ s.bf with put:=p,wrap:=w,home:=h } }
def RM (s:bd) (c:fV):bd:={ s with bf:={ s.bf with aG:=c } }
theorem s9 (s:bd) (p:gE):cR 0 s { s with bf:=p }:=⟨λw=>⟨w.bE,w.y,w.x,w.top⟩,rfl,rfl,rfl,ch _⟩
theorem RN (w:World) (s:bl) (l:a8 w (aP s)) (c:dT s) (f:d4 s.abs) (t b:Int):
 Calls prog 267 [ptr s.g,.int .i64 t,.int .i64 b].toArray w (ej s (.tuple #[]) (rh s.abs t b) w):=by
 obtain⟨u,v,z,A,B⟩:=f.nums;have d:=lY s
 refine bC func267 ntmps267 l ?_;refine bp ?_;refine aX 12 rfl (λi=>?_) (λi=>?_);have m:=a1 i
 refine ax ?_;refine ao rfl nj rfl (λj h=>nI j s s.ap rfl (h.has aQ) (h.has bH)) ?_;refine aS ?_;refine aX 18 rfl (λaK=>?_) (λaK=>?_);have o:=a1 aK
 refine aJ ?_;refine aj (λp=>?_) (λp=>?_);refine dx ?_;refine aY (l0:=aP { s with top:=t,cQ:=b }) ae rfl pL rfl (λj h=>G_ j { s with top:=t,cQ:=b } (h.bo ae) ⟨c.r,c.st,c.n⟩ ⟨f.bE,f.y,f.x,by show 0≤t∧t≤b∧b<s.abs.rows;rw[bd.rows,d];omega⟩ 0 0) (λq e=>?_);refine aq ?_;intro k a;exact aN q ⟨e.g,e.ap,e.st,e.wf,by rw[rh,ay (by rw[bd.rows,d];omega)];exact e.abs⟩ a;refine aq ?_;intro k a;exact e6 s ⟨rfl,rfl,rfl⟩ c (by rw[rh,ag (by rw[bd.rows,d];omega)]) rfl a ae;have o:=bc aK
 refine aJ ?_;intro k a;exact e6 s ⟨rfl,rfl,rfl⟩ c (by rw[rh,ag (by rw[bd.rows,d];omega)]) rfl a ae;have m:=bc i
 refine cI ?_;intro k a;exact e6 s ⟨rfl,rfl,rfl⟩ c (by rw[rh,ag (by rw[bd.rows,d];omega)]) rfl a ae
theorem RO (w:World) (s:bl) (b:a8 w (aP s)) (a:dT s) (p x h:Bool):
 Calls prog 345 [ptr s.g,.agg [.bool p,.bool x,.bool h].toArray].toArray w (ej s (.tuple #[]) (oV s.abs p x h) w):=by
 refine bC func345 ntmps345 b ?_;refine ah ?_;intro d e f;refine e4 ?_;intro i c;exact e6 { s with bf:={ s.bf with put:=p,wrap:=x,home:=h } } ⟨rfl,rfl,rfl⟩ ⟨a.r,a.st,a.n⟩ rfl rfl c ae
def Hf (s:bd):bd:={ s with fW:=s.bf,kC:=s.y,kD:=fx s,has:=true }
theorem RP (s:bd):cR 0 s (Hf s):=⟨λw=>⟨w.bE,w.y,w.x,w.top⟩,rfl,rfl,rfl,ch _⟩
def ir (a d lo hi:Int):Int:=fw (a+fw d (-1000) 1000) lo hi
def s_ (s:bd) (a b:Int):bd:=
 let lo:=if s.top≤s.y then s.top else 0
 let hi:=if s.y≤s.cQ then s.cQ else s.rows - 1
 { s with y:=ir s.y a (min lo s.y) (max hi s.y),x:=ir (fx s) b 0 (s.cols - 1) }
theorem RQ (s:bd) (a b:Int):cR 0 s (s_ s a b):=by
 refine xR s (λw=>?_);have g:=w.top;have h:=w.bE.cols;have i:=w.bE.rows;have j:=w.y
 have e:0≤min (if s.top≤s.y then s.top else 0) s.y∧min (if s.top≤s.y then s.top else 0) s.y≤s.y:=by split <;> omega
 have f:s.y≤max (if s.y≤s.cQ then s.cQ else s.rows - 1) s.y∧max (if s.y≤s.cQ then s.cQ else s.rows - 1) s.y<s.rows:=by split <;> omega
 have c:=lq (n:=s.y+fw a (-1000) 1000) (lo:=min (if s.top≤s.y then s.top else 0) s.y) (hi:=max (if s.y≤s.cQ then s.cQ else s.rows - 1) s.y) aa
 have d:=lq (n:=fx s+fw b (-1000) 1000) (lo:=0) (hi:=s.cols - 1) (by simp only[bd.cols];omega)
 refine⟨⟨Int.le_trans e.1 c.1,Int.lt_of_le_of_lt c.2 f.2⟩,d.1,?_⟩;exact Int.le_trans d.2 aa
abbrev qb (s:bl) (y:Int):bl:={ s with y:=y }
theorem RR (w:World) (s:bl) (b:a8 w (aP s)) (a:dT s) (c:fV):
 Calls prog 166 [ptr s.g,.agg c.enc.toArray].toArray w (ej s (.tuple #[]) (RM s.abs c) w):=by
 refine bC func166 ntmps166 b ?_;refine ah ?_;intro e f h;refine e4 ?_;intro i d;exact e6 { s with bf:={ s.bf with aG:=c } } ⟨rfl,rfl,rfl⟩ ⟨a.r,a.st,a.n⟩ rfl rfl d ae
theorem Hg (s:bl) (p:gE) (y x:Int):cZ (eT s) (0+20) [.int .i64 p.at_.di,.int .i64 p.at_.fn,.int .i64 p.at_.an,.int .i64 p.at_.aM,.int .i64 p.at_.fl,.int .i64 p.aG.fv,.int .i64 p.aG.s1,.int .i64 p.aG.s2,.int .i64 p.aG.ln,.int .i64 p.aG.use,.int .i64 p.aG.j1,.bool p.put,.bool p.wrap,.bool p.home,.int .i64 y,.int .i64 x]=eT { s with fW:=p,kC:=y,kD:=x }:=by
 simp only[cZ,eT,dA,Nat.reduceAdd,qF,mw]
theorem RS (s:bl) (p:gE):cZ (eT s) (0+0) [.int .i64 p.at_.di,.int .i64 p.at_.fn,.int .i64 p.at_.an,.int .i64 p.at_.aM,.int .i64 p.at_.fl,.int .i64 p.aG.fv,.int .i64 p.aG.s1,.int .i64 p.aG.s2,.int .i64 p.aG.ln,.int .i64 p.aG.use,.int .i64 p.aG.j1,.bool p.put,.bool p.wrap,.bool p.home]=eT { s with bf:=p }:=by
 simp only[cZ,eT,dA,Nat.reduceAdd,qF,mw]
theorem qc (w:World) (a d lo hi:Int) (f: -100000≤a∧a≤100000):Calls prog 346 [.int .i64 a,.int .i64 d,.int .i64 lo,.int .i64 hi].toArray w (Pure (.int .i64 (ir a d lo hi)) w):=by
 have g:=lq (n:=d) (lo:= -1000) (hi:=1000) aa
 refine aW func346 ntmps346 ?_;refine aJ ?_;refine ao rfl nl rfl (λb c=>nH b _ _ _) ?_;refine ah ?_;refine ao rfl nl rfl (λb c=>nH b _ _ _) ?_;refine ax ?_;intro h e;exact⟨rfl,e.ext⟩
theorem RT (w:World) (s:bl) (k:a8 w (aP s)) (d:dT s) (m:d4 s.abs) (c f:Int):
 Calls prog 255 [ptr s.g,.int .i64 c,.int .i64 f].toArray w (ej s (.tuple #[]) (s_ s.abs c f) w):=by
 obtain⟨q,h,t,u,v⟩:=m.nums;have i:=lY s
 refine bC func255 ntmps255 k ?_;refine bI ?_;refine ao rfl nj rfl (λb a=>nI b s s.ap rfl (a.has aQ) (a.has bH)) ?_;refine aD ?_;refine bF [0,1,2,3,4,5,6,7,8] 0 [[]] ?_;refine bB ?_;refine aj (λo=>?_) (λo=>?_);refine aR ?_;refine bF [0,1,2,3,4,5,6,7,8] 0 [[]] ?_;refine bB ?_;refine aj (λaK=>?_) (λaK=>?_);refine b_ ?_;refine bF [0,1,2,3,4,5,6,7,8,9,10,11,12,13,14,15,16,17,18] 2 [[(19,false,[20,21]),(22,true,[])]] ?_;refine hs ?_;refine gx (first:=[]) (cap:=[]) rfl rfl pO rfl (λb a=>qc b s.y _ _ _ aa) ?_;refine b_ ?_;refine ao rfl jb rfl (λb a=>jl b (qb s (ir s.y c (min s.top s.y) (max s.cQ s.y))) (a.has aQ) (a.has bH) h) ?_;refine aq ?_;refine ao rfl jB rfl (λb a=>j4 b (qb s (ir s.y c (min s.top s.y) (max s.cQ s.y))) s.ap rfl (a.has aQ) (a.has bH)) ?_;refine ar ?_;refine gx (first:=[]) (cap:=[]) rfl rfl pO rfl (λb a=>qc b (min s.x (s.ap.cols - 1)) _ _ _ aa) ?_;refine ax ?_;intro j e;exact e6 { s with y:=ir s.y c (min s.top s.y) (max s.cQ s.y),x:=ir (min s.x (s.ap.cols - 1)) f 0 (s.ap.cols - 1) } ⟨rfl,rfl,rfl⟩ ⟨d.r,d.st,d.n⟩ (by rw[s_,bd.rows,i,ay bA,ay bA];rfl) rfl e ae;refine aL ?_;refine bF [0,1,2,3,4,5,6,7,8,9,10,11,12,13,14,15,16,17,18] 2 [[(19,false,[20,21]),(22,true,[])]] ?_;refine hs ?_;refine gx (first:=[]) (cap:=[]) rfl rfl pO rfl (λb a=>qc b s.y _ _ _ aa) ?_;refine b_ ?_;refine ao rfl jb rfl (λb a=>jl b (qb s (ir s.y c (min s.top s.y) (max ((s.ap.s.l.length:Int) - 1) s.y))) (a.has aQ) (a.has bH) h) ?_;refine aq ?_;refine ao rfl jB rfl (λb a=>j4 b (qb s (ir s.y c (min s.top s.y) (max ((s.ap.s.l.length:Int) - 1) s.y))) s.ap rfl (a.has aQ) (a.has bH)) ?_;refine ar ?_;refine gx (first:=[]) (cap:=[]) rfl rfl pO rfl (λb a=>qc b (min s.x (s.ap.cols - 1)) _ _ _ aa) ?_;refine ax ?_;intro j e;exact e6 { s with y:=ir s.y c (min s.top s.y) (max ((s.ap.s.l.length:Int) - 1) s.y),x:=ir (min s.x (s.ap.cols - 1)) f 0 (s.ap.cols - 1) } ⟨rfl,rfl,rfl⟩ ⟨d.r,d.st,d.n⟩ (by rw[s_,bd.rows,i,ay bA,ag bA];rfl) rfl e ae;refine aS ?_;refine bF [0,1,2,3,4,5,6,7,8] 0 [[]] ?_;refine bB ?_;refine aj (λp=>?_) (λp=>?_);refine b_ ?_;refine bF [0,1,2,3,4,5,6,7,8,9,10,11,12,13,14,15,16,17,18] 2 [[(19,false,[20,21]),(22,true,[])]] ?_;refine hs ?_;refine gx (first:=[]) (cap:=[]) rfl rfl pO rfl (λb a=>qc b s.y _ _ _ aa) ?_;refine b_ ?_;refine ao rfl jb rfl (λb a=>jl b (qb s (ir s.y c (min 0 s.y) (max s.cQ s.y))) (a.has aQ) (a.has bH) h) ?_;refine aq ?_;refine ao rfl jB rfl (λb a=>j4 b (qb s (ir s.y c (min 0 s.y) (max s.cQ s.y))) s.ap rfl (a.has aQ) (a.has bH)) ?_;refine ar ?_;refine gx (first:=[]) (cap:=[]) rfl rfl pO rfl (λb a=>qc b (min s.x (s.ap.cols - 1)) _ _ _ aa) ?_;refine ax ?_;intro j e;exact e6 { s with y:=ir s.y c (min 0 s.y) (max s.cQ s.y),x:=ir (min s.x (s.ap.cols - 1)) f 0 (s.ap.cols - 1) } ⟨rfl,rfl,rfl⟩ ⟨d.r,d.st,d.n⟩ (by rw[s_,bd.rows,i,ag bA,ay bA];rfl) rfl e ae;refine aL ?_;refine bF [0,1,2,3,4,5,6,7,8,9,10,11,12,13,14,15,16,17,18] 2 [[(19,false,[20,21]),(22,true,[])]] ?_;refine hs ?_;refine gx (first:=[]) (cap:=[]) rfl rfl pO rfl (λb a=>qc b s.y _ _ _ aa) ?_;refine b_ ?_;refine ao rfl jb rfl (λb a=>jl b (qb s (ir s.y c (min 0 s.y) (max ((s.ap.s.l.length:Int) - 1) s.y))) (a.has aQ) (a.has bH) h) ?_;refine aq ?_;refine ao rfl jB rfl (λb a=>j4 b (qb s (ir s.y c (min 0 s.y) (max ((s.ap.s.l.length:Int) - 1) s.y))) s.ap rfl (a.has aQ) (a.has bH)) ?_;refine ar ?_;refine gx (first:=[]) (cap:=[]) rfl rfl pO rfl (λb a=>qc b (min s.x (s.ap.cols - 1)) _ _ _ aa) ?_;refine ax ?_;intro j e;exact e6 { s with y:=ir s.y c (min 0 s.y) (max ((s.ap.s.l.length:Int) - 1) s.y),x:=ir (min s.x (s.ap.cols - 1)) f 0 (s.ap.cols - 1) } ⟨rfl,rfl,rfl⟩ ⟨d.r,d.st,d.n⟩ (by rw[s_,bd.rows,i,ag bA,ag bA];rfl) rfl e ae
def RU (s:bd) (y:Int):bd:=gn s (λp=>eraseP p y 0 s.cols (an s) (aM s))
def vg (s:bd) (a:Int):Nat→bd
 | 0=>s
 | n+1=>RU (vg s a n) (a+n)
def vh (s:bd) (a b:Int):bd:=vg s a (b - a).toNat
theorem ta (s:bd) (a:Int): ∀n,cR 0 s (vg s a n)
 | 0=>cR.refl s
 | n+1=>(ta s a n).trans (hV _ (oP _ _ _ _ _ _))
theorem hU.refl {s:bl} (a:dT s):hU s s.abs s:=⟨rfl,rfl,rfl,a,rfl⟩
theorem xX (w:World) (s:bl) (l:a8 w (aP s)) (m:dT s) (n:d4 s.abs) (a b:Int) (y:0≤a∧a≤100000) (z:0≤b∧b≤100000):
 Calls prog 341 [ptr s.g,.int .i64 a,.int .i64 b].toArray w (ej s (.tuple #[]) (vh s.abs a b) w):=by
 refine bC func341 ntmps341 l ?_;refine aD ?_;refine b1 (ι:=Nat × bl) (λi=>[(0,ptr s.g),(2,.int .i64 b),(6,.int .i64 (a+(i.1 :Int)))]) (λi=>af w (aA (aP s)) (aP i.2)) (λi=>i.1≤(b - a).toNat∧hU s (vg s.abs a i.1) i.2) (λi=>(b - a).toNat - i.1) ?_ ?_;exact λw' o=>⟨(0,s),⟨bP _,hU.refl m⟩,by simp only[Int.natCast_zero,Int.add_zero];exact (ef rfl rfl rfl),o⟩
 rintro⟨i,q⟩ ⟨hi,c⟩;dsimp only at hi c ⊢
 obtain⟨j,A⟩:=c.fits (ta s.abs a i) n;obtain⟨B,C,D,E,F⟩:=j.nums;rw[←c.g];refine aL ?_;refine aj (λp=>?_) (λp=>?_);refine aS ?_;refine bF [0,1,2,3,4,5,7] 3 [[(6,false,[]),(8,false,[]),(9,true,[])]] ?_;refine aJ ?_;refine ao rfl jB rfl (λe d=>j4 e q q.ap rfl (d.has aQ) (d.has bH)) ?_;refine ah ?_;refine ao rfl k8 rfl (λe d=>lp e q (d.has aQ)) ?_;refine ah ?_;refine aY (l0:=bD q.ap) ae rfl uE rfl (λe d=>u9 e q.ap (d.bo ae) c.wf.r j.bE (a+i) 0 q.ap.cols q.bf.at_.an q.bf.at_.aM aa) (λt k=>?_);refine aR ?_;have f:=xO (s:=s) q ⟨c.g,c.ap,c.st⟩ c.wf k (oP q.ap.abs _ _ _ _ _).cols rfl
 have u:a+(i:Int)+1=a+((i+1 :Nat):Int):=by omega
 rw[u];exact bg (i+1,{ q with ap:=t }) ⟨by show i+1≤(b - a).toNat;omega,⟨f.g,f.ap,f.st,f.wf,by rw[f.abs,vg,←c.abs];rfl⟩⟩ (by show (b - a).toNat - (i+1)<(b - a).toNat - i;omega) bR (λ_ h=>by rw[s4 k.1];exact h.aw ae);refine ax ?_;intro G v;have x:i=(b - a).toNat:=by omega
 subst x;exact aO.bQ q c rfl v
end Go.Proofs.YtoghoobfpcadbaaGreatDoor.Mq
