/- part 18 of the proof -/
import Derived.Test.YtlgnfdodnhokjaaGreatDoorQ17
namespace Go.Proofs.YtlgnfdodnhokjaaGreatDoor.Mq
open Go Go.RowKit Go.Proofs Tryz
def o5 (s:be):be:=
 let s:={ s with x:=fE s }
 if s.y=s.top then gr s (λp=>hV p s.top s.cR 1 (λp a b=>o1 p a b (an s) (aM s)))
 else if 0<s.y then { s with y:=s.y - 1 } else s
theorem R4 (s:be):cS 2 s (o5 s):=by
 have c:cS 0 s { s with x:=fE s }:=o4 s (λw=>xZ w)
 unfold o5;dsimp only;split
 exact (c.trans (hY { s with x:=fE s } (f:=λp=>hV p s.top s.cR 1 (λp a b=>o1 p a b (an s) (aM s))) (x0 s.bD _ _ (λq a b d e=>rq q d e _ _)))).mono aa;split
 exact (c.trans (HC _ (λw=>by have:=w.y;simp only[be.rows] at *;omega))).mono aa;exact c.mono aa
theorem R5 {s:bl} (h:s.y=s.top):o5 s.abs= { (ht s).abs with bD:=hV s.ap.abs s.top s.cR 1 (λq a b=>o1 q a b s.bg.at_.an s.bg.at_.aM) }:=by
 unfold o5;exact aw h
theorem R6 {s:bl} (h: ¬s.y=s.top) (a:0<s.y):o5 s.abs= { ht s with y:=s.y - 1 }.abs:=by
 unfold o5;exact (ag h).trans (aw a)
theorem R7 {s:bl} (h: ¬s.y=s.top) (a: ¬0<s.y):o5 s.abs=(ht s).abs:=by
 unfold o5;exact (ag h).trans (ag a)
theorem R8 (w:World) (s:bl) (m:a8 w (aO s)) (c:dR s) (i:dX s.abs) (o:s.ap.bf.l.length≤1152921500000):
 Calls prog 222 [ptr s.g].toArray w (eo s (.tuple #[]) (o5 s.abs) w):=by
 obtain⟨x,p,z,A,j⟩:=i.nums;refine bI func222 ntmps222 m ?_;refine b7 ?_;refine ao rfl jg rfl (λe d=>jq e s (d.has aT) (d.has bJ) p) ?_;refine aC ?_;refine bF [0,1,2,3,4,5,6,7,8,9] 0 [[]] ?_;refine bH ?_;refine aj (λh=>?_) (λh=>?_);refine bF [0,1,2,3,4,5,6,7,8,9,10,11,12] 2 [[(13,false,[]),(14,true,[])]] ?_;refine cF ?_;refine ao rfl k8 rfl (λe d=>lq e (ht s) (d.has aT)) ?_;refine ah ?_;refine cJ (λe d=>Be e s.ap d c.r i.bD o s.top s.cR 1 s.bg.at_.an s.bg.at_.aM) (λt u=>?_);refine ay ?_;intro k f;exact kJ (ht s) t ⟨rfl,rfl,rfl⟩ ⟨c.r,c.st,c.n⟩ u (x0 s.ap.abs s.top s.cR (λq a b v j=>rq q v j s.bg.at_.an s.bg.at_.aM)).cols (by rw[R5 h]) rfl f ae;refine aQ ?_;refine aj (λaH=>?_) (λaH=>?_);refine bx ?_;intro k f;exact fb { ht s with y:=s.y - 1 } ⟨rfl,rfl,rfl⟩ ⟨c.r,c.st,c.n⟩ (by rw[R6 h aa]) rfl f ae;refine ah ?_;intro k f;exact fb (ht s) ⟨rfl,rfl,rfl⟩ ⟨c.r,c.st,c.n⟩ (by rw[R7 h aa]) rfl f ae
def nT (s:be):be:=if s.x<s.cols then gr s (λp=>xL p s.y) else s
def o6 (s:be):be:=if (iS s).2=true then gr { (iS s).1 with x:=0 } (λp=>iN p (iS s).1.y true) else { (iS s).1 with x:=0 }
theorem tf (s:be) (w:Int):j8 s w=if s.x+w≤s.cols then s else if s.bg.wrap=false then { s with x:=s.cols - w } else o6 (nT s):=rfl
theorem HH (s:be):cS 0 s (nT s):=by
 unfold nT;split
 exact hY s (He s.bD s.y);exact cS.refl s
theorem R9 (s:be):cS 2 s (o6 s):=by
 have a:=(td s).trans (o4 (x:=0) _ (λh=>by have:=h.bD.cols;simp only[be.cols] at *;omega))
 unfold o6;split
 exact (a.trans (hY _ (l4 _ _ true))).mono aa;exact a.mono aa
theorem R_ (s:be): (o6 s).x=0:=by
 unfold o6;split <;> rfl
theorem Bj (s:be) (w:Int) (a:0≤w∧w≤2):cS 2 s (j8 s w):=by
 rw[tf];split
 exact (cS.refl s).mono aa;split
 exact (o4 s (λh=>by have:=h.bD.cols;have:=h.x;simp only[be.cols] at *;omega)).mono aa;exact ((HH s).trans (R9 _)).mono aa
theorem HI (s:be) (w:Int) (a:0≤w∧w≤2) (h:dX s): (j8 s w).x+w≤s.cols∧0≤(j8 s w).x:=by
 have b:=h.bD.cols
 have c:=h.x
 rw[tf];simp only[be.cols] at *
 split
 omega
 split
 show s.bD.cols - w+w≤_∧0≤s.bD.cols - w;omega
 rw[R_];omega
theorem hX.fits {s z:bl} {q:be} {k:Nat} (h:hX s q z) (b:cS k s.abs q) (c:dX s.abs):dX z.abs∧z.ap.bf.l.length≤s.ap.bf.l.length+k:=by
 have a:=b.bf
 rw[←h.abs] at a
 simp only[bl.abs,bq.abs,cB] at a
 exact⟨by rw[h.abs];exact b.wf c,a⟩
theorem x1 {s:bl} {q:b0} {Q:be} {i:bq} (t:bl) (a:t.g=s.g∧t.ap.g=s.ap.g∧t.st.g=s.st.g) (b:dR t) (hi:i.g=t.ap.g∧cX i.r∧i.abs=q) (d:q.cols=t.ap.cols) (e: { t.abs with bD:=q } = Q):hX s Q { t with ap:=i }:=by
 obtain⟨f,h,c⟩:=hi;refine⟨a.1,f.trans a.2.1,a.2.2,⟨h,b.st,?_⟩,?_⟩;have:i.cols=q.cols:=by rw[←c];rfl
 rw[b.n,←d,←this];rw[←e];simp only[bl.abs,c]
theorem tg {t:bl} {i:bq} (a:i.g=t.ap.g):aO { t with ap:=i } = [t.an,i.an,aR (cc i.r),i.s.au,i.s.b9,i.bf.au,t.st.aF]:=by
 simp only[aO,bl.an,eZ,a]
theorem Sa (w:World) (s:bl) (B:a8 w (aO s)) (e:dR s) (o:dX s.abs) (G:s.ap.bf.l.length≤1152921000000) (n:Int) (H:1≤n∧n≤2):
 Calls prog 306 [ptr s.g,.int .i64 n].toArray w (eo s (.tuple #[]) (j8 s.abs n) w):=by
 obtain⟨I,J,K,L,M⟩:=o.nums;refine bI func306 ntmps306 B ?_;refine aq ?_;refine bF [0,1,2,3,4,5,6] 1 [[(7,false,[8])]] ?_;refine aJ ?_;refine ao rfl jE rfl (λc b=>j9 c s s.ap rfl (b.has aT) (b.has bJ)) ?_;refine ay ?_;refine aj (λj=>?_) (λj=>?_);refine ah ?_;intro p f;exact fb s ⟨rfl,rfl,rfl⟩ e (by rw[tf,aw (by exact j)]) rfl f ae;refine b7 ?_;refine b1 rfl (λm=>?_) (λm=>?_);refine aS ?_;refine ao rfl jE rfl (λc b=>j9 c s s.ap rfl (b.has aT) (b.has bJ)) ?_;refine aQ ?_;intro p f;exact fb { s with x:=s.ap.cols - n } ⟨rfl,rfl,rfl⟩ ⟨e.r,e.st,e.n⟩ (by rw[tf,ag (by exact j),aw (by have k:s.bg.wrap=false:=(by simpa using m);exact k)];rfl) rfl f ae;refine aS ?_;refine bF [0,1,2,3,4] 1 [[(5,false,[6])]] ?_;refine aC ?_;refine ao rfl jE rfl (λc b=>j9 c s s.ap rfl (b.has aT) (b.has bJ)) ?_;refine ay ?_;refine hL (λz:bl=>[(0,ptr z.g),(1,.int .i64 n)]) (λz=>af w (aB (aO s)) (aO z)) (λz=>hX s (nT s.abs) z) ?_ ?_;refine aj (λq=>?_) (λq=>?_);refine bF [0,1,2,3,4,5,6,7] 1 [[(8,true,[])]] ?_;refine aQ ?_;refine cJ (λc b=>Q9 c s.ap b e.r o.bD s.y) (λC A=>?_);refine ah ?_;exact dr { s with ap:=C } (x1 s ⟨rfl,rfl,rfl⟩ e A (He s.ap.abs s.y).cols (by rw[nT,aw (by exact q)];rfl)) bR (λ_ h=>by rw[tg A.1];exact h.ax ae);refine ar ?_;exact dr s ⟨rfl,rfl,rfl,e,by rw[nT,ag (by exact q)]⟩ bR (λ_ h=>h);rintro z d;obtain⟨t,N⟩:=d.fits (HH s.abs) o;obtain⟨O,P,Q,R,S⟩:=t.nums;refine aS ?_;refine a6 (l0:=aO z) ae rfl E1 rfl (λc b=>HG c z (b.bo ae) d.wf t aa) (λi a=>?_);refine aS ?_;obtain⟨D,T⟩:=a.fits (td z.abs) t;rw[←a.g];refine bx ?_;refine b1 rfl (λu=>?_) (λu=>?_);refine bF [0,1,2,3,4,5,6,7] 1 [[(8,true,[])]] ?_;refine aQ ?_;refine cJ (λc b=>Q1 c i.ap b a.wf.r D.bD i.y) (λE F=>?_);refine aS ?_;intro p f;have v:j8 s.abs n=o6 z.abs:=by rw[tf,ag (by exact j),ag (by have k: ¬s.bg.wrap=false:=(by simpa using m);exact k),d.abs]
 exact kJ { i with x:=0 } E ⟨a.g.trans d.g,a.ap.trans d.ap,a.st.trans d.st⟩ ⟨a.wf.r,a.wf.st,a.wf.n⟩ F (l4 i.ap.abs i.y true).cols (by rw[v,o6,aw u,←a.abs];rfl) rfl f ae;refine aq ?_;intro p f;have v:j8 s.abs n=o6 z.abs:=by rw[tf,ag (by exact j),ag (by have k: ¬s.bg.wrap=false:=(by simpa using m);exact k),d.abs]
 exact fb { i with x:=0 } ⟨a.g.trans d.g,a.ap.trans d.ap,a.st.trans d.st⟩ ⟨a.wf.r,a.wf.st,a.wf.n⟩ (by rw[v,o6,ag (by rw[u];decide),←a.abs];rfl) rfl f ae
def iT (s:be) (r:Int):be:=if dw r=0 then gr s (λp=>xK p s.y (s.x - 1) r) else s
def kK (s:be) (w:Int):be:=if s.bg.put=true then gr s (λp=>vc p s.y s.x w (an s) (aM s)) else s
def Bk (s:be) (r w:Int):be:={ gr s (λp=>vb p s.y s.x r s.bg.at_) with x:=s.x+w,last:=r }
theorem x2 (s:be) (r:Int):rr s r=if dw r<1 then iT s r else Bk (kK (j8 (iT s r) (dw r)) (dw r)) r (dw r):=rfl
theorem x3 (s:be) (r:Int):cS 0 s (iT s r):=by
 unfold iT;split
 exact hY s (Hd s.bD _ _ _);exact cS.refl s
theorem Bl (s:be) (w:Int):cS 0 s (kK s w):=by
 unfold kK;split
 exact hY s (xS s.bD _ _ _ _ _);exact cS.refl s
theorem Sb (s:be) (w:Int): (kK s w).x=s.x:=by
 unfold kK;split <;> rfl
theorem Sc (s:be) (r w:Int) (h:dX s→0≤s.x+w∧s.x+w≤s.cols):cS 0 s (Bk s r w):=by
 have a:=hY s (vh s.bD s.y s.x r s.bg.at_)
 exact⟨λk=>⟨(a.wf k).bD,(a.wf k).y,by have:=h k;have e:=a.cols;show 0≤s.x+w∧s.x+w≤(vb s.bD s.y s.x r s.bg.at_).cols;rw[(vh s.bD s.y s.x r s.bg.at_).cols];exact this,(a.wf k).top⟩,a.rows,a.cols,a.room,a.bf⟩
theorem HJ (r:Int) (h: ¬dw r<1):1≤dw r∧dw r≤2:=by
 rcases AW r with e | e | e | e <;> omega
theorem HK (s:be) (r:Int):cS 2 s (rr s r):=by
 rw[x2];split
 ·exact (x3 s r).mono aa
 ·rename_i h
  have c:=HJ r h
  have d:=(x3 s r).trans (Bj (iT s r) (dw r) ⟨aa,c.2⟩)
  have a:=d.trans (Bl _ (dw r))
  refine⟨λk=>?_,?_,?_,?_,?_⟩
  ·have f:=(x3 s r).wf k
   have g:=HI (iT s r) (dw r) ⟨aa,c.2⟩ f
   exact (Sc _ r (dw r) (λ_=>by
    rw[Sb];have e: (kK (j8 (iT s r) (dw r)) (dw r)).cols=(iT s r).cols:=((Bj (iT s r) (dw r) ⟨aa,c.2⟩).trans (Bl _ (dw r))).cols
    rw[e];omega)).wf (a.wf k)
  all_goals
   have b:=hY (kK (j8 (iT s r) (dw r)) (dw r)) (vh (kK (j8 (iT s r) (dw r)) (dw r)).bD (kK (j8 (iT s r) (dw r)) (dw r)).y (kK (j8 (iT s r) (dw r)) (dw r)).x r (kK (j8 (iT s r) (dw r)) (dw r)).bg.at_)
  ·exact (a.trans b).rows
  ·exact (a.trans b).cols
  ·exact (a.trans b).room
  ·exact ((a.trans b).mono aa).bf
theorem HL (w:World) (s:bl) (D:a8 w (aO s)) (k:dR s) (m:dX s.abs) (L:s.ap.bf.l.length≤1152920000000) (r:Int):
 Calls prog 215 [ptr s.g,.int .i32 r].toArray w (eo s (.tuple #[]) (rr s.abs r) w):=by
 obtain⟨M,N,O,P,Q⟩:=m.nums;have R:=AW r
 refine bI func215 ntmps215 D ?_;refine ah ?_;refine ao rfl Ah rfl (λb d=>AY b r) ?_;refine aQ ?_;refine hL (λz:bl=>[(0,ptr z.g),(1,.int .i32 r),(4,.int .i64 (dw r))]) (λz=>af w (aB (aO s)) (aO z)) (λz=>hX s (iT s.abs r) z) ?_ ?_;refine aj (λo=>?_) (λo=>?_);refine bF [0,1,2,3,4,5,6,7,8,9,10,11,12,13] 1 [[(14,true,[])]] ?_;refine dB ?_;refine cJ (λb d=>Q4 b s.ap d k.r m.bD s.y (s.x - 1) r) (λE v=>?_);refine ah ?_;exact dr { s with ap:=E } (x1 s ⟨rfl,rfl,rfl⟩ k v (Hd s.ap.abs _ _ _).cols (by rw[iT,aw o];rfl)) (em rfl rfl rfl) (λ_ h=>by rw[tg v.1];exact h.ax ae);refine ar ?_;exact dr s ⟨rfl,rfl,rfl,k,by rw[iT,ag o]⟩ bR (λ_ h=>h);rintro z c;obtain⟨i,S⟩:=c.fits (x3 s.abs r) m;obtain⟨T,U,V,W,X⟩:=i.nums;refine aK ?_;refine aj (λj=>?_) (λj=>?_);refine ah ?_;intro F p;exact aP.bQ z ⟨c.g,c.ap,c.st,c.wf,by rw[x2,aw j,c.abs]⟩ rfl p;have q:=HJ r j
 refine al ?_;refine a6 (l0:=aO z) ae rfl OH rfl (λb d=>Sa b z (d.bo ae) c.wf i aa (dw r) q) (λa e=>?_);refine aQ ?_;obtain⟨A,Y⟩:=e.fits (Bj z.abs (dw r) ⟨aa,q.2⟩) i;have G:=HI z.abs (dw r) ⟨aa,q.2⟩ i
 rw[←e.abs] at G
 rw[←e.g];refine ah ?_;refine hL (λu:bl=>[(0,ptr u.g),(1,.int .i32 r),(4,.int .i64 (dw r))]) (λu=>af w (aB (aO s)) (aO u)) (λu=>hX a (kK a.abs (dw r)) u) ?_ ?_;refine b1 rfl (λt=>?_) (λt=>?_);refine bF [0,1,2,3,4,5,6,7,8,9,10,11,12,13] 2 [[(14,false,[]),(15,true,[])]] ?_;refine dB ?_;refine ao rfl k8 rfl (λb d=>lq b a (d.has aT)) ?_;refine ah ?_;refine cJ (λb d=>GW b a.ap d e.wf.r A.bD a.y a.x (dw r) a.bg.at_.an a.bg.at_.aM) (λH B=>?_);refine ah ?_;exact dr { a with ap:=H } (x1 a ⟨rfl,rfl,rfl⟩ e.wf B (xS a.ap.abs _ _ _ _ _).cols (by rw[kK,aw (by exact t)];rfl)) (em rfl rfl rfl) (λ_ h=>by rw[tg B.1];exact h.ax ae);refine ar ?_;exact dr a ⟨rfl,rfl,rfl,e.wf,by rw[kK,ag (by rw[show a.abs.bg.put=a.bg.put from rfl,t];decide)]⟩ bR (λ_ h=>h);rintro u f;obtain⟨C,Z⟩:=f.fits (Bl a.abs (dw r)) A;obtain⟨Za,Zb,Zc,Zd,Ze⟩:=C.nums;refine aq ?_;refine bF [0,1,2,3,4,5,6,7,8,9,10,11,12,13,14,15,16,17] 1 [[(18,true,[])]] ?_;refine hq ?_;refine cJ (λb d=>GV b u.ap d f.wf.r C.bD u.y u.x r u.bg.at_) (λI J=>?_);refine sQ ?_;intro F p;have K:rr s.abs r=Bk u.abs r (dw r):=by rw[x2,ag j,f.abs,e.abs,c.abs]
 exact kJ { u with x:=u.x+dw r,last:=r } I ⟨(f.g.trans e.g).trans c.g,(f.ap.trans e.ap).trans c.ap,(f.st.trans e.st).trans c.st⟩ ⟨f.wf.r,f.wf.st,f.wf.n⟩ J (vh u.ap.abs _ _ _ _).cols (by rw[K];rfl) rfl p ae
def th (s:be) (y x:Int):be:=
 if s.bg.home=true then { s with y:=s.top+fD y 0 (s.cR - s.top),x:=fD x 0 (s.cols - 1) }
 else { s with y:=0+fD y 0 (s.rows - 1 - 0),x:=fD x 0 (s.cols - 1) }
theorem lr {n lo hi:Int} (h:lo≤hi):lo≤fD n lo hi∧fD n lo hi≤hi:=by unfold fD;omega
theorem x4 (s:be) {y x:Int} (h:dX s→(0≤y∧y<s.rows)∧(0≤x∧x≤s.cols)):cS 0 s { s with y:=y,x:=x }:=⟨λw=>⟨w.bD,(h w).1,(h w).2,w.top⟩,rfl,rfl,rfl,by show s.bD.gi.length≤_;omega⟩
theorem HM (s:be) (y x:Int):cS 0 s (th s y x):=by
 unfold th;split
 refine x4 s (λw=>?_);have a:=w.top;have b:=w.bD.cols;have c:=w.bD.rows
 have d:=lr (n:=y) (lo:=0) (hi:=s.cR - s.top) aa
 have e:=lr (n:=x) (lo:=0) (hi:=s.cols - 1) (by simp only[be.cols];omega)
 simp only[be.cols,be.rows] at *
 omega
 refine x4 s (λw=>?_);have a:=w.top;have b:=w.bD.cols;have c:=w.bD.rows
 have d:=lr (n:=y) (lo:=0) (hi:=s.rows - 1 - 0) (by simp only[be.rows];omega)
 have e:=lr (n:=x) (lo:=0) (hi:=s.cols - 1) (by simp only[be.cols];omega)
 simp only[be.cols,be.rows] at *
 omega
def HN (s:be):be:={ s with x:=max 0 (fE s - 1) }
theorem Sd (s:be):cS 0 s (HN s):=o4 s (λw=>by have:=xZ w;have:=w.bD.cols;simp only[be.cols] at *;omega)
theorem tj (s:be):cS 0 s { s with x:=0 }:=o4 s (λw=>by have:=w.bD.cols;simp only[be.cols] at *;omega)
theorem x5 (w:World) (s:bl) (a:a8 w (aO s)) (b:dR s) (c:dX s.abs) (j:s.ap.bf.l.length≤1152920000000):
 Calls prog 167 [ptr s.g].toArray w (eo s (.tuple #[]) (iS s.abs).1 w):=by
 refine bI func167 ntmps167 a ?_;refine aJ ?_;refine a6 (l0:=aO s) ae rfl E1 rfl (λd e=>HG d s (e.bo ae) b c aa) (λf h=>?_);refine aq ?_;intro k i;exact aN f h i
theorem HO (w:World) (s:bl) (b:a8 w (aO s)) (a:dR s):
 Calls prog 169 [ptr s.g].toArray w (eo s (.tuple #[]) { s.abs with x:=0 } w):=by
 refine bI func169 ntmps169 b ?_;refine b7 ?_;intro d c;exact fb { s with x:=0 } ⟨rfl,rfl,rfl⟩ ⟨a.r,a.st,a.n⟩ rfl rfl c ae
theorem Se (w:World) (s:bl) (c:a8 w (aO s)) (a:dR s) (d:dX s.abs):
 Calls prog 165 [ptr s.g].toArray w (eo s (.tuple #[]) (HN s.abs) w):=by
 obtain⟨i,e,j,k,l⟩:=d.nums;refine bI func165 ntmps165 c ?_;refine aQ ?_;refine ao rfl jg rfl (λf b=>jq f s (b.has aT) (b.has bJ) e) ?_;refine aC ?_;intro m h;exact fb { s with x:=max 0 (min s.x (s.ap.cols - 1) - 1) } ⟨rfl,rfl,rfl⟩ ⟨a.r,a.st,a.n⟩ rfl rfl h ae
theorem HP (w:World) (s:bl) (f:a8 w (aO s)) (c:dR s) (h:dX s.abs) (y x:Int):
 Calls prog 247 [ptr s.g,.int .i64 y,.int .i64 x].toArray w (eo s (.tuple #[]) (th s.abs y x) w):=by
 obtain⟨k,m,o,p,q⟩:=h.nums;have i:=l6 s
 have t:=lr (n:=y) (lo:=0) (hi:=s.cR - s.top) aa
 have u:=lr (n:=y) (lo:=0) (hi:=(s.ap.s.l.length:Int) - 1 - 0) aa
 refine bI func247 ntmps247 f ?_;refine bH ?_;refine ao rfl nu rfl (λa b=>nS a s s.ap rfl (b.has aT) (b.has bJ)) ?_;refine dB ?_;refine b1 rfl (λd=>?_) (λd=>?_);refine bF [0,1,2,3,4,5,6,7,8,9] 0 [[]] ?_;refine hr ?_;refine ao rfl nw rfl (λa b=>nR a _ _ _) ?_;refine aQ ?_;refine ao rfl jE rfl (λa b=>j9 a { s with y:=s.top+fD y 0 (s.cR - s.top) } s.ap rfl (b.has aT) (b.has bJ)) ?_;refine ar ?_;refine ao rfl nw rfl (λa b=>nR a _ _ _) ?_;refine ay ?_;intro j e;exact fb { s with y:=s.top+fD y 0 (s.cR - s.top),x:=fD x 0 (s.ap.cols - 1) } ⟨rfl,rfl,rfl⟩ ⟨c.r,c.st,c.n⟩ (by rw[th,aw (by exact d)];rfl) rfl e ae;refine aQ ?_;refine ao rfl nw rfl (λa b=>nR a _ _ _) ?_;refine aQ ?_;refine ao rfl jE rfl (λa b=>j9 a { s with y:=0+fD y 0 ((s.ap.s.l.length:Int) - 1 - 0) } s.ap rfl (b.has aT) (b.has bJ)) ?_;refine ar ?_;refine ao rfl nw rfl (λa b=>nR a _ _ _) ?_;refine ay ?_;intro j e;exact fb { s with y:=0+fD y 0 ((s.ap.s.l.length:Int) - 1 - 0),x:=fD x 0 (s.ap.cols - 1) } ⟨rfl,rfl,rfl⟩ ⟨c.r,c.st,c.n⟩ (by rw[th,ag (by rw[show s.abs.bg.home=s.bg.home from rfl,d];decide),be.rows,i];rfl) rfl e ae
theorem c7.nums {p:bq} (h:c7 p.abs): (1≤(p.s.l.length:Int)∧(p.s.l.length:Int)≤1000)∧(2≤p.cols∧p.cols≤1000):=by
 have c: (b5 p.s.l).length=p.s.l.length:=by simp[b5]
 obtain⟨a,b,-,-,-⟩:=h;simp only[bq.abs] at a b
 rw[c] at b
 exact⟨aa,a⟩
def vn (s:be):be:={ s with top:=0,cR:=s.rows - 1 }
def x6 (s:be) (y x:Int):be:={ s with y:=fD y 0 (s.rows - 1),x:=fD x 0 (s.cols - 1) }
theorem x7 (s:be) (y x:Int):cS 0 s (x6 s y x):=by
 refine x4 s (λw=>?_);have a:=w.bD.cols;have b:=w.bD.rows
 have c:=lr (n:=y) (lo:=0) (hi:=s.rows - 1) (by simp only[be.rows];omega)
 have d:=lr (n:=x) (lo:=0) (hi:=s.cols - 1) (by simp only[be.cols];omega)
 simp only[be.cols,be.rows] at *
 omega
theorem HQ (s:be):cS 0 s (vn s):=⟨λw=>⟨w.bD,w.y,w.x,by have:=w.bD.rows;show (0 :Int)≤0∧0≤(s.bD.cG.length:Int) - 1∧(s.bD.cG.length:Int) - 1<s.bD.cG.length;omega⟩,rfl,rfl,rfl,bW _⟩
def HR (s:be) (n:Int):be:=let s:={ s with x:=fE s };gr s (λp=>vc p s.y s.x (max 1 n) (an s) (aM s))
def HS (s:be) (n:Int):be:=let s:={ s with x:=fE s };gr s (λp=>A3 p s.y s.x (max 1 n) (an s) (aM s))
def HT (s:be) (n:Int):be:=let s:={ s with x:=fE s };gr s (λp=>eraseP p s.y s.x (s.x+fD n 1 1000) (an s) (aM s))
theorem Bm (s:be):cS 0 s { s with x:=fE s }:=o4 s (λw=>xZ w)
theorem Sf (s:be) (n:Int):cS 0 s (HR s n):=(Bm s).trans (hY { s with x:=fE s } (xS s.bD s.y (fE s) (max 1 n) (an s) (aM s)))
theorem Sg (s:be) (n:Int):cS 0 s (HS s n):=(Bm s).trans (hY { s with x:=fE s } (Hf s.bD s.y (fE s) (max 1 n) (an s) (aM s)))
theorem Sh (s:be) (n:Int):cS 0 s (HT s n):=(Bm s).trans (hY { s with x:=fE s } (o2 s.bD s.y (fE s) (fE s+fD n 1 1000) (an s) (aM s)))
theorem vo (w:World) (s:bl) (c:a8 w (aO s)) (a:dR s) (d:c7 s.ap.abs):
 Calls prog 137 [ptr s.g].toArray w (eo s (.tuple #[]) (vn s.abs) w):=by
 obtain⟨i,j⟩:=d.nums;have e:=l6 s
 refine bI func137 ntmps137 c ?_;refine aS ?_;refine ao rfl nu rfl (λf b=>nS f s s.ap rfl (b.has aT) (b.has bJ)) ?_;refine aJ ?_;intro k h;exact fb { s with top:=0,cR:=(s.ap.s.l.length:Int) - 1 } ⟨rfl,rfl,rfl⟩ ⟨a.r,a.st,a.n⟩ (by rw[vn,be.rows,e];rfl) rfl h ae
theorem x8 (w:World) (s:bl) (d:a8 w (aO s)) (c:dR s) (e:c7 s.ap.abs) (y x:Int):
 Calls prog 233 [ptr s.g,.int .i64 y,.int .i64 x].toArray w (eo s (.tuple #[]) (x6 s.abs y x) w):=by
 obtain⟨i,j⟩:=e.nums;have f:=l6 s
 refine bI func233 ntmps233 d ?_;refine ay ?_;refine ao rfl nu rfl (λa b=>nS a s s.ap rfl (b.has aT) (b.has bJ)) ?_;refine ar ?_;refine ao rfl nw rfl (λa b=>nR a _ _ _) ?_;refine aq ?_;refine ao rfl jE rfl (λa b=>j9 a s s.ap rfl (b.has aT) (b.has bJ)) ?_;refine ar ?_;refine ao rfl nw rfl (λa b=>nR a _ _ _) ?_;refine aK ?_;intro k h;exact fb { s with y:=fD y 0 ((s.ap.s.l.length:Int) - 1),x:=fD x 0 (s.ap.cols - 1) } ⟨rfl,rfl,rfl⟩ ⟨c.r,c.st,c.n⟩ (by rw[x6,be.rows,f];rfl) rfl h ae
theorem Si (w:World) (s:bl) (e:a8 w (aO s)) (c:dR s) (d:dX s.abs) (n:Int):
 Calls prog 248 [ptr s.g,.int .i64 n].toArray w (eo s (.tuple #[]) (HR s.abs n) w):=by
 obtain⟨k,f,l,m,o⟩:=d.nums;refine bI func248 ntmps248 e ?_;refine bp ?_;refine ao rfl jg rfl (λb a=>jq b s (a.has aT) (a.has bJ) f) ?_;refine ay ?_;refine bF [0,1,2,3,4,5,6,7,8,9,10,11,12,13,14] 2 [[(15,false,[]),(16,true,[])]] ?_;refine ey ?_;refine ao rfl k8 rfl (λb a=>lq b (ht s) (a.has aT)) ?_;refine ah ?_;refine cJ (λb a=>GW b s.ap a c.r d.bD s.y (min s.x (s.ap.cols - 1)) (max 1 n) s.bg.at_.an s.bg.at_.aM) (λh i=>?_);refine aS ?_;intro p j;exact kJ (ht s) h ⟨rfl,rfl,rfl⟩ ⟨c.r,c.st,c.n⟩ i (xS s.ap.abs _ _ _ _ _).cols rfl rfl j ae
theorem Sj (w:World) (s:bl) (e:a8 w (aO s)) (c:dR s) (d:dX s.abs) (n:Int):
 Calls prog 251 [ptr s.g,.int .i64 n].toArray w (eo s (.tuple #[]) (HS s.abs n) w):=by
 obtain⟨k,f,l,m,o⟩:=d.nums;refine bI func251 ntmps251 e ?_;refine bp ?_;refine ao rfl jg rfl (λb a=>jq b s (a.has aT) (a.has bJ) f) ?_;refine ay ?_;refine bF [0,1,2,3,4,5,6,7,8,9,10,11,12,13,14] 2 [[(15,false,[]),(16,true,[])]] ?_;refine ey ?_;refine ao rfl k8 rfl (λb a=>lq b (ht s) (a.has aT)) ?_;refine ah ?_;refine cJ (λb a=>Q7 b s.ap a c.r d.bD s.y (min s.x (s.ap.cols - 1)) (max 1 n) s.bg.at_.an s.bg.at_.aM) (λh i=>?_);refine aS ?_;intro p j;exact kJ (ht s) h ⟨rfl,rfl,rfl⟩ ⟨c.r,c.st,c.n⟩ i (Hf s.ap.abs _ _ _ _ _).cols rfl rfl j ae
theorem Sk (w:World) (s:bl) (e:a8 w (aO s)) (c:dR s) (d:dX s.abs) (n:Int):
 Calls prog 253 [ptr s.g,.int .i64 n].toArray w (eo s (.tuple #[]) (HT s.abs n) w):=by
 obtain⟨k,f,l,m,o⟩:=d.nums;have p:=lr (n:=n) (lo:=1) (hi:=1000) aa
 refine bI func253 ntmps253 e ?_;refine bp ?_;refine ao rfl jg rfl (λa b=>jq a s (b.has aT) (b.has bJ) f) ?_;refine ay ?_;refine bF [0,1,2,3,4,5,6,7,8,9,10,11,12,13,14,15,16,19] 3 [[(17,false,[18]),(20,false,[]),(21,true,[])]] ?_;refine hq ?_;refine ao rfl nw rfl (λa b=>nR a _ _ _) ?_;refine aS ?_;refine ao rfl k8 rfl (λa b=>lq a (ht s) (b.has aT)) ?_;refine ah ?_;refine a6 (l0:=bB s.ap) ae rfl uN rfl (λa b=>vj a s.ap (b.bo ae) c.r d.bD s.y (min s.x (s.ap.cols - 1)) (min s.x (s.ap.cols - 1)+fD n 1 1000) s.bg.at_.an s.bg.at_.aM aa) (λh i=>?_);refine aS ?_;intro q j;exact kJ (ht s) h ⟨rfl,rfl,rfl⟩ ⟨c.r,c.st,c.n⟩ i (o2 s.ap.abs _ _ _ _ _).cols rfl rfl j ae
def o7 (s:be):Bool:=decide (s.top≤s.y∧s.y≤s.cR)
def vp (s:be) (n:Int):be:=if o7 s=true then gr { s with x:=0 } (λp=>hV p s.y s.cR (max 1 n) (λp a b=>o1 p a b (an s) (aM s))) else s
def vq (s:be) (n:Int):be:=if o7 s=true then gr { s with x:=0 } (λp=>hV p s.y s.cR (max 1 n) (λp a b=>s8 p a b (an s) (aM s))) else s
def tk (s:be) (n:Int):be:=
 if 0<n then gr s (λp=>hV p s.top s.cR n (λp a b=>mS p a b (an s) (aM s)))
 else if n<0 then gr s (λp=>hV p s.top s.cR (0 - max n (-1000)) (λp a b=>o1 p a b (an s) (aM s))) else s
theorem tl {s:be} (w:dX s):s.bD.cG.length≤1000:=w.bD.rows.2
theorem Sl (s:be) (h:s.bD.cG.length≤1000) (n:Int):cS 2000 s (vp s n):=by
 unfold vp;split
 exact ((tj s).trans (hY { s with x:=0 } (qe s.bD s.y s.cR (max 1 n) (λq a b c d=>rq q c d (an s) (aM s))))).mono (by show 0+2*s.bD.cG.length≤2000;omega);exact (cS.refl s).mono aa
theorem Sm (s:be) (h:s.bD.cG.length≤1000) (n:Int):cS 2000 s (vq s n):=by
 unfold vq;split
 exact ((tj s).trans (hY { s with x:=0 } (qe s.bD s.y s.cR (max 1 n) (λq a b c d=>xR q c d (an s) (aM s))))).mono (by show 0+2*s.bD.cG.length≤2000;omega);exact (cS.refl s).mono aa
theorem Sn (s:be) (h:s.bD.cG.length≤1000) (n:Int):cS 2000 s (tk s n):=by
 unfold tk;split
 exact (hY s (qe s.bD s.top s.cR n (λq a b c d=>vd q c d (an s) (aM s)))).mono aa;split
 exact (hY s (qe s.bD s.top s.cR _ (λq a b c d=>rq q c d (an s) (aM s)))).mono aa;exact (cS.refl s).mono aa
abbrev x9 (s:bl):bl:={ s with x:=0 }
theorem HU (w:World) (s:bl) (f:a8 w (aO s)) (a:dR s):
 Calls prog 334 [ptr s.g].toArray w (eo s (.bool (o7 s.abs)) (if o7 s.abs=true then (x9 s).abs else s.abs) w):=by
 have b:o7 s.abs=decide (s.top≤s.y∧s.y≤s.cR):=rfl
 refine bI func334 ntmps334 f ?_;refine aC ?_;refine bF [0,1,2,3,4,5,6,7,8,9,10,11,12,13,14,15,16,17,18,19,20,21,22,23] 0 [[]] ?_;refine b7 ?_;refine ny 16 rfl (λd=>?_) (λd=>?_);have h:=aX d
 refine kA ?_;intro e c;exact fb s ⟨rfl,rfl,rfl⟩ ⟨a.r,a.st,a.n⟩ (by rw[b,ag (by rw[e9];omega)]) (by rw[b,cg aa]) c ae;have h:=bd d
 refine bH ?_;refine aj (λaH=>?_) (λaH=>?_);refine aK ?_;intro e c;exact fb s ⟨rfl,rfl,rfl⟩ ⟨a.r,a.st,a.n⟩ (by rw[b,ag (by rw[e9];omega)]) (by rw[b,cg aa]) c ae;refine ey ?_;intro e c;exact fb (x9 s) ⟨rfl,rfl,rfl⟩ ⟨a.r,a.st,a.n⟩ (by rw[b,aw (bX aa)]) (by rw[b,bX aa]) c ae
theorem So (w:World) (s:bl) (p:a8 w (aO s)) (c:dR s) (i:dX s.abs) (u:s.ap.bf.l.length≤1152920000000) (n:Int):
 Calls prog 252 [ptr s.g,.int .i64 n].toArray w (eo s (.tuple #[]) (tk s.abs n) w):=by
 obtain⟨v,x,y,z,h⟩:=i.nums;refine bI func252 ntmps252 p ?_;refine dB ?_;refine aj (λt=>?_) (λt=>?_);refine bF [0,1,2,3,4,5,6,7,8,9,10,11,12,13] 2 [[(14,false,[]),(15,true,[])]] ?_;refine dB ?_;refine ao rfl k8 rfl (λd e=>lq d s (e.has aT)) ?_;refine ah ?_;refine a6 (l0:=bB s.ap) ae rfl OM rfl (λd e=>G9 d s.ap (e.bo ae) c.r i.bD aa s.top s.cR n s.bg.at_.an s.bg.at_.aM) (λj k=>?_);refine ay ?_;intro o f;exact kJ s j ⟨rfl,rfl,rfl⟩ ⟨c.r,c.st,c.n⟩ k (qe s.ap.abs s.top s.cR n (λq a b m h=>vd q m h s.bg.at_.an s.bg.at_.aM)).cols (by rw[tk,aw aa];rfl) rfl f ae;refine aC ?_;refine aj (λaH=>?_) (λaH=>?_);refine bF [0,1,2,3,4,5,6,7,8,9,10,11,12,13,14,15] 2 [[(16,false,[]),(17,true,[])]] ?_;refine b7 ?_;refine aL rfl (λA B=>(oG rfl rfl (wrap64 aa aa) aG)) ?_;refine ah ?_;refine ao rfl k8 rfl (λd e=>lq d s (e.has aT)) ?_;refine ah ?_;refine a6 (l0:=bB s.ap) ae rfl Fj rfl (λd e=>Be d s.ap (e.bo ae) c.r i.bD aa s.top s.cR _ s.bg.at_.an s.bg.at_.aM) (λj k=>?_);refine ay ?_;intro o f;exact kJ s j ⟨rfl,rfl,rfl⟩ ⟨c.r,c.st,c.n⟩ k (qe s.ap.abs s.top s.cR _ (λq a b m h=>rq q m h s.bg.at_.an s.bg.at_.aM)).cols (by rw[tk,ag aa,aw aa];rfl) rfl f ae;refine ah ?_;intro o f;exact fb s ⟨rfl,rfl,rfl⟩ c (by rw[tk,ag aa,ag aa]) rfl f ae
theorem Sp (w:World) (s:bl) (p:a8 w (aO s)) (t:dR s) (k:dX s.abs) (F:s.ap.bf.l.length≤1152920000000) (n:Int):
 Calls prog 249 [ptr s.g,.int .i64 n].toArray w (eo s (.tuple #[]) (vp s.abs n) w):=by
 obtain⟨G,H,I,J,m⟩:=k.nums;refine bI func249 ntmps249 p ?_;refine ah ?_;refine cJ (λh i=>HU h s i t) (λc d=>?_);refine aq ?_;refine aj (λe=>?_) (λe=>?_);have e:o7 s.abs=true:=bX e
 rw[aw e] at d
 have f:c.abs=(x9 s).abs:=d.abs
 have u:c.y=s.y:=aU be.y f
 have v:c.cR=s.cR:=aU be.cR f
 have x:c.bg=s.bg:=aU be.bg f
 have o:c.ap.abs=s.ap.abs:=aU be.bD f
 have A:dX c.abs:=by rw[f];exact (tj s.abs).wf k
 have c8:c.ap.bf.l.length=s.ap.bf.l.length:=by have:=aU (λz=>z.gi.length) o;simpa [bq.abs] using this
 rw[←d.g];refine bF [0,1,2,3,4,5,6,7,8,9,10,11,12,13,14] 2 [[(15,false,[]),(16,true,[])]] ?_;refine ey ?_;refine ao rfl k8 rfl (λh i=>lq h c (i.has aT)) ?_;refine ah ?_;refine a6 (l0:=bB c.ap) ae rfl Fj rfl (λh i=>Be h c.ap (i.bo ae) d.wf.r A.bD aa c.y c.cR (max 1 n) c.bg.at_.an c.bg.at_.aM) (λB C=>?_);refine aS ?_;intro D j;exact kJ c B ⟨d.g,d.ap,d.st⟩ d.wf C (qe c.ap.abs _ _ _ (λq a b E m=>rq q E m _ _)).cols (by rw[vp,aw e,o,u,v,x,f];rfl) rfl j ae;have e:o7 s.abs=false:=cg e
 refine aq ?_;intro D j;exact aP.bQ c (by rw[vp];rw[ag (by rw[e];decide)] at d ⊢;exact d) rfl j
theorem Sq (w:World) (s:bl) (p:a8 w (aO s)) (t:dR s) (k:dX s.abs) (F:s.ap.bf.l.length≤1152920000000) (n:Int):
 Calls prog 250 [ptr s.g,.int .i64 n].toArray w (eo s (.tuple #[]) (vq s.abs n) w):=by
 obtain⟨G,H,I,J,m⟩:=k.nums;refine bI func250 ntmps250 p ?_;refine ah ?_;refine cJ (λh i=>HU h s i t) (λc d=>?_);refine aq ?_;refine aj (λe=>?_) (λe=>?_);have e:o7 s.abs=true:=bX e
 rw[aw e] at d
 have f:c.abs=(x9 s).abs:=d.abs
 have u:c.y=s.y:=aU be.y f
 have v:c.cR=s.cR:=aU be.cR f
 have x:c.bg=s.bg:=aU be.bg f
 have o:c.ap.abs=s.ap.abs:=aU be.bD f
 have A:dX c.abs:=by rw[f];exact (tj s.abs).wf k
 have c8:c.ap.bf.l.length=s.ap.bf.l.length:=by have:=aU (λz=>z.gi.length) o;simpa [bq.abs] using this
 rw[←d.g];refine bF [0,1,2,3,4,5,6,7,8,9,10,11,12,13,14] 2 [[(15,false,[]),(16,true,[])]] ?_;refine ey ?_;refine ao rfl k8 rfl (λh i=>lq h c (i.has aT)) ?_;refine ah ?_;refine a6 (l0:=bB c.ap) ae rfl OU rfl (λh i=>Rz h c.ap (i.bo ae) d.wf.r A.bD aa c.y c.cR (max 1 n) c.bg.at_.an c.bg.at_.aM) (λB C=>?_);refine aS ?_;intro D j;exact kJ c B ⟨d.g,d.ap,d.st⟩ d.wf C (qe c.ap.abs _ _ _ (λq a b E m=>xR q E m _ _)).cols (by rw[vq,aw e,o,u,v,x,f];rfl) rfl j ae;have e:o7 s.abs=false:=cg e
 refine aq ?_;intro D j;exact aP.bQ c (by rw[vq];rw[ag (by rw[e];decide)] at d ⊢;exact d) rfl j
def rs (s:be) (t b:Int):be:=if 0≤t∧b<s.rows∧t<b then th { s with top:=t,cR:=b } 0 0 else s
theorem Sr (s:be) (t b:Int):cS 0 s (rs s t b):=by
 unfold rs;split
 rename_i h;have a:cS 0 s { s with top:=t,cR:=b }:=⟨λw=>⟨w.bD,w.y,w.x,by show 0≤t∧t≤b∧b<s.rows;omega⟩,rfl,rfl,rfl,bW _⟩
 exact a.trans (HM _ 0 0);exact cS.refl s
def o8 (s:be) (p w h:Bool):be:={ s with bg:={ s.bg with put:=p,wrap:=w,home:=h } }
def Ss (s:be) (c:fZ):be:={ s with bg:={ s.bg with aF:=c } }
theorem tm (s:be) (p:gH):cS 0 s { s with bg:=p }:=⟨λw=>⟨w.bD,w.y,w.x,w.top⟩,rfl,rfl,rfl,bW _⟩
theorem St (w:World) (s:bl) (l:a8 w (aO s)) (c:dR s) (f:dX s.abs) (t b:Int):
 Calls prog 258 [ptr s.g,.int .i64 t,.int .i64 b].toArray w (eo s (.tuple #[]) (rs s.abs t b) w):=by
 obtain⟨u,v,z,A,B⟩:=f.nums;have d:=l6 s
 refine bI func258 ntmps258 l ?_;refine bp ?_;refine aW 12 rfl (λi=>?_) (λi=>?_);have m:=aX i
 refine ay ?_;refine ao rfl nu rfl (λj h=>nS j s s.ap rfl (h.has aT) (h.has bJ)) ?_;refine aS ?_;refine aW 18 rfl (λaH=>?_) (λaH=>?_);have o:=aX aH
 refine aJ ?_;refine aj (λp=>?_) (λp=>?_);refine dB ?_;refine a6 (l0:=aO { s with top:=t,cR:=b }) ae rfl pQ rfl (λj h=>HP j { s with top:=t,cR:=b } (h.bo ae) ⟨c.r,c.st,c.n⟩ ⟨f.bD,f.y,f.x,by show 0≤t∧t≤b∧b<s.abs.rows;rw[be.rows,d];omega⟩ 0 0) (λq e=>?_);refine aq ?_;intro k a;exact aN q ⟨e.g,e.ap,e.st,e.wf,by rw[rs,aw (by rw[be.rows,d];omega)];exact e.abs⟩ a;refine aq ?_;intro k a;exact fb s ⟨rfl,rfl,rfl⟩ c (by rw[rs,ag (by rw[be.rows,d];omega)]) rfl a ae;have o:=bd aH
 refine aJ ?_;intro k a;exact fb s ⟨rfl,rfl,rfl⟩ c (by rw[rs,ag (by rw[be.rows,d];omega)]) rfl a ae;have m:=bd i
 refine cF ?_;intro k a;exact fb s ⟨rfl,rfl,rfl⟩ c (by rw[rs,ag (by rw[be.rows,d];omega)]) rfl a ae
theorem Su (w:World) (s:bl) (b:a8 w (aO s)) (a:dR s) (p x h:Bool):
 Calls prog 332 [ptr s.g,.agg [.bool p,.bool x,.bool h].toArray].toArray w (eo s (.tuple #[]) (o8 s.abs p x h) w):=by
 refine bI func332 ntmps332 b ?_;refine ah ?_;intro d e f;refine eR ?_;intro i c;exact fb { s with bg:={ s.bg with put:=p,wrap:=x,home:=h } } ⟨rfl,rfl,rfl⟩ ⟨a.r,a.st,a.n⟩ rfl rfl c ae
def HV (s:be):be:={ s with f_:=s.bg,kG:=s.y,kH:=fE s,has:=true }
theorem Sv (s:be):cS 0 s (HV s):=⟨λw=>⟨w.bD,w.y,w.x,w.top⟩,rfl,rfl,rfl,bW _⟩
def ir (a d lo hi:Int):Int:=fD (a+fD d (-1000) 1000) lo hi
def tn (s:be) (a b:Int):be:=
 let lo:=if s.top≤s.y then s.top else 0
 let hi:=if s.y≤s.cR then s.cR else s.rows - 1
 { s with y:=ir s.y a (min lo s.y) (max hi s.y),x:=ir (fE s) b 0 (s.cols - 1) }
theorem Sw (s:be) (a b:Int):cS 0 s (tn s a b):=by
 refine x4 s (λw=>?_);have g:=w.top;have h:=w.bD.cols;have i:=w.bD.rows;have j:=w.y
 have e:0≤min (if s.top≤s.y then s.top else 0) s.y∧min (if s.top≤s.y then s.top else 0) s.y≤s.y:=by split <;> omega
 have f:s.y≤max (if s.y≤s.cR then s.cR else s.rows - 1) s.y∧max (if s.y≤s.cR then s.cR else s.rows - 1) s.y<s.rows:=by split <;> omega
 have c:=lr (n:=s.y+fD a (-1000) 1000) (lo:=min (if s.top≤s.y then s.top else 0) s.y) (hi:=max (if s.y≤s.cR then s.cR else s.rows - 1) s.y) aa
 have d:=lr (n:=fE s+fD b (-1000) 1000) (lo:=0) (hi:=s.cols - 1) (by simp only[be.cols];omega)
 refine⟨⟨Int.le_trans e.1 c.1,Int.lt_of_le_of_lt c.2 f.2⟩,d.1,?_⟩;exact Int.le_trans d.2 aa
abbrev qh (s:bl) (y:Int):bl:={ s with y:=y }
theorem Sx (w:World) (s:bl) (b:a8 w (aO s)) (a:dR s) (c:fZ):
 Calls prog 170 [ptr s.g,.agg c.enc.toArray].toArray w (eo s (.tuple #[]) (Ss s.abs c) w):=by
 refine bI func170 ntmps170 b ?_;refine ah ?_;intro e f h;refine eR ?_;intro i d;exact fb { s with bg:={ s.bg with aF:=c } } ⟨rfl,rfl,rfl⟩ ⟨a.r,a.st,a.n⟩ rfl rfl d ae
theorem HW (s:bl) (p:gH) (y x:Int):df (eZ s) (0+20) [.int .i64 p.at_.di,.int .i64 p.at_.fn,.int .i64 p.at_.an,.int .i64 p.at_.aM,.int .i64 p.at_.fl,.int .i64 p.aF.fC,.int .i64 p.aF.s1,.int .i64 p.aF.s2,.int .i64 p.aF.lp,.int .i64 p.aF.use,.int .i64 p.aF.j7,.bool p.put,.bool p.wrap,.bool p.home,.int .i64 y,.int .i64 x]=eZ { s with f_:=p,kG:=y,kH:=x }:=by
 simp only[df,eZ,dE,Nat.reduceAdd,qM,mE]
theorem Sy (s:bl) (p:gH):df (eZ s) (0+0) [.int .i64 p.at_.di,.int .i64 p.at_.fn,.int .i64 p.at_.an,.int .i64 p.at_.aM,.int .i64 p.at_.fl,.int .i64 p.aF.fC,.int .i64 p.aF.s1,.int .i64 p.aF.s2,.int .i64 p.aF.lp,.int .i64 p.aF.use,.int .i64 p.aF.j7,.bool p.put,.bool p.wrap,.bool p.home]=eZ { s with bg:=p }:=by
 simp only[df,eZ,dE,Nat.reduceAdd,qM,mE]
theorem qi (w:World) (a d lo hi:Int) (f: -100000≤a∧a≤100000):Calls prog 333 [.int .i64 a,.int .i64 d,.int .i64 lo,.int .i64 hi].toArray w (Pure (.int .i64 (ir a d lo hi)) w):=by
 have g:=lr (n:=d) (lo:= -1000) (hi:=1000) aa
 refine aV func333 ntmps333 ?_;refine aJ ?_;refine ao rfl nw rfl (λb c=>nR b _ _ _) ?_;refine ah ?_;refine ao rfl nw rfl (λb c=>nR b _ _ _) ?_;refine ay ?_;intro h e;exact⟨rfl,e.ext⟩
theorem Sz (w:World) (s:bl) (k:a8 w (aO s)) (d:dR s) (m:dX s.abs) (c f:Int):
 Calls prog 246 [ptr s.g,.int .i64 c,.int .i64 f].toArray w (eo s (.tuple #[]) (tn s.abs c f) w):=by
 obtain⟨q,h,t,u,v⟩:=m.nums;have i:=l6 s
 refine bI func246 ntmps246 k ?_;refine bH ?_;refine ao rfl nu rfl (λb a=>nS b s s.ap rfl (a.has aT) (a.has bJ)) ?_;refine aC ?_;refine bF [0,1,2,3,4,5,6,7,8] 0 [[]] ?_;refine bx ?_;refine aj (λo=>?_) (λo=>?_);refine aQ ?_;refine bF [0,1,2,3,4,5,6,7,8] 0 [[]] ?_;refine bx ?_;refine aj (λaH=>?_) (λaH=>?_);refine b7 ?_;refine bF [0,1,2,3,4,5,6,7,8,9,10,11,12,13,14,15,16,17,18] 2 [[(19,false,[20,21]),(22,true,[])]] ?_;refine hr ?_;refine gU (first:=[]) (cap:=[]) rfl rfl pT rfl (λb a=>qi b s.y _ _ _ aa) ?_;refine b7 ?_;refine ao rfl jg rfl (λb a=>jq b (qh s (ir s.y c (min s.top s.y) (max s.cR s.y))) (a.has aT) (a.has bJ) h) ?_;refine aq ?_;refine ao rfl jE rfl (λb a=>j9 b (qh s (ir s.y c (min s.top s.y) (max s.cR s.y))) s.ap rfl (a.has aT) (a.has bJ)) ?_;refine ar ?_;refine gU (first:=[]) (cap:=[]) rfl rfl pT rfl (λb a=>qi b (min s.x (s.ap.cols - 1)) _ _ _ aa) ?_;refine ay ?_;intro j e;exact fb { s with y:=ir s.y c (min s.top s.y) (max s.cR s.y),x:=ir (min s.x (s.ap.cols - 1)) f 0 (s.ap.cols - 1) } ⟨rfl,rfl,rfl⟩ ⟨d.r,d.st,d.n⟩ (by rw[tn,be.rows,i,aw bv,aw bv];rfl) rfl e ae;refine aK ?_;refine bF [0,1,2,3,4,5,6,7,8,9,10,11,12,13,14,15,16,17,18] 2 [[(19,false,[20,21]),(22,true,[])]] ?_;refine hr ?_;refine gU (first:=[]) (cap:=[]) rfl rfl pT rfl (λb a=>qi b s.y _ _ _ aa) ?_;refine b7 ?_;refine ao rfl jg rfl (λb a=>jq b (qh s (ir s.y c (min s.top s.y) (max ((s.ap.s.l.length:Int) - 1) s.y))) (a.has aT) (a.has bJ) h) ?_;refine aq ?_;refine ao rfl jE rfl (λb a=>j9 b (qh s (ir s.y c (min s.top s.y) (max ((s.ap.s.l.length:Int) - 1) s.y))) s.ap rfl (a.has aT) (a.has bJ)) ?_;refine ar ?_;refine gU (first:=[]) (cap:=[]) rfl rfl pT rfl (λb a=>qi b (min s.x (s.ap.cols - 1)) _ _ _ aa) ?_;refine ay ?_;intro j e;exact fb { s with y:=ir s.y c (min s.top s.y) (max ((s.ap.s.l.length:Int) - 1) s.y),x:=ir (min s.x (s.ap.cols - 1)) f 0 (s.ap.cols - 1) } ⟨rfl,rfl,rfl⟩ ⟨d.r,d.st,d.n⟩ (by rw[tn,be.rows,i,aw bv,ag bv];rfl) rfl e ae;refine aS ?_;refine bF [0,1,2,3,4,5,6,7,8] 0 [[]] ?_;refine bx ?_;refine aj (λp=>?_) (λp=>?_);refine b7 ?_;refine bF [0,1,2,3,4,5,6,7,8,9,10,11,12,13,14,15,16,17,18] 2 [[(19,false,[20,21]),(22,true,[])]] ?_;refine hr ?_;refine gU (first:=[]) (cap:=[]) rfl rfl pT rfl (λb a=>qi b s.y _ _ _ aa) ?_;refine b7 ?_;refine ao rfl jg rfl (λb a=>jq b (qh s (ir s.y c (min 0 s.y) (max s.cR s.y))) (a.has aT) (a.has bJ) h) ?_;refine aq ?_;refine ao rfl jE rfl (λb a=>j9 b (qh s (ir s.y c (min 0 s.y) (max s.cR s.y))) s.ap rfl (a.has aT) (a.has bJ)) ?_;refine ar ?_;refine gU (first:=[]) (cap:=[]) rfl rfl pT rfl (λb a=>qi b (min s.x (s.ap.cols - 1)) _ _ _ aa) ?_;refine ay ?_;intro j e;exact fb { s with y:=ir s.y c (min 0 s.y) (max s.cR s.y),x:=ir (min s.x (s.ap.cols - 1)) f 0 (s.ap.cols - 1) } ⟨rfl,rfl,rfl⟩ ⟨d.r,d.st,d.n⟩ (by rw[tn,be.rows,i,ag bv,aw bv];rfl) rfl e ae;refine aK ?_;refine bF [0,1,2,3,4,5,6,7,8,9,10,11,12,13,14,15,16,17,18] 2 [[(19,false,[20,21]),(22,true,[])]] ?_;refine hr ?_;refine gU (first:=[]) (cap:=[]) rfl rfl pT rfl (λb a=>qi b s.y _ _ _ aa) ?_;refine b7 ?_;refine ao rfl jg rfl (λb a=>jq b (qh s (ir s.y c (min 0 s.y) (max ((s.ap.s.l.length:Int) - 1) s.y))) (a.has aT) (a.has bJ) h) ?_;refine aq ?_;refine ao rfl jE rfl (λb a=>j9 b (qh s (ir s.y c (min 0 s.y) (max ((s.ap.s.l.length:Int) - 1) s.y))) s.ap rfl (a.has aT) (a.has bJ)) ?_;refine ar ?_;refine gU (first:=[]) (cap:=[]) rfl rfl pT rfl (λb a=>qi b (min s.x (s.ap.cols - 1)) _ _ _ aa) ?_;refine ay ?_;intro j e;exact fb { s with y:=ir s.y c (min 0 s.y) (max ((s.ap.s.l.length:Int) - 1) s.y),x:=ir (min s.x (s.ap.cols - 1)) f 0 (s.ap.cols - 1) } ⟨rfl,rfl,rfl⟩ ⟨d.r,d.st,d.n⟩ (by rw[tn,be.rows,i,ag bv,ag bv];rfl) rfl e ae
def SA (s:be) (y:Int):be:=gr s (λp=>eraseP p y 0 s.cols (an s) (aM s))
def vr (s:be) (a:Int):Nat→be
 | 0=>s
 | n+1=>SA (vr s a n) (a+n)
def vt (s:be) (a b:Int):be:=vr s a (b - a).toNat
theorem tq (s:be) (a:Int): ∀n,cS 0 s (vr s a n)
 | 0=>cS.refl s
 | n+1=>(tq s a n).trans (hY _ (o2 _ _ _ _ _ _))
theorem hX.refl {s:bl} (a:dR s):hX s s.abs s:=⟨rfl,rfl,rfl,a,rfl⟩
theorem x_ (w:World) (s:bl) (l:a8 w (aO s)) (m:dR s) (n:dX s.abs) (a b:Int) (y:0≤a∧a≤100000) (z:0≤b∧b≤100000):
 Calls prog 328 [ptr s.g,.int .i64 a,.int .i64 b].toArray w (eo s (.tuple #[]) (vt s.abs a b) w):=by
 refine bI func328 ntmps328 l ?_;refine aC ?_;refine b2 (ι:=Nat × bl) (λi=>[(0,ptr s.g),(2,.int .i64 b),(6,.int .i64 (a+(i.1 :Int)))]) (λi=>af w (aB (aO s)) (aO i.2)) (λi=>i.1≤(b - a).toNat∧hX s (vr s.abs a i.1) i.2) (λi=>(b - a).toNat - i.1) ?_ ?_;exact λw' o=>⟨(0,s),⟨bP _,hX.refl m⟩,by simp only[Int.natCast_zero,Int.add_zero];exact (em rfl rfl rfl),o⟩
 rintro⟨i,q⟩ ⟨hi,c⟩;dsimp only at hi c ⊢
 obtain⟨j,A⟩:=c.fits (tq s.abs a i) n;obtain⟨B,C,D,E,F⟩:=j.nums;rw[←c.g];refine aK ?_;refine aj (λp=>?_) (λp=>?_);refine aS ?_;refine bF [0,1,2,3,4,5,7] 3 [[(6,false,[]),(8,false,[]),(9,true,[])]] ?_;refine aJ ?_;refine ao rfl jE rfl (λe d=>j9 e q q.ap rfl (d.has aT) (d.has bJ)) ?_;refine ah ?_;refine ao rfl k8 rfl (λe d=>lq e q (d.has aT)) ?_;refine ah ?_;refine a6 (l0:=bB q.ap) ae rfl uN rfl (λe d=>vj e q.ap (d.bo ae) c.wf.r j.bD (a+i) 0 q.ap.cols q.bg.at_.an q.bg.at_.aM aa) (λt k=>?_);refine aQ ?_;have f:=x1 (s:=s) q ⟨c.g,c.ap,c.st⟩ c.wf k (o2 q.ap.abs _ _ _ _ _).cols rfl
 have u:a+(i:Int)+1=a+((i+1 :Nat):Int):=by omega
 rw[u];exact bi (i+1,{ q with ap:=t }) ⟨by show i+1≤(b - a).toNat;omega,⟨f.g,f.ap,f.st,f.wf,by rw[f.abs,vr,←c.abs];rfl⟩⟩ (by show (b - a).toNat - (i+1)<(b - a).toNat - i;omega) bR (λ_ h=>by rw[tg k.1];exact h.ax ae);refine ay ?_;intro G v;have x:i=(b - a).toNat:=by omega
 subst x;exact aP.bQ q c rfl v
end Go.Proofs.YtlgnfdodnhokjaaGreatDoor.Mq
