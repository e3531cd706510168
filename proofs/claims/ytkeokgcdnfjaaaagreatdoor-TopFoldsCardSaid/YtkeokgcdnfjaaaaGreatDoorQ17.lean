/- part 17 of the proof -/
import Derived.Test.YtkeokgcdnfjaaaaGreatDoorQ16
namespace Go.Proofs.YtkeokgcdnfjaaaaGreatDoor.Mq
open Go Go.RowKit Go.Proofs Tryz
def oN (s:bd):bd:=
 let s:={ s with x:=fu s }
 if s.y=s.top then gh s (λp=>hK p s.top s.cO 1 (λp a b=>oJ p a b (an s) (aM s)))
 else if 0<s.y then { s with y:=s.y - 1 } else s
theorem Q6 (s:bd):cP 2 s (oN s):=by
 have c:cP 0 s { s with x:=fu s }:=oM s (λw=>xB w)
 unfold oN;dsimp only;split
 exact (c.trans (hN { s with x:=fu s } (f:=λp=>hK p s.top s.cO 1 (λp a b=>oJ p a b (an s) (aM s))) (xC s.bC _ _ (λq a b d e=>q8 q d e _ _)))).mono aa;split
 exact (c.trans (GQ _ (λw=>by have:=w.y;simp only[bd.rows] at *;omega))).mono aa;exact c.mono aa
theorem Q7 {s:bk} (h:s.y=s.top):oN s.abs= { (hk s).abs with bC:=hK s.ap.abs s.top s.cO 1 (λq a b=>oJ q a b s.bf.at_.an s.bf.at_.aM) }:=by
 unfold oN;exact ax h
theorem Q8 {s:bk} (h: ¬s.y=s.top) (a:0<s.y):oN s.abs= { hk s with y:=s.y - 1 }.abs:=by
 unfold oN;exact (ag h).trans (ax a)
theorem Q9 {s:bk} (h: ¬s.y=s.top) (a: ¬0<s.y):oN s.abs=(hk s).abs:=by
 unfold oN;exact (ag h).trans (ag a)
theorem Q_ (w:World) (s:bk) (m:bb w (aO s)) (c:dO s) (i:dV s.abs) (o:s.ap.be.l.length≤1152921500000):
 Calls prog 217 [ptr s.g].toArray w (eg s (.tuple #[]) (oN s.abs) w):=by
 obtain⟨x,p,z,A,j⟩:=i.nums;refine bI func217 ntmps217 m ?_;refine b5 ?_;refine ao rfl i7 rfl (λe d=>ji e s (d.has aQ) (d.has bF) p) ?_;refine aC ?_;refine bG [0,1,2,3,4,5,6,7,8,9] 0 [[]] ?_;refine bH ?_;refine aj (λh=>?_) (λh=>?_);refine bG [0,1,2,3,4,5,6,7,8,9,10,11,12] 2 [[(13,false,[]),(14,true,[])]] ?_;refine cE ?_;refine ao rfl k0 rfl (λe d=>lh e (hk s) (d.has aQ)) ?_;refine ah ?_;refine cI (λe d=>AS e s.ap d c.r i.bC o s.top s.cO 1 s.bf.at_.an s.bf.at_.aM) (λt u=>?_);refine ay ?_;intro k f;exact ky (hk s) t ⟨rfl,rfl,rfl⟩ ⟨c.r,c.st,c.n⟩ u (xC s.ap.abs s.top s.cO (λq a b v j=>q8 q v j s.bf.at_.an s.bf.at_.aM)).cols (by rw[Q7 h]) rfl f ae;refine aR ?_;refine aj (λaH=>?_) (λaH=>?_);refine bw ?_;intro k f;exact e6 { hk s with y:=s.y - 1 } ⟨rfl,rfl,rfl⟩ ⟨c.r,c.st,c.n⟩ (by rw[Q8 h aa]) rfl f ae;refine ah ?_;intro k f;exact e6 (hk s) ⟨rfl,rfl,rfl⟩ ⟨c.r,c.st,c.n⟩ (by rw[Q9 h aa]) rfl f ae
def nC (s:bd):bd:=if s.x<s.cols then gh s (λp=>xm p s.y) else s
def oO (s:bd):bd:=if (iH s).2=true then gh { (iH s).1 with x:=0 } (λp=>iC p (iH s).1.y true) else { (iH s).1 with x:=0 }
theorem sT (s:bd) (w:Int):jV s w=if s.x+w≤s.cols then s else if s.bf.wrap=false then { s with x:=s.cols - w } else oO (nC s):=rfl
theorem GV (s:bd):cP 0 s (nC s):=by
 unfold nC;split
 exact hN s (Gt s.bC s.y);exact cP.refl s
theorem Ra (s:bd):cP 2 s (oO s):=by
 have a:=(sS s).trans (oM (x:=0) _ (λh=>by have:=h.bC.cols;simp only[bd.cols] at *;omega))
 unfold oO;split
 exact (a.trans (hN _ (lO _ _ true))).mono aa;exact a.mono aa
theorem Rb (s:bd): (oO s).x=0:=by
 unfold oO;split <;> rfl
theorem AX (s:bd) (w:Int) (a:0≤w∧w≤2):cP 2 s (jV s w):=by
 rw[sT];split
 exact (cP.refl s).mono aa;split
 exact (oM s (λh=>by have:=h.bC.cols;have:=h.x;simp only[bd.cols] at *;omega)).mono aa;exact ((GV s).trans (Ra _)).mono aa
theorem GW (s:bd) (w:Int) (a:0≤w∧w≤2) (h:dV s): (jV s w).x+w≤s.cols∧0≤(jV s w).x:=by
 have b:=h.bC.cols
 have c:=h.x
 rw[sT];simp only[bd.cols] at *
 split
 omega
 split
 show s.bC.cols - w+w≤_∧0≤s.bC.cols - w;omega
 rw[Rb];omega
theorem hM.fits {s z:bk} {q:bd} {k:Nat} (h:hM s q z) (b:cP k s.abs q) (c:dV s.abs):dV z.abs∧z.ap.be.l.length≤s.ap.be.l.length+k:=by
 have a:=b.be
 rw[←h.abs] at a
 simp only[bk.abs,bq.abs,cN] at a
 exact⟨by rw[h.abs];exact b.wf c,a⟩
theorem xD {s:bk} {q:bZ} {Q:bd} {i:bq} (t:bk) (a:t.g=s.g∧t.ap.g=s.ap.g∧t.st.g=s.st.g) (b:dO t) (hi:i.g=t.ap.g∧cV i.r∧i.abs=q) (d:q.cols=t.ap.cols) (e: { t.abs with bC:=q } = Q):hM s Q { t with ap:=i }:=by
 obtain⟨f,h,c⟩:=hi;refine⟨a.1,f.trans a.2.1,a.2.2,⟨h,b.st,?_⟩,?_⟩;have:i.cols=q.cols:=by rw[←c];rfl
 rw[b.n,←d,←this];rw[←e];simp only[bk.abs,c]
theorem sU {t:bk} {i:bq} (a:i.g=t.ap.g):aO { t with ap:=i } = [t.an,i.an,aT (b9 i.r),i.s.au,i.s.cc,i.be.au,t.st.aF]:=by
 simp only[aO,bk.an,eU,a]
theorem Rc (w:World) (s:bk) (B:bb w (aO s)) (e:dO s) (o:dV s.abs) (G:s.ap.be.l.length≤1152921000000) (n:Int) (H:1≤n∧n≤2):
 Calls prog 302 [ptr s.g,.int .i64 n].toArray w (eg s (.tuple #[]) (jV s.abs n) w):=by
 obtain⟨I,J,K,L,M⟩:=o.nums;refine bI func302 ntmps302 B ?_;refine ar ?_;refine bG [0,1,2,3,4,5,6] 1 [[(7,false,[8])]] ?_;refine aJ ?_;refine ao rfl jv rfl (λc b=>jX c s s.ap rfl (b.has aQ) (b.has bF)) ?_;refine ay ?_;refine aj (λj=>?_) (λj=>?_);refine ah ?_;intro p f;exact e6 s ⟨rfl,rfl,rfl⟩ e (by rw[sT,ax (by exact j)]) rfl f ae;refine b5 ?_;refine b2 rfl (λm=>?_) (λm=>?_);refine aS ?_;refine ao rfl jv rfl (λc b=>jX c s s.ap rfl (b.has aQ) (b.has bF)) ?_;refine aR ?_;intro p f;exact e6 { s with x:=s.ap.cols - n } ⟨rfl,rfl,rfl⟩ ⟨e.r,e.st,e.n⟩ (by rw[sT,ag (by exact j),ax (by have k:s.bf.wrap=false:=(by simpa using m);exact k)];rfl) rfl f ae;refine aS ?_;refine bG [0,1,2,3,4] 1 [[(5,false,[6])]] ?_;refine aC ?_;refine ao rfl jv rfl (λc b=>jX c s s.ap rfl (b.has aQ) (b.has bF)) ?_;refine ay ?_;refine hC (λz:bk=>[(0,ptr z.g),(1,.int .i64 n)]) (λz=>af w (aB (aO s)) (aO z)) (λz=>hM s (nC s.abs) z) ?_ ?_;refine aj (λq=>?_) (λq=>?_);refine bG [0,1,2,3,4,5,6,7] 1 [[(8,true,[])]] ?_;refine aR ?_;refine cI (λc b=>Qb c s.ap b e.r o.bC s.y) (λC A=>?_);refine ah ?_;exact dr { s with ap:=C } (xD s ⟨rfl,rfl,rfl⟩ e A (Gt s.ap.abs s.y).cols (by rw[nC,ax (by exact q)];rfl)) bO (λ_ h=>by rw[sU A.1];exact h.aw ae);refine aq ?_;exact dr s ⟨rfl,rfl,rfl,e,by rw[nC,ag (by exact q)]⟩ bO (λ_ h=>h);rintro z d;obtain⟨t,N⟩:=d.fits (GV s.abs) o;obtain⟨O,P,Q,R,S⟩:=t.nums;refine aS ?_;refine aZ (l0:=aO z) ae rfl Ez rfl (λc b=>GU c z (b.bp ae) d.wf t aa) (λi a=>?_);refine aS ?_;obtain⟨D,T⟩:=a.fits (sS z.abs) t;rw[←a.g];refine bw ?_;refine b2 rfl (λu=>?_) (λu=>?_);refine bG [0,1,2,3,4,5,6,7] 1 [[(8,true,[])]] ?_;refine aR ?_;refine cI (λc b=>P4 c i.ap b a.wf.r D.bC i.y) (λE F=>?_);refine aS ?_;intro p f;have v:jV s.abs n=oO z.abs:=by rw[sT,ag (by exact j),ag (by have k: ¬s.bf.wrap=false:=(by simpa using m);exact k),d.abs]
 exact ky { i with x:=0 } E ⟨a.g.trans d.g,a.ap.trans d.ap,a.st.trans d.st⟩ ⟨a.wf.r,a.wf.st,a.wf.n⟩ F (lO i.ap.abs i.y true).cols (by rw[v,oO,ax u,←a.abs];rfl) rfl f ae;refine ar ?_;intro p f;have v:jV s.abs n=oO z.abs:=by rw[sT,ag (by exact j),ag (by have k: ¬s.bf.wrap=false:=(by simpa using m);exact k),d.abs]
 exact e6 { i with x:=0 } ⟨a.g.trans d.g,a.ap.trans d.ap,a.st.trans d.st⟩ ⟨a.wf.r,a.wf.st,a.wf.n⟩ (by rw[v,oO,ag (by rw[u];decide),←a.abs];rfl) rfl f ae
def iI (s:bd) (r:Int):bd:=if dw r=0 then gh s (λp=>xl p s.y (s.x - 1) r) else s
def kz (s:bd) (w:Int):bd:=if s.bf.put=true then gh s (λp=>uO p s.y s.x w (an s) (aM s)) else s
def AY (s:bd) (r w:Int):bd:={ gh s (λp=>uN p s.y s.x r s.bf.at_) with x:=s.x+w,last:=r }
theorem xE (s:bd) (r:Int):q9 s r=if dw r<1 then iI s r else AY (kz (jV (iI s r) (dw r)) (dw r)) r (dw r):=rfl
theorem xF (s:bd) (r:Int):cP 0 s (iI s r):=by
 unfold iI;split
 exact hN s (Gs s.bC _ _ _);exact cP.refl s
theorem AZ (s:bd) (w:Int):cP 0 s (kz s w):=by
 unfold kz;split
 exact hN s (xu s.bC _ _ _ _ _);exact cP.refl s
theorem Re (s:bd) (w:Int): (kz s w).x=s.x:=by
 unfold kz;split <;> rfl
theorem Rf (s:bd) (r w:Int) (h:dV s→0≤s.x+w∧s.x+w≤s.cols):cP 0 s (AY s r w):=by
 have a:=hN s (uT s.bC s.y s.x r s.bf.at_)
 exact⟨λk=>⟨(a.wf k).bC,(a.wf k).y,by have:=h k;have e:=a.cols;show 0≤s.x+w∧s.x+w≤(uN s.bC s.y s.x r s.bf.at_).cols;rw[(uT s.bC s.y s.x r s.bf.at_).cols];exact this,(a.wf k).top⟩,a.rows,a.cols,a.room,a.be⟩
theorem GX (r:Int) (h: ¬dw r<1):1≤dw r∧dw r≤2:=by
 rcases Az r with e | e | e | e <;> omega
theorem GY (s:bd) (r:Int):cP 2 s (q9 s r):=by
 rw[xE];split
 ·exact (xF s r).mono aa
 ·rename_i h
  have c:=GX r h
  have d:=(xF s r).trans (AX (iI s r) (dw r) ⟨aa,c.2⟩)
  have a:=d.trans (AZ _ (dw r))
  refine⟨λk=>?_,?_,?_,?_,?_⟩
  ·have f:=(xF s r).wf k
   have g:=GW (iI s r) (dw r) ⟨aa,c.2⟩ f
   exact (Rf _ r (dw r) (λ_=>by
    rw[Re];have e: (kz (jV (iI s r) (dw r)) (dw r)).cols=(iI s r).cols:=((AX (iI s r) (dw r) ⟨aa,c.2⟩).trans (AZ _ (dw r))).cols
    rw[e];omega)).wf (a.wf k)
  all_goals
   have b:=hN (kz (jV (iI s r) (dw r)) (dw r)) (uT (kz (jV (iI s r) (dw r)) (dw r)).bC (kz (jV (iI s r) (dw r)) (dw r)).y (kz (jV (iI s r) (dw r)) (dw r)).x r (kz (jV (iI s r) (dw r)) (dw r)).bf.at_)
  ·exact (a.trans b).rows
  ·exact (a.trans b).cols
  ·exact (a.trans b).room
  ·exact ((a.trans b).mono aa).be
theorem GZ (w:World) (s:bk) (D:bb w (aO s)) (k:dO s) (m:dV s.abs) (L:s.ap.be.l.length≤1152920000000) (r:Int):
 Calls prog 210 [ptr s.g,.int .i32 r].toArray w (eg s (.tuple #[]) (q9 s.abs r) w):=by
 obtain⟨M,N,O,P,Q⟩:=m.nums;have R:=Az r
 refine bI func210 ntmps210 D ?_;refine ah ?_;refine ao rfl zS rfl (λb d=>AB b r) ?_;refine aR ?_;refine hC (λz:bk=>[(0,ptr z.g),(1,.int .i32 r),(4,.int .i64 (dw r))]) (λz=>af w (aB (aO s)) (aO z)) (λz=>hM s (iI s.abs r) z) ?_ ?_;refine aj (λo=>?_) (λo=>?_);refine bG [0,1,2,3,4,5,6,7,8,9,10,11,12,13] 1 [[(14,true,[])]] ?_;refine dB ?_;refine cI (λb d=>P7 b s.ap d k.r m.bC s.y (s.x - 1) r) (λE v=>?_);refine ah ?_;exact dr { s with ap:=E } (xD s ⟨rfl,rfl,rfl⟩ k v (Gs s.ap.abs _ _ _).cols (by rw[iI,ax o];rfl)) (dZ rfl rfl rfl) (λ_ h=>by rw[sU v.1];exact h.aw ae);refine aq ?_;exact dr s ⟨rfl,rfl,rfl,k,by rw[iI,ag o]⟩ bO (λ_ h=>h);rintro z c;obtain⟨i,S⟩:=c.fits (xF s.abs r) m;obtain⟨T,U,V,W,X⟩:=i.nums;refine aK ?_;refine aj (λj=>?_) (λj=>?_);refine ah ?_;intro F p;exact aP.bP z ⟨c.g,c.ap,c.st,c.wf,by rw[xE,ax j,c.abs]⟩ rfl p;have q:=GX r j
 refine al ?_;refine aZ (l0:=aO z) ae rfl NQ rfl (λb d=>Rc b z (d.bp ae) c.wf i aa (dw r) q) (λa e=>?_);refine aR ?_;obtain⟨A,Y⟩:=e.fits (AX z.abs (dw r) ⟨aa,q.2⟩) i;have G:=GW z.abs (dw r) ⟨aa,q.2⟩ i
 rw[←e.abs] at G
 rw[←e.g];refine ah ?_;refine hC (λu:bk=>[(0,ptr u.g),(1,.int .i32 r),(4,.int .i64 (dw r))]) (λu=>af w (aB (aO s)) (aO u)) (λu=>hM a (kz a.abs (dw r)) u) ?_ ?_;refine b2 rfl (λt=>?_) (λt=>?_);refine bG [0,1,2,3,4,5,6,7,8,9,10,11,12,13] 2 [[(14,false,[]),(15,true,[])]] ?_;refine dB ?_;refine ao rfl k0 rfl (λb d=>lh b a (d.has aQ)) ?_;refine ah ?_;refine cI (λb d=>F_ b a.ap d e.wf.r A.bC a.y a.x (dw r) a.bf.at_.an a.bf.at_.aM) (λH B=>?_);refine ah ?_;exact dr { a with ap:=H } (xD a ⟨rfl,rfl,rfl⟩ e.wf B (xu a.ap.abs _ _ _ _ _).cols (by rw[kz,ax (by exact t)];rfl)) (dZ rfl rfl rfl) (λ_ h=>by rw[sU B.1];exact h.aw ae);refine aq ?_;exact dr a ⟨rfl,rfl,rfl,e.wf,by rw[kz,ag (by rw[show a.abs.bf.put=a.bf.put from rfl,t];decide)]⟩ bO (λ_ h=>h);rintro u f;obtain⟨C,Z⟩:=f.fits (AZ a.abs (dw r)) A;obtain⟨Za,Zb,Zc,Zd,Ze⟩:=C.nums;refine ar ?_;refine bG [0,1,2,3,4,5,6,7,8,9,10,11,12,13,14,15,16,17] 1 [[(18,true,[])]] ?_;refine hh ?_;refine cI (λb d=>F9 b u.ap d f.wf.r C.bC u.y u.x r u.bf.at_) (λI J=>?_);refine sv ?_;intro F p;have K:q9 s.abs r=AY u.abs r (dw r):=by rw[xE,ag j,f.abs,e.abs,c.abs]
 exact ky { u with x:=u.x+dw r,last:=r } I ⟨(f.g.trans e.g).trans c.g,(f.ap.trans e.ap).trans c.ap,(f.st.trans e.st).trans c.st⟩ ⟨f.wf.r,f.wf.st,f.wf.n⟩ J (uT u.ap.abs _ _ _ _).cols (by rw[K];rfl) rfl p ae
def sV (s:bd) (y x:Int):bd:=
 if s.bf.home=true then { s with y:=s.top+ft y 0 (s.cO - s.top),x:=ft x 0 (s.cols - 1) }
 else { s with y:=0+ft y 0 (s.rows - 1 - 0),x:=ft x 0 (s.cols - 1) }
theorem li {n lo hi:Int} (h:lo≤hi):lo≤ft n lo hi∧ft n lo hi≤hi:=by unfold ft;omega
theorem xG (s:bd) {y x:Int} (h:dV s→(0≤y∧y<s.rows)∧(0≤x∧x≤s.cols)):cP 0 s { s with y:=y,x:=x }:=⟨λw=>⟨w.bC,(h w).1,(h w).2,w.top⟩,rfl,rfl,rfl,by show s.bC.f_.length≤_;omega⟩
theorem G0 (s:bd) (y x:Int):cP 0 s (sV s y x):=by
 unfold sV;split
 refine xG s (λw=>?_);have a:=w.top;have b:=w.bC.cols;have c:=w.bC.rows
 have d:=li (n:=y) (lo:=0) (hi:=s.cO - s.top) aa
 have e:=li (n:=x) (lo:=0) (hi:=s.cols - 1) (by simp only[bd.cols];omega)
 simp only[bd.cols,bd.rows] at *
 omega
 refine xG s (λw=>?_);have a:=w.top;have b:=w.bC.cols;have c:=w.bC.rows
 have d:=li (n:=y) (lo:=0) (hi:=s.rows - 1 - 0) (by simp only[bd.rows];omega)
 have e:=li (n:=x) (lo:=0) (hi:=s.cols - 1) (by simp only[bd.cols];omega)
 simp only[bd.cols,bd.rows] at *
 omega
def G1 (s:bd):bd:={ s with x:=max 0 (fu s - 1) }
theorem Rg (s:bd):cP 0 s (G1 s):=oM s (λw=>by have:=xB w;have:=w.bC.cols;simp only[bd.cols] at *;omega)
theorem sW (s:bd):cP 0 s { s with x:=0 }:=oM s (λw=>by have:=w.bC.cols;simp only[bd.cols] at *;omega)
theorem xH (w:World) (s:bk) (a:bb w (aO s)) (b:dO s) (c:dV s.abs) (j:s.ap.be.l.length≤1152920000000):
 Calls prog 158 [ptr s.g].toArray w (eg s (.tuple #[]) (iH s.abs).1 w):=by
 refine bI func158 ntmps158 a ?_;refine aJ ?_;refine aZ (l0:=aO s) ae rfl Ez rfl (λd e=>GU d s (e.bp ae) b c aa) (λf h=>?_);refine ar ?_;intro k i;exact aN f h i
theorem G2 (w:World) (s:bk) (b:bb w (aO s)) (a:dO s):
 Calls prog 160 [ptr s.g].toArray w (eg s (.tuple #[]) { s.abs with x:=0 } w):=by
 refine bI func160 ntmps160 b ?_;refine b5 ?_;intro d c;exact e6 { s with x:=0 } ⟨rfl,rfl,rfl⟩ ⟨a.r,a.st,a.n⟩ rfl rfl c ae
theorem Rh (w:World) (s:bk) (c:bb w (aO s)) (a:dO s) (d:dV s.abs):
 Calls prog 156 [ptr s.g].toArray w (eg s (.tuple #[]) (G1 s.abs) w):=by
 obtain⟨i,e,j,k,l⟩:=d.nums;refine bI func156 ntmps156 c ?_;refine aR ?_;refine ao rfl i7 rfl (λf b=>ji f s (b.has aQ) (b.has bF) e) ?_;refine aC ?_;intro m h;exact e6 { s with x:=max 0 (min s.x (s.ap.cols - 1) - 1) } ⟨rfl,rfl,rfl⟩ ⟨a.r,a.st,a.n⟩ rfl rfl h ae
theorem G3 (w:World) (s:bk) (f:bb w (aO s)) (c:dO s) (h:dV s.abs) (y x:Int):
 Calls prog 242 [ptr s.g,.int .i64 y,.int .i64 x].toArray w (eg s (.tuple #[]) (sV s.abs y x) w):=by
 obtain⟨k,m,o,p,q⟩:=h.nums;have i:=lQ s
 have t:=li (n:=y) (lo:=0) (hi:=s.cO - s.top) aa
 have u:=li (n:=y) (lo:=0) (hi:=(s.ap.s.l.length:Int) - 1 - 0) aa
 refine bI func242 ntmps242 f ?_;refine bH ?_;refine ao rfl nd rfl (λa b=>nB a s s.ap rfl (b.has aQ) (b.has bF)) ?_;refine dB ?_;refine b2 rfl (λd=>?_) (λd=>?_);refine bG [0,1,2,3,4,5,6,7,8,9] 0 [[]] ?_;refine gN ?_;refine ao rfl nf rfl (λa b=>nA a _ _ _) ?_;refine aR ?_;refine ao rfl jv rfl (λa b=>jX a { s with y:=s.top+ft y 0 (s.cO - s.top) } s.ap rfl (b.has aQ) (b.has bF)) ?_;refine aq ?_;refine ao rfl nf rfl (λa b=>nA a _ _ _) ?_;refine ay ?_;intro j e;exact e6 { s with y:=s.top+ft y 0 (s.cO - s.top),x:=ft x 0 (s.ap.cols - 1) } ⟨rfl,rfl,rfl⟩ ⟨c.r,c.st,c.n⟩ (by rw[sV,ax (by exact d)];rfl) rfl e ae;refine aR ?_;refine ao rfl nf rfl (λa b=>nA a _ _ _) ?_;refine aR ?_;refine ao rfl jv rfl (λa b=>jX a { s with y:=0+ft y 0 ((s.ap.s.l.length:Int) - 1 - 0) } s.ap rfl (b.has aQ) (b.has bF)) ?_;refine aq ?_;refine ao rfl nf rfl (λa b=>nA a _ _ _) ?_;refine ay ?_;intro j e;exact e6 { s with y:=0+ft y 0 ((s.ap.s.l.length:Int) - 1 - 0),x:=ft x 0 (s.ap.cols - 1) } ⟨rfl,rfl,rfl⟩ ⟨c.r,c.st,c.n⟩ (by rw[sV,ag (by rw[show s.abs.bf.home=s.bf.home from rfl,d];decide),bd.rows,i];rfl) rfl e ae
theorem cZ.nums {p:bq} (h:cZ p.abs): (1≤(p.s.l.length:Int)∧(p.s.l.length:Int)≤1000)∧(2≤p.cols∧p.cols≤1000):=by
 have c: (bW p.s.l).length=p.s.l.length:=by simp[bW]
 obtain⟨a,b,-,-,-⟩:=h;simp only[bq.abs] at a b
 rw[c] at b
 exact⟨aa,a⟩
def uZ (s:bd):bd:={ s with top:=0,cO:=s.rows - 1 }
def xI (s:bd) (y x:Int):bd:={ s with y:=ft y 0 (s.rows - 1),x:=ft x 0 (s.cols - 1) }
theorem xJ (s:bd) (y x:Int):cP 0 s (xI s y x):=by
 refine xG s (λw=>?_);have a:=w.bC.cols;have b:=w.bC.rows
 have c:=li (n:=y) (lo:=0) (hi:=s.rows - 1) (by simp only[bd.rows];omega)
 have d:=li (n:=x) (lo:=0) (hi:=s.cols - 1) (by simp only[bd.cols];omega)
 simp only[bd.cols,bd.rows] at *
 omega
theorem G4 (s:bd):cP 0 s (uZ s):=⟨λw=>⟨w.bC,w.y,w.x,by have:=w.bC.rows;show (0 :Int)≤0∧0≤(s.bC.cF.length:Int) - 1∧(s.bC.cF.length:Int) - 1<s.bC.cF.length;omega⟩,rfl,rfl,rfl,cd _⟩
def G5 (s:bd) (n:Int):bd:=let s:={ s with x:=fu s };gh s (λp=>uO p s.y s.x (max 1 n) (an s) (aM s))
def G6 (s:bd) (n:Int):bd:=let s:={ s with x:=fu s };gh s (λp=>AG p s.y s.x (max 1 n) (an s) (aM s))
def G7 (s:bd) (n:Int):bd:=let s:={ s with x:=fu s };gh s (λp=>eraseP p s.y s.x (s.x+ft n 1 1000) (an s) (aM s))
theorem A0 (s:bd):cP 0 s { s with x:=fu s }:=oM s (λw=>xB w)
theorem Ri (s:bd) (n:Int):cP 0 s (G5 s n):=(A0 s).trans (hN { s with x:=fu s } (xu s.bC s.y (fu s) (max 1 n) (an s) (aM s)))
theorem Rj (s:bd) (n:Int):cP 0 s (G6 s n):=(A0 s).trans (hN { s with x:=fu s } (Gu s.bC s.y (fu s) (max 1 n) (an s) (aM s)))
theorem Rk (s:bd) (n:Int):cP 0 s (G7 s n):=(A0 s).trans (hN { s with x:=fu s } (oK s.bC s.y (fu s) (fu s+ft n 1 1000) (an s) (aM s)))
theorem u0 (w:World) (s:bk) (c:bb w (aO s)) (a:dO s) (d:cZ s.ap.abs):
 Calls prog 130 [ptr s.g].toArray w (eg s (.tuple #[]) (uZ s.abs) w):=by
 obtain⟨i,j⟩:=d.nums;have e:=lQ s
 refine bI func130 ntmps130 c ?_;refine aS ?_;refine ao rfl nd rfl (λf b=>nB f s s.ap rfl (b.has aQ) (b.has bF)) ?_;refine aJ ?_;intro k h;exact e6 { s with top:=0,cO:=(s.ap.s.l.length:Int) - 1 } ⟨rfl,rfl,rfl⟩ ⟨a.r,a.st,a.n⟩ (by rw[uZ,bd.rows,e];rfl) rfl h ae
theorem xK (w:World) (s:bk) (d:bb w (aO s)) (c:dO s) (e:cZ s.ap.abs) (y x:Int):
 Calls prog 228 [ptr s.g,.int .i64 y,.int .i64 x].toArray w (eg s (.tuple #[]) (xI s.abs y x) w):=by
 obtain⟨i,j⟩:=e.nums;have f:=lQ s
 refine bI func228 ntmps228 d ?_;refine ay ?_;refine ao rfl nd rfl (λa b=>nB a s s.ap rfl (b.has aQ) (b.has bF)) ?_;refine aq ?_;refine ao rfl nf rfl (λa b=>nA a _ _ _) ?_;refine ar ?_;refine ao rfl jv rfl (λa b=>jX a s s.ap rfl (b.has aQ) (b.has bF)) ?_;refine aq ?_;refine ao rfl nf rfl (λa b=>nA a _ _ _) ?_;refine aK ?_;intro k h;exact e6 { s with y:=ft y 0 ((s.ap.s.l.length:Int) - 1),x:=ft x 0 (s.ap.cols - 1) } ⟨rfl,rfl,rfl⟩ ⟨c.r,c.st,c.n⟩ (by rw[xI,bd.rows,f];rfl) rfl h ae
theorem Rl (w:World) (s:bk) (e:bb w (aO s)) (c:dO s) (d:dV s.abs) (n:Int):
 Calls prog 243 [ptr s.g,.int .i64 n].toArray w (eg s (.tuple #[]) (G5 s.abs n) w):=by
 obtain⟨k,f,l,m,o⟩:=d.nums;refine bI func243 ntmps243 e ?_;refine bo ?_;refine ao rfl i7 rfl (λb a=>ji b s (a.has aQ) (a.has bF) f) ?_;refine ay ?_;refine bG [0,1,2,3,4,5,6,7,8,9,10,11,12,13,14] 2 [[(15,false,[]),(16,true,[])]] ?_;refine ef ?_;refine ao rfl k0 rfl (λb a=>lh b (hk s) (a.has aQ)) ?_;refine ah ?_;refine cI (λb a=>F_ b s.ap a c.r d.bC s.y (min s.x (s.ap.cols - 1)) (max 1 n) s.bf.at_.an s.bf.at_.aM) (λh i=>?_);refine aS ?_;intro p j;exact ky (hk s) h ⟨rfl,rfl,rfl⟩ ⟨c.r,c.st,c.n⟩ i (xu s.ap.abs _ _ _ _ _).cols rfl rfl j ae
theorem Rm (w:World) (s:bk) (e:bb w (aO s)) (c:dO s) (d:dV s.abs) (n:Int):
 Calls prog 246 [ptr s.g,.int .i64 n].toArray w (eg s (.tuple #[]) (G6 s.abs n) w):=by
 obtain⟨k,f,l,m,o⟩:=d.nums;refine bI func246 ntmps246 e ?_;refine bo ?_;refine ao rfl i7 rfl (λb a=>ji b s (a.has aQ) (a.has bF) f) ?_;refine ay ?_;refine bG [0,1,2,3,4,5,6,7,8,9,10,11,12,13,14] 2 [[(15,false,[]),(16,true,[])]] ?_;refine ef ?_;refine ao rfl k0 rfl (λb a=>lh b (hk s) (a.has aQ)) ?_;refine ah ?_;refine cI (λb a=>P_ b s.ap a c.r d.bC s.y (min s.x (s.ap.cols - 1)) (max 1 n) s.bf.at_.an s.bf.at_.aM) (λh i=>?_);refine aS ?_;intro p j;exact ky (hk s) h ⟨rfl,rfl,rfl⟩ ⟨c.r,c.st,c.n⟩ i (Gu s.ap.abs _ _ _ _ _).cols rfl rfl j ae
theorem Rn (w:World) (s:bk) (e:bb w (aO s)) (c:dO s) (d:dV s.abs) (n:Int):
 Calls prog 248 [ptr s.g,.int .i64 n].toArray w (eg s (.tuple #[]) (G7 s.abs n) w):=by
 obtain⟨k,f,l,m,o⟩:=d.nums;have p:=li (n:=n) (lo:=1) (hi:=1000) aa
 refine bI func248 ntmps248 e ?_;refine bo ?_;refine ao rfl i7 rfl (λa b=>ji a s (b.has aQ) (b.has bF) f) ?_;refine ay ?_;refine bG [0,1,2,3,4,5,6,7,8,9,10,11,12,13,14,15,16,19] 3 [[(17,false,[18]),(20,false,[]),(21,true,[])]] ?_;refine hh ?_;refine ao rfl nf rfl (λa b=>nA a _ _ _) ?_;refine aS ?_;refine ao rfl k0 rfl (λa b=>lh a (hk s) (b.has aQ)) ?_;refine ah ?_;refine aZ (l0:=bB s.ap) ae rfl ut rfl (λa b=>uV a s.ap (b.bp ae) c.r d.bC s.y (min s.x (s.ap.cols - 1)) (min s.x (s.ap.cols - 1)+ft n 1 1000) s.bf.at_.an s.bf.at_.aM aa) (λh i=>?_);refine aS ?_;intro q j;exact ky (hk s) h ⟨rfl,rfl,rfl⟩ ⟨c.r,c.st,c.n⟩ i (oK s.ap.abs _ _ _ _ _).cols rfl rfl j ae
def oP (s:bd):Bool:=decide (s.top≤s.y∧s.y≤s.cO)
def u1 (s:bd) (n:Int):bd:=if oP s=true then gh { s with x:=0 } (λp=>hK p s.y s.cO (max 1 n) (λp a b=>oJ p a b (an s) (aM s))) else s
def u2 (s:bd) (n:Int):bd:=if oP s=true then gh { s with x:=0 } (λp=>hK p s.y s.cO (max 1 n) (λp a b=>sM p a b (an s) (aM s))) else s
def sX (s:bd) (n:Int):bd:=
 if 0<n then gh s (λp=>hK p s.top s.cO n (λp a b=>mD p a b (an s) (aM s)))
 else if n<0 then gh s (λp=>hK p s.top s.cO (0 - max n (-1000)) (λp a b=>oJ p a b (an s) (aM s))) else s
theorem sY {s:bd} (w:dV s):s.bC.cF.length≤1000:=w.bC.rows.2
theorem Ro (s:bd) (h:s.bC.cF.length≤1000) (n:Int):cP 2000 s (u1 s n):=by
 unfold u1;split
 exact ((sW s).trans (hN { s with x:=0 } (p3 s.bC s.y s.cO (max 1 n) (λq a b c d=>q8 q c d (an s) (aM s))))).mono (by show 0+2*s.bC.cF.length≤2000;omega);exact (cP.refl s).mono aa
theorem Rp (s:bd) (h:s.bC.cF.length≤1000) (n:Int):cP 2000 s (u2 s n):=by
 unfold u2;split
 exact ((sW s).trans (hN { s with x:=0 } (p3 s.bC s.y s.cO (max 1 n) (λq a b c d=>xt q c d (an s) (aM s))))).mono (by show 0+2*s.bC.cF.length≤2000;omega);exact (cP.refl s).mono aa
theorem Rq (s:bd) (h:s.bC.cF.length≤1000) (n:Int):cP 2000 s (sX s n):=by
 unfold sX;split
 exact (hN s (p3 s.bC s.top s.cO n (λq a b c d=>uP q c d (an s) (aM s)))).mono aa;split
 exact (hN s (p3 s.bC s.top s.cO _ (λq a b c d=>q8 q c d (an s) (aM s)))).mono aa;exact (cP.refl s).mono aa
abbrev xL (s:bk):bk:={ s with x:=0 }
theorem G8 (w:World) (s:bk) (f:bb w (aO s)) (a:dO s):
 Calls prog 330 [ptr s.g].toArray w (eg s (.bool (oP s.abs)) (if oP s.abs=true then (xL s).abs else s.abs) w):=by
 have b:oP s.abs=decide (s.top≤s.y∧s.y≤s.cO):=rfl
 refine bI func330 ntmps330 f ?_;refine aC ?_;refine bG [0,1,2,3,4,5,6,7,8,9,10,11,12,13,14,15,16,17,18,19,20,21,22,23] 0 [[]] ?_;refine b5 ?_;refine my 16 rfl (λd=>?_) (λd=>?_);have h:=aY d
 refine kq ?_;intro e c;exact e6 s ⟨rfl,rfl,rfl⟩ ⟨a.r,a.st,a.n⟩ (by rw[b,ag (by rw[e3];omega)]) (by rw[b,cm aa]) c ae;have h:=a8 d
 refine bH ?_;refine aj (λaH=>?_) (λaH=>?_);refine aK ?_;intro e c;exact e6 s ⟨rfl,rfl,rfl⟩ ⟨a.r,a.st,a.n⟩ (by rw[b,ag (by rw[e3];omega)]) (by rw[b,cm aa]) c ae;refine ef ?_;intro e c;exact e6 (xL s) ⟨rfl,rfl,rfl⟩ ⟨a.r,a.st,a.n⟩ (by rw[b,ax (b1 aa)]) (by rw[b,b1 aa]) c ae
theorem Rr (w:World) (s:bk) (p:bb w (aO s)) (c:dO s) (i:dV s.abs) (u:s.ap.be.l.length≤1152920000000) (n:Int):
 Calls prog 247 [ptr s.g,.int .i64 n].toArray w (eg s (.tuple #[]) (sX s.abs n) w):=by
 obtain⟨v,x,y,z,h⟩:=i.nums;refine bI func247 ntmps247 p ?_;refine dB ?_;refine aj (λt=>?_) (λt=>?_);refine bG [0,1,2,3,4,5,6,7,8,9,10,11,12,13] 2 [[(14,false,[]),(15,true,[])]] ?_;refine dB ?_;refine ao rfl k0 rfl (λd e=>lh d s (e.has aQ)) ?_;refine ah ?_;refine aZ (l0:=bB s.ap) ae rfl NV rfl (λd e=>Gm d s.ap (e.bp ae) c.r i.bC aa s.top s.cO n s.bf.at_.an s.bf.at_.aM) (λj k=>?_);refine ay ?_;intro o f;exact ky s j ⟨rfl,rfl,rfl⟩ ⟨c.r,c.st,c.n⟩ k (p3 s.ap.abs s.top s.cO n (λq a b m h=>uP q m h s.bf.at_.an s.bf.at_.aM)).cols (by rw[sX,ax aa];rfl) rfl f ae;refine aC ?_;refine aj (λaH=>?_) (λaH=>?_);refine bG [0,1,2,3,4,5,6,7,8,9,10,11,12,13,14,15] 2 [[(16,false,[]),(17,true,[])]] ?_;refine b5 ?_;refine aL rfl (λA B=>(oj rfl rfl (wrap64 aa aa) aG)) ?_;refine ah ?_;refine ao rfl k0 rfl (λd e=>lh d s (e.has aQ)) ?_;refine ah ?_;refine aZ (l0:=bB s.ap) ae rfl ES rfl (λd e=>AS d s.ap (e.bp ae) c.r i.bC aa s.top s.cO _ s.bf.at_.an s.bf.at_.aM) (λj k=>?_);refine ay ?_;intro o f;exact ky s j ⟨rfl,rfl,rfl⟩ ⟨c.r,c.st,c.n⟩ k (p3 s.ap.abs s.top s.cO _ (λq a b m h=>q8 q m h s.bf.at_.an s.bf.at_.aM)).cols (by rw[sX,ag aa,ax aa];rfl) rfl f ae;refine ah ?_;intro o f;exact e6 s ⟨rfl,rfl,rfl⟩ c (by rw[sX,ag aa,ag aa]) rfl f ae
theorem Rs (w:World) (s:bk) (p:bb w (aO s)) (t:dO s) (k:dV s.abs) (F:s.ap.be.l.length≤1152920000000) (n:Int):
 Calls prog 244 [ptr s.g,.int .i64 n].toArray w (eg s (.tuple #[]) (u1 s.abs n) w):=by
 obtain⟨G,H,I,J,m⟩:=k.nums;refine bI func244 ntmps244 p ?_;refine ah ?_;refine cI (λh i=>G8 h s i t) (λc d=>?_);refine ar ?_;refine aj (λe=>?_) (λe=>?_);have e:oP s.abs=true:=b1 e
 rw[ax e] at d
 have f:c.abs=(xL s).abs:=d.abs
 have u:c.y=s.y:=aX bd.y f
 have v:c.cO=s.cO:=aX bd.cO f
 have x:c.bf=s.bf:=aX bd.bf f
 have o:c.ap.abs=s.ap.abs:=aX bd.bC f
 have A:dV c.abs:=by rw[f];exact (sW s.abs).wf k
 have c6:c.ap.be.l.length=s.ap.be.l.length:=by have:=aX (λz=>z.f_.length) o;simpa [bq.abs] using this
 rw[←d.g];refine bG [0,1,2,3,4,5,6,7,8,9,10,11,12,13,14] 2 [[(15,false,[]),(16,true,[])]] ?_;refine ef ?_;refine ao rfl k0 rfl (λh i=>lh h c (i.has aQ)) ?_;refine ah ?_;refine aZ (l0:=bB c.ap) ae rfl ES rfl (λh i=>AS h c.ap (i.bp ae) d.wf.r A.bC aa c.y c.cO (max 1 n) c.bf.at_.an c.bf.at_.aM) (λB C=>?_);refine aS ?_;intro D j;exact ky c B ⟨d.g,d.ap,d.st⟩ d.wf C (p3 c.ap.abs _ _ _ (λq a b E m=>q8 q E m _ _)).cols (by rw[u1,ax e,o,u,v,x,f];rfl) rfl j ae;have e:oP s.abs=false:=cm e
 refine ar ?_;intro D j;exact aP.bP c (by rw[u1];rw[ag (by rw[e];decide)] at d ⊢;exact d) rfl j
theorem Rt (w:World) (s:bk) (p:bb w (aO s)) (t:dO s) (k:dV s.abs) (F:s.ap.be.l.length≤1152920000000) (n:Int):
 Calls prog 245 [ptr s.g,.int .i64 n].toArray w (eg s (.tuple #[]) (u2 s.abs n) w):=by
 obtain⟨G,H,I,J,m⟩:=k.nums;refine bI func245 ntmps245 p ?_;refine ah ?_;refine cI (λh i=>G8 h s i t) (λc d=>?_);refine ar ?_;refine aj (λe=>?_) (λe=>?_);have e:oP s.abs=true:=b1 e
 rw[ax e] at d
 have f:c.abs=(xL s).abs:=d.abs
 have u:c.y=s.y:=aX bd.y f
 have v:c.cO=s.cO:=aX bd.cO f
 have x:c.bf=s.bf:=aX bd.bf f
 have o:c.ap.abs=s.ap.abs:=aX bd.bC f
 have A:dV c.abs:=by rw[f];exact (sW s.abs).wf k
 have c6:c.ap.be.l.length=s.ap.be.l.length:=by have:=aX (λz=>z.f_.length) o;simpa [bq.abs] using this
 rw[←d.g];refine bG [0,1,2,3,4,5,6,7,8,9,10,11,12,13,14] 2 [[(15,false,[]),(16,true,[])]] ?_;refine ef ?_;refine ao rfl k0 rfl (λh i=>lh h c (i.has aQ)) ?_;refine ah ?_;refine aZ (l0:=bB c.ap) ae rfl N3 rfl (λh i=>QB h c.ap (i.bp ae) d.wf.r A.bC aa c.y c.cO (max 1 n) c.bf.at_.an c.bf.at_.aM) (λB C=>?_);refine aS ?_;intro D j;exact ky c B ⟨d.g,d.ap,d.st⟩ d.wf C (p3 c.ap.abs _ _ _ (λq a b E m=>xt q E m _ _)).cols (by rw[u2,ax e,o,u,v,x,f];rfl) rfl j ae;have e:oP s.abs=false:=cm e
 refine ar ?_;intro D j;exact aP.bP c (by rw[u2];rw[ag (by rw[e];decide)] at d ⊢;exact d) rfl j
def q_ (s:bd) (t b:Int):bd:=if 0≤t∧b<s.rows∧t<b then sV { s with top:=t,cO:=b } 0 0 else s
theorem Ru (s:bd) (t b:Int):cP 0 s (q_ s t b):=by
 unfold q_;split
 rename_i h;have a:cP 0 s { s with top:=t,cO:=b }:=⟨λw=>⟨w.bC,w.y,w.x,by show 0≤t∧t≤b∧b<s.rows;omega⟩,rfl,rfl,rfl,cd _⟩
 exact a.trans (G0 _ 0 0);exact cP.refl s
def oQ (s:bd) (p w h:Bool):bd:={ s with bf:={ s.bf with put:=p,wrap:=w,home:=h } }
def Rv (s:bd) (c:fO):bd:={ s with bf:={ s.bf with aF:=c } }
theorem sZ (s:bd) (p:gv):cP 0 s { s with bf:=p }:=⟨λw=>⟨w.bC,w.y,w.x,w.top⟩,rfl,rfl,rfl,cd _⟩
theorem Rw (w:World) (s:bk) (l:bb w (aO s)) (c:dO s) (f:dV s.abs) (t b:Int):
 Calls prog 253 [ptr s.g,.int .i64 t,.int .i64 b].toArray w (eg s (.tuple #[]) (q_ s.abs t b) w):=by
 obtain⟨u,v,z,A,B⟩:=f.nums;have d:=lQ s
 refine bI func253 ntmps253 l ?_;refine bo ?_;refine aV 12 rfl (λi=>?_) (λi=>?_);have m:=aY i
 refine ay ?_;refine ao rfl nd rfl (λj h=>nB j s s.ap rfl (h.has aQ) (h.has bF)) ?_;refine aS ?_;refine aV 18 rfl (λaH=>?_) (λaH=>?_);have o:=aY aH
 refine aJ ?_;refine aj (λp=>?_) (λp=>?_);refine dB ?_;refine aZ (l0:=aO { s with top:=t,cO:=b }) ae rfl pE rfl (λj h=>G3 j { s with top:=t,cO:=b } (h.bp ae) ⟨c.r,c.st,c.n⟩ ⟨f.bC,f.y,f.x,by show 0≤t∧t≤b∧b<s.abs.rows;rw[bd.rows,d];omega⟩ 0 0) (λq e=>?_);refine ar ?_;intro k a;exact aN q ⟨e.g,e.ap,e.st,e.wf,by rw[q_,ax (by rw[bd.rows,d];omega)];exact e.abs⟩ a;refine ar ?_;intro k a;exact e6 s ⟨rfl,rfl,rfl⟩ c (by rw[q_,ag (by rw[bd.rows,d];omega)]) rfl a ae;have o:=a8 aH
 refine aJ ?_;intro k a;exact e6 s ⟨rfl,rfl,rfl⟩ c (by rw[q_,ag (by rw[bd.rows,d];omega)]) rfl a ae;have m:=a8 i
 refine cE ?_;intro k a;exact e6 s ⟨rfl,rfl,rfl⟩ c (by rw[q_,ag (by rw[bd.rows,d];omega)]) rfl a ae
theorem Rx (w:World) (s:bk) (b:bb w (aO s)) (a:dO s) (p x h:Bool):
 Calls prog 328 [ptr s.g,.agg [.bool p,.bool x,.bool h].toArray].toArray w (eg s (.tuple #[]) (oQ s.abs p x h) w):=by
 refine bI func328 ntmps328 b ?_;refine ah ?_;intro d e f;refine eT ?_;intro i c;exact e6 { s with bf:={ s.bf with put:=p,wrap:=x,home:=h } } ⟨rfl,rfl,rfl⟩ ⟨a.r,a.st,a.n⟩ rfl rfl c ae
def G9 (s:bd):bd:={ s with fP:=s.bf,kw:=s.y,kx:=fu s,has:=true }
theorem Ry (s:bd):cP 0 s (G9 s):=⟨λw=>⟨w.bC,w.y,w.x,w.top⟩,rfl,rfl,rfl,cd _⟩
def ii (a d lo hi:Int):Int:=ft (a+ft d (-1000) 1000) lo hi
def s0 (s:bd) (a b:Int):bd:=
 let lo:=if s.top≤s.y then s.top else 0
 let hi:=if s.y≤s.cO then s.cO else s.rows - 1
 { s with y:=ii s.y a (min lo s.y) (max hi s.y),x:=ii (fu s) b 0 (s.cols - 1) }
theorem Rz (s:bd) (a b:Int):cP 0 s (s0 s a b):=by
 refine xG s (λw=>?_);have g:=w.top;have h:=w.bC.cols;have i:=w.bC.rows;have j:=w.y
 have e:0≤min (if s.top≤s.y then s.top else 0) s.y∧min (if s.top≤s.y then s.top else 0) s.y≤s.y:=by split <;> omega
 have f:s.y≤max (if s.y≤s.cO then s.cO else s.rows - 1) s.y∧max (if s.y≤s.cO then s.cO else s.rows - 1) s.y<s.rows:=by split <;> omega
 have c:=li (n:=s.y+ft a (-1000) 1000) (lo:=min (if s.top≤s.y then s.top else 0) s.y) (hi:=max (if s.y≤s.cO then s.cO else s.rows - 1) s.y) aa
 have d:=li (n:=fu s+ft b (-1000) 1000) (lo:=0) (hi:=s.cols - 1) (by simp only[bd.cols];omega)
 refine⟨⟨Int.le_trans e.1 c.1,Int.lt_of_le_of_lt c.2 f.2⟩,d.1,?_⟩;exact Int.le_trans d.2 aa
abbrev p6 (s:bk) (y:Int):bk:={ s with y:=y }
theorem RA (w:World) (s:bk) (b:bb w (aO s)) (a:dO s) (c:fO):
 Calls prog 161 [ptr s.g,.agg c.enc.toArray].toArray w (eg s (.tuple #[]) (Rv s.abs c) w):=by
 refine bI func161 ntmps161 b ?_;refine ah ?_;intro e f h;refine eT ?_;intro i d;exact e6 { s with bf:={ s.bf with aF:=c } } ⟨rfl,rfl,rfl⟩ ⟨a.r,a.st,a.n⟩ rfl rfl d ae
theorem G_ (s:bk) (p:gv) (y x:Int):dd (eU s) (0+20) [.int .i64 p.at_.dg,.int .i64 p.at_.fn,.int .i64 p.at_.an,.int .i64 p.at_.aM,.int .i64 p.at_.fl,.int .i64 p.aF.fs,.int .i64 p.aF.s1,.int .i64 p.aF.s2,.int .i64 p.aF.lg,.int .i64 p.aF.use,.int .i64 p.aF.jU,.bool p.put,.bool p.wrap,.bool p.home,.int .i64 y,.int .i64 x]=eU { s with fP:=p,kw:=y,kx:=x }:=by
 simp only[dd,eU,dG,Nat.reduceAdd,qy,mo]
theorem RB (s:bk) (p:gv):dd (eU s) (0+0) [.int .i64 p.at_.dg,.int .i64 p.at_.fn,.int .i64 p.at_.an,.int .i64 p.at_.aM,.int .i64 p.at_.fl,.int .i64 p.aF.fs,.int .i64 p.aF.s1,.int .i64 p.aF.s2,.int .i64 p.aF.lg,.int .i64 p.aF.use,.int .i64 p.aF.jU,.bool p.put,.bool p.wrap,.bool p.home]=eU { s with bf:=p }:=by
 simp only[dd,eU,dG,Nat.reduceAdd,qy,mo]
theorem p7 (w:World) (a d lo hi:Int) (f: -100000≤a∧a≤100000):Calls prog 329 [.int .i64 a,.int .i64 d,.int .i64 lo,.int .i64 hi].toArray w (Pure (.int .i64 (ii a d lo hi)) w):=by
 have g:=li (n:=d) (lo:= -1000) (hi:=1000) aa
 refine aW func329 ntmps329 ?_;refine aJ ?_;refine ao rfl nf rfl (λb c=>nA b _ _ _) ?_;refine ah ?_;refine ao rfl nf rfl (λb c=>nA b _ _ _) ?_;refine ay ?_;intro h e;exact⟨rfl,e.ext⟩
theorem RC (w:World) (s:bk) (k:bb w (aO s)) (d:dO s) (m:dV s.abs) (c f:Int):
 Calls prog 241 [ptr s.g,.int .i64 c,.int .i64 f].toArray w (eg s (.tuple #[]) (s0 s.abs c f) w):=by
 obtain⟨q,h,t,u,v⟩:=m.nums;have i:=lQ s
 refine bI func241 ntmps241 k ?_;refine bH ?_;refine ao rfl nd rfl (λb a=>nB b s s.ap rfl (a.has aQ) (a.has bF)) ?_;refine aC ?_;refine bG [0,1,2,3,4,5,6,7,8] 0 [[]] ?_;refine bw ?_;refine aj (λo=>?_) (λo=>?_);refine aR ?_;refine bG [0,1,2,3,4,5,6,7,8] 0 [[]] ?_;refine bw ?_;refine aj (λaH=>?_) (λaH=>?_);refine b5 ?_;refine bG [0,1,2,3,4,5,6,7,8,9,10,11,12,13,14,15,16,17,18] 2 [[(19,false,[20,21]),(22,true,[])]] ?_;refine gN ?_;refine gK (first:=[]) (cap:=[]) rfl rfl pH rfl (λb a=>p7 b s.y _ _ _ aa) ?_;refine b5 ?_;refine ao rfl i7 rfl (λb a=>ji b (p6 s (ii s.y c (min s.top s.y) (max s.cO s.y))) (a.has aQ) (a.has bF) h) ?_;refine ar ?_;refine ao rfl jv rfl (λb a=>jX b (p6 s (ii s.y c (min s.top s.y) (max s.cO s.y))) s.ap rfl (a.has aQ) (a.has bF)) ?_;refine aq ?_;refine gK (first:=[]) (cap:=[]) rfl rfl pH rfl (λb a=>p7 b (min s.x (s.ap.cols - 1)) _ _ _ aa) ?_;refine ay ?_;intro j e;exact e6 { s with y:=ii s.y c (min s.top s.y) (max s.cO s.y),x:=ii (min s.x (s.ap.cols - 1)) f 0 (s.ap.cols - 1) } ⟨rfl,rfl,rfl⟩ ⟨d.r,d.st,d.n⟩ (by rw[s0,bd.rows,i,ax bz,ax bz];rfl) rfl e ae;refine aK ?_;refine bG [0,1,2,3,4,5,6,7,8,9,10,11,12,13,14,15,16,17,18] 2 [[(19,false,[20,21]),(22,true,[])]] ?_;refine gN ?_;refine gK (first:=[]) (cap:=[]) rfl rfl pH rfl (λb a=>p7 b s.y _ _ _ aa) ?_;refine b5 ?_;refine ao rfl i7 rfl (λb a=>ji b (p6 s (ii s.y c (min s.top s.y) (max ((s.ap.s.l.length:Int) - 1) s.y))) (a.has aQ) (a.has bF) h) ?_;refine ar ?_;refine ao rfl jv rfl (λb a=>jX b (p6 s (ii s.y c (min s.top s.y) (max ((s.ap.s.l.length:Int) - 1) s.y))) s.ap rfl (a.has aQ) (a.has bF)) ?_;refine aq ?_;refine gK (first:=[]) (cap:=[]) rfl rfl pH rfl (λb a=>p7 b (min s.x (s.ap.cols - 1)) _ _ _ aa) ?_;refine ay ?_;intro j e;exact e6 { s with y:=ii s.y c (min s.top s.y) (max ((s.ap.s.l.length:Int) - 1) s.y),x:=ii (min s.x (s.ap.cols - 1)) f 0 (s.ap.cols - 1) } ⟨rfl,rfl,rfl⟩ ⟨d.r,d.st,d.n⟩ (by rw[s0,bd.rows,i,ax bz,ag bz];rfl) rfl e ae;refine aS ?_;refine bG [0,1,2,3,4,5,6,7,8] 0 [[]] ?_;refine bw ?_;refine aj (λp=>?_) (λp=>?_);refine b5 ?_;refine bG [0,1,2,3,4,5,6,7,8,9,10,11,12,13,14,15,16,17,18] 2 [[(19,false,[20,21]),(22,true,[])]] ?_;refine gN ?_;refine gK (first:=[]) (cap:=[]) rfl rfl pH rfl (λb a=>p7 b s.y _ _ _ aa) ?_;refine b5 ?_;refine ao rfl i7 rfl (λb a=>ji b (p6 s (ii s.y c (min 0 s.y) (max s.cO s.y))) (a.has aQ) (a.has bF) h) ?_;refine ar ?_;refine ao rfl jv rfl (λb a=>jX b (p6 s (ii s.y c (min 0 s.y) (max s.cO s.y))) s.ap rfl (a.has aQ) (a.has bF)) ?_;refine aq ?_;refine gK (first:=[]) (cap:=[]) rfl rfl pH rfl (λb a=>p7 b (min s.x (s.ap.cols - 1)) _ _ _ aa) ?_;refine ay ?_;intro j e;exact e6 { s with y:=ii s.y c (min 0 s.y) (max s.cO s.y),x:=ii (min s.x (s.ap.cols - 1)) f 0 (s.ap.cols - 1) } ⟨rfl,rfl,rfl⟩ ⟨d.r,d.st,d.n⟩ (by rw[s0,bd.rows,i,ag bz,ax bz];rfl) rfl e ae;refine aK ?_;refine bG [0,1,2,3,4,5,6,7,8,9,10,11,12,13,14,15,16,17,18] 2 [[(19,false,[20,21]),(22,true,[])]] ?_;refine gN ?_;refine gK (first:=[]) (cap:=[]) rfl rfl pH rfl (λb a=>p7 b s.y _ _ _ aa) ?_;refine b5 ?_;refine ao rfl i7 rfl (λb a=>ji b (p6 s (ii s.y c (min 0 s.y) (max ((s.ap.s.l.length:Int) - 1) s.y))) (a.has aQ) (a.has bF) h) ?_;refine ar ?_;refine ao rfl jv rfl (λb a=>jX b (p6 s (ii s.y c (min 0 s.y) (max ((s.ap.s.l.length:Int) - 1) s.y))) s.ap rfl (a.has aQ) (a.has bF)) ?_;refine aq ?_;refine gK (first:=[]) (cap:=[]) rfl rfl pH rfl (λb a=>p7 b (min s.x (s.ap.cols - 1)) _ _ _ aa) ?_;refine ay ?_;intro j e;exact e6 { s with y:=ii s.y c (min 0 s.y) (max ((s.ap.s.l.length:Int) - 1) s.y),x:=ii (min s.x (s.ap.cols - 1)) f 0 (s.ap.cols - 1) } ⟨rfl,rfl,rfl⟩ ⟨d.r,d.st,d.n⟩ (by rw[s0,bd.rows,i,ag bz,ag bz];rfl) rfl e ae
def RD (s:bd) (y:Int):bd:=gh s (λp=>eraseP p y 0 s.cols (an s) (aM s))
def u3 (s:bd) (a:Int):Nat→bd
 | 0=>s
 | n+1=>RD (u3 s a n) (a+n)
def u4 (s:bd) (a b:Int):bd:=u3 s a (b - a).toNat
theorem s3 (s:bd) (a:Int): ∀n,cP 0 s (u3 s a n)
 | 0=>cP.refl s
 | n+1=>(s3 s a n).trans (hN _ (oK _ _ _ _ _ _))
theorem hM.refl {s:bk} (a:dO s):hM s s.abs s:=⟨rfl,rfl,rfl,a,rfl⟩
theorem xM (w:World) (s:bk) (l:bb w (aO s)) (m:dO s) (n:dV s.abs) (a b:Int) (y:0≤a∧a≤100000) (z:0≤b∧b≤100000):
 Calls prog 324 [ptr s.g,.int .i64 a,.int .i64 b].toArray w (eg s (.tuple #[]) (u4 s.abs a b) w):=by
 refine bI func324 ntmps324 l ?_;refine aC ?_;refine b3 (ι:=Nat × bk) (λi=>[(0,ptr s.g),(2,.int .i64 b),(6,.int .i64 (a+(i.1 :Int)))]) (λi=>af w (aB (aO s)) (aO i.2)) (λi=>i.1≤(b - a).toNat∧hM s (u3 s.abs a i.1) i.2) (λi=>(b - a).toNat - i.1) ?_ ?_;exact λw' o=>⟨(0,s),⟨bN _,hM.refl m⟩,by simp only[Int.natCast_zero,Int.add_zero];exact (dZ rfl rfl rfl),o⟩
 rintro⟨i,q⟩ ⟨hi,c⟩;dsimp only at hi c ⊢
 obtain⟨j,A⟩:=c.fits (s3 s.abs a i) n;obtain⟨B,C,D,E,F⟩:=j.nums;rw[←c.g];refine aK ?_;refine aj (λp=>?_) (λp=>?_);refine aS ?_;refine bG [0,1,2,3,4,5,7] 3 [[(6,false,[]),(8,false,[]),(9,true,[])]] ?_;refine aJ ?_;refine ao rfl jv rfl (λe d=>jX e q q.ap rfl (d.has aQ) (d.has bF)) ?_;refine ah ?_;refine ao rfl k0 rfl (λe d=>lh e q (d.has aQ)) ?_;refine ah ?_;refine aZ (l0:=bB q.ap) ae rfl ut rfl (λe d=>uV e q.ap (d.bp ae) c.wf.r j.bC (a+i) 0 q.ap.cols q.bf.at_.an q.bf.at_.aM aa) (λt k=>?_);refine aR ?_;have f:=xD (s:=s) q ⟨c.g,c.ap,c.st⟩ c.wf k (oK q.ap.abs _ _ _ _ _).cols rfl
 have u:a+(i:Int)+1=a+((i+1 :Nat):Int):=by omega
 rw[u];exact bg (i+1,{ q with ap:=t }) ⟨by show i+1≤(b - a).toNat;omega,⟨f.g,f.ap,f.st,f.wf,by rw[f.abs,u3,←c.abs];rfl⟩⟩ (by show (b - a).toNat - (i+1)<(b - a).toNat - i;omega) bO (λ_ h=>by rw[sU k.1];exact h.aw ae);refine ay ?_;intro G v;have x:i=(b - a).toNat:=by omega
 subst x;exact aP.bP q c rfl v
end Go.Proofs.YtkeokgcdnfjaaaaGreatDoor.Mq
