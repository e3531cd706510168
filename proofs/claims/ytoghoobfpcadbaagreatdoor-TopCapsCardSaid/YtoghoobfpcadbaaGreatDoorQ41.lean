/- part 41 of the proof -/
import Derived.Test.YtoghoobfpcadbaaGreatDoorQ40
namespace Go.Proofs.YtoghoobfpcadbaaGreatDoor.Mq
open Go Go.RowKit Go.Proofs Tryz
theorem YB (w:World) (p:bq) (b:a8 w (bD p)) (rows cols:Int) (e: ¬((1≤rows∧rows≤1000)∧2≤cols∧cols≤1000)) (a:bh) (v:Value):Calls prog 127 [ptr p.g,.int .i64 rows,.int .i64 cols,ee a,v].toArray w
 (aO (λi:dl=> .tuple #[ee ⟨0,0⟩,.slice none 0 0,.int .i64 1]) (bD p) (λi=>bD p) (λ_=>True) w):=by
 obtain⟨f,h⟩:=a;refine bC func127 ntmps127 b ?_;refine ah ?_;intro j k l;refine ar ?_;intro m n o;refine cI ?_;refine ao rfl wR rfl (λc q=>yf c rows cols) ?_;refine ax ?_;refine eA rfl (by simp;omega) ?_;refine aR ?_;refine nd results127 (cC.eR dN rfl aQ rfl rfl) (cC.tmp rfl) (cC.tmp rfl) (λr d=>?_);exact aN (⟨none,0,[]⟩ :dl) aT d
theorem KQ {p:bq} (h:c7 p.abs): (∀x∈p.r.rows,x.1.length≤1000000)∧ ∀x∈b0 p.s.l,x.1.length≤1000000:=by
 have:=h.cols
 exact⟨λx a=>by have:=(h.nC x a).1;omega,λx a=>by have:=(h.wide x a).1;omega⟩
theorem YC {p:bq} (h:c7 p.abs) {b:Nat} (e:p.cols=(b:Int)) {l:List bT} (c:b0 l=p.r.rows++b0 p.s.l):kl b l:=λg d=>by
 have hm:g.fo∈p.r.rows++b0 p.s.l:=c▸dX.2 ⟨g,d,rfl⟩
 have f:p.abs.cols=p.cols:=rfl
 rcases db.1 hm with hm | hm
 have a:=h.nC _ hm
 exact⟨by have: ((g.cells.length:Nat):Int)=p.abs.cols:=a.1;omega,a.2⟩;have a:=h.wide _ hm
 exact⟨by have: ((g.cells.length:Nat):Int)=p.abs.cols:=a.1;omega,a.2⟩
theorem YD {α:Type} (l:List α) {lo hi:Nat} (h:lo≤hi):l.take lo++((l.take hi).drop lo++l.drop hi)=l:=by
 conv=>rhs;rw[←i7 hi l,←i7 lo (l.take hi)]
 rw[List.take_take,iE h,fh]
theorem KR {l:List bT} {n:Nat} {x:bS} (h:x∈b0 (l.take n)):x∈b0 l:=by
 obtain⟨g,a,rfl⟩:=dX.1 h;exact dX.2 ⟨g,iD a,rfl⟩
theorem af.y4 {b w:World} {S:List Nat} {cs cs' d l l2:List Chunk} (h:af b S cs w) (e:aB cs l cs') (f:aB cs' l2 d) {k:Nat} (g:k∈aA l):k∉aA l2:=λi=>by
 have a:=(h.perm e.perm).nodup
 rw[iG,fS] at a
 obtain⟨c,j,m⟩:=e3.1 i;exact a.2.2 k g k (e3.2 ⟨c,f.perm.mem_iff.2 (oc _ j),m⟩) rfl
theorem YE {p v:bq} {a b c:Int} (h:v.abs=fF p.abs a b c):v.abs= { p.abs with gd:=v.be.l }:=by
 have d:v.be.l=(fF p.abs a b c).gd:=aV (λq:b4=>q.gd) h
 rw[h,d];rfl
theorem YF {p u:bq} {rows:Int} {cols m lo hi:Nat} {a:bh} {q:dl} {R:dj} {y:dd} {c:List bT} (w:u.g=p.g) (z:cU u.r) (d:u.abs= { (⟨p.g,R,y,(cols:Int),⟨none,0,[]⟩⟩ :bq).abs with gd:=u.be.l }) (A:u.be.l.length≤1) (h:cU R) (B:R.room=p.r.room) (C: ∀x∈R.rows,x∈b0 c) (i:kl cols c)
 (j:b0 y.l=b0 ((c.take hi).drop lo)++List.replicate (rows.toNat - ((c.take hi).drop lo).length) (nQ (cols:Int))) (H: (((c.take hi).drop lo).length:Int)≤rows) (I:1≤rows∧rows≤100) (J:2≤cols∧cols≤40) (D:0≤a.row∧a.row<rows) (E:0≤a.dp∧a.dp≤(cols:Int)) (F:q.l.length=m+1):Dj p rows (cols:Int) m (a,q,u):=by
 have k:u.abs.cJ=b0 y.l:=by rw[d];rfl
 have o:u.abs.jH=R.rows:=by rw[d];rfl
 have t:u.abs.room=R.room:=by rw[d];rfl
 have e:u.abs.cols=(cols:Int):=by rw[d];rfl
 have G:=KP (cols:=(cols:Int)) aa
 have v: ∀x∈b0 c,((x.1.length:Nat):Int)=(cols:Int)∧gL x.1:=λx b=>by
  obtain⟨g,f,rfl⟩:=dX.1 b;exact⟨by show ((g.cells.length:Nat):Int)=_;rw[(i g f).1],(i g f).2⟩
 have K: (u.abs.cJ.length:Int)=rows:=by
  rw[k,j,b8,cT,hd];omega
 have L:=h.n
 have M:=h.len
 have N:=h.room
 refine⟨w,z,by show u.abs.room=_;rw[t,B],⟨by rw[e];omega,(show 1≤u.abs.cJ.length∧u.abs.cJ.length≤1000 by omega),λx b=>?_,λx b=>?_,?_⟩,?_,e,A,D,E,F⟩;rw[k,j] at b
 rw[e];rcases db.1 b with b | b
 obtain⟨g,f,rfl⟩:=dX.1 b;exact v _ (dX.2 ⟨g,iD (lK f),rfl⟩);rw[(ui.1 b).2];exact G
 rw[o] at b
 rw[e];exact v x (C x b);rw[o,t,lk];omega
 have:u.abs.cJ.length=u.s.l.length:=by simp[bq.abs]
 dsimp only;omega
structure Dk where
 z:dd
 q:dl
set_option maxHeartbeats 2000000 in
theorem YG (w:World) (p:bq) (ZA:a8 w (bD p)) (Y:cU p.r) (T:c7 p.abs) (Z9:p.s.l.length≤100∧p.cols≤100∧p.r.room≤100) (rows:Int) (cols:Nat) (Ze:1≤rows∧rows≤100) (Zf:2≤cols∧cols≤40) (a:bh) (ZB: (0≤a.row∧a.row≤1000)∧0≤a.dp∧a.dp≤1000) (F:Nat→Prop) (Zn:Option Addr) (m d:Nat) (l:List bh) (ai:Rd bW w F Zn m d l) (ZC: ∀k,F k→k∉aA (bD p)) (Zaa:m≤100000):
 Calls prog 127 [ptr p.g,.int .i64 rows,.int .i64 (cols:Int),ee a,.slice Zn m d].toArray w
 (aO (λi:bh × dl × bq=> .tuple #[ee i.1,wl i.2.1,.int .i64 0]) (bD p) (λi=>bD i.2.2++[i.2.1.au]) (Dj p rows (cols:Int) m) w):=by
 obtain⟨Zo,Zp⟩:=a;have ZD:=ai.len
 have Zab:=Y.n
 have Zac:=Y.len
 have Zad:=T.cols
 have Zae:=T.rows
 have Zaf:p.abs.cols=p.cols:=rfl
 have Zag:p.abs.cJ.length=p.s.l.length:=by simp[bq.abs]
 dsimp only at ZB
 refine bC func127 ntmps127 ZA ?_;refine ah ?_;intro I Zah Zai;refine ar ?_;intro J Zaj Zak;refine cI ?_;refine ao rfl wR rfl (λo f=>yf o rows (cols:Int)) ?_;refine ax ?_;refine fD rfl (by simp;omega) ?_;refine ah ?_;refine bF [0,2,3,4] 3 [[(1,false,[]),(5,false,[6,7,8,9,10]),(11,true,[])]] ?_;refine al ?_;refine ao rfl oz rfl (λo f=>oK o p (f.has cu) ((f.has hL: (aU (cd p.r)).pred o) p.r.an av)) ?_;refine ah ?_;refine ao rfl pH rfl (λo f=>p1 o p (f.has cu)) ?_;refine b_ ?_;refine bF [0,1,2,3,4,5,6,7,8] 1 [[(9,true,[])]] ?_;refine eM ?_;refine aY (l0:=bD p) ae rfl zA rfl (λo f=>BR o p (f.bo ae) Y (KQ T).1 (KQ T).2 aa) (λz Zq=>?_);refine al ?_;refine dG (E:=bW) ⟨_,_⟩ ds rfl rfl rfl rfl rfl (λZal Zam Zan=>?_);refine ar ?_;refine rb (E:=bW) (src:=l) (F:=F) (m:=1) (xs:=bW.all [(⟨p.r.n+max 0 (min Zo ((p.s.l.length:Int) - 1)),max 0 (min Zp p.cols)⟩ :bh)]) (m+1) aa ds rfl rfl rfl (λ_=>by exact cA) (λw' U=>ai.ext U.ext ZC) (by simp only[maxLen];omega) aa (λZ Za=>?_);refine b_ ?_;obtain⟨Q,ZE⟩ : ∃R:Int,R=p.r.n+max 0 (min Zo ((p.s.l.length:Int) - 1)):=⟨_,rfl⟩;obtain⟨S,ZF⟩ : ∃C:Int,C=max 0 (min Zp p.cols):=⟨_,rfl⟩;have Zao: (z.l.length:Int)=p.r.n+(p.s.l.length:Int):=by
  have:=aV List.length Zq
  rw[cT,b8,lk,cT] at this
  omega
 obtain⟨Zr,ZG⟩ : ∃n:Nat,p.cols=(n:Int):=⟨p.cols.toNat,aa⟩;have Zg:=YC T ZG Zq
 have Zap:eb (b0 z.l)≤20000:=by
  rw[Di Zg];exact fs (Nat.mul_le_mul (show z.l.length≤200 by omega) (show Zr≤100 by omega)) aZ
 subst ZD;have ZH: (eb (b0 z.l)+1)*cols≤1000000:=fs (Nat.mul_le_mul (show _≤20001 by omega) Zf.2) aZ
 have ZI: ∀r∈b0 z.l,gL r.1:=λr Ze=>by
  obtain⟨g,Zh,rfl⟩:=dX.1 Ze;exact (Zg g Zh).2
 refine cL (H':=af w (aA (bD p)) (bD p++[z.au,z.cj,dl.au ⟨Z,Za,⟨Q,S⟩::l⟩,aE J [.int .i64 0,.int .i64 0] 51,aE I [.int .i64 Q,.int .i64 S] 51])) ?_ (Sub.refl _) (λx H=>by subst ZE ZF;exact H.aw ae);refine hK (λi:Dk=>[(0,ptr p.g),(1,.int .i64 rows),(2,.int .i64 (cols:Int)),(8,ptr I),(10,ptr J),(13,i.z.val),(14,i.q.val)]) (λi=>af w (aA (bD p)) (bD p++[i.z.au,i.z.cj,i.q.au,aE J [.int .i64 0,.int .i64 0] 51,aE I [.int .i64 Q,.int .i64 S] 51])) (λi=>kl cols i.z.l∧i.z.l.length≤200000000∧i.q.l.length=l.length+1∧Good i.q.l i.z.l.length) ?_ ?_
 ·refine aj (λZJ=>?_) (λZJ=>?_)
  ·skip
   refine aS ?_;refine aY (l0:=[]) aB.nil rfl Nq rfl (λo f=>Yw o _ _ z.A Z z.l.length z.c (l.length+1) Za (b0 z.l) (⟨Q,S⟩::l) cols (sK (f.has (c:=z.au) kv) (f.has (c:=z.cj) eX)) (gV (E:=bW) (L:=⟨Q,S⟩::l) (A:=Z) (c:=Za) (e:=51) (f.has xa)) aa aa aa Zf.1 aa ZH ZI) (λt O=>?_);refine al ?_;exact dw (⟨t.1,t.2⟩ :Dk) ⟨O.1,O.2.1,O.2.2.1,O.2.2.2 _ rfl bm bm⟩ (hq rfl rfl rfl rfl rfl rfl rfl) (λ_ h=>h.aw ae)
  ·skip
   refine ar ?_;exact dw (⟨z,⟨Z,Za,⟨Q,S⟩::l⟩⟩ :Dk) ⟨by rw[show cols=Zr by omega];exact Zg,by dsimp only;omega,rfl,⟨_,rfl,by dsimp only;omega,by dsimp only;omega,by dsimp only;omega⟩⟩ (hq rfl rfl rfl rfl rfl rfl rfl) (λ_ h=>h)
 rintro⟨⟨K,M,b⟩,⟨B,D,G⟩⟩ ⟨Zi,ZK,ZL,⟨N,c0⟩,Zs,ZM,Zt,ZN⟩;dsimp only at Zi ZK ZL Zs ZM Zt ZN ⊢
 have Zu: ∀x∈b0 b,x.1.length≤1000000:=λx H=>by
  obtain⟨g,Zh,rfl⟩:=dX.1 H;have:g.cells.length=cols:=(Zi g Zh).1
  show g.cells.length≤_
  omega
 refine aS ?_;refine iI (e:=144) (sz:=2) (v:= .slice K b.length M) kv (λdF c9 Zj ZO Zaq _ _=>?_);cases Zj
 dsimp only at ZO
 refine jm (E:=bW) (e:=51) (L:=G) (A:=B) (c:=D) (q:=0) xa ds rfl rfl rfl rfl aa (λZar ZP=>?_);refine cy (vs:=[.int .i64 N,.int .i64 c0]) dN rfl rfl rfl (λZQ V j u Zk=>V.fO (E:=bW) (e:=51) (L:=G) (A:=B) (c:=D) xa ZP Zs j u Zk) ?_;refine aL ?_;refine aY (l0:=[]) aB.nil rfl Nr rfl (λo f=>Yx o _ K b.length M (b0 b) (sK (r:=⟨K,M,b⟩) (f.has kv) (f.has eX)) aa Zu N aa) (λk Zb=>?_);refine et ?_;obtain⟨lo,ZR⟩ : ∃lo:Nat,max 0 (min ((k:Int) - rows) N)=(lo:Int):=⟨(max 0 (min ((k:Int) - rows) N)).toNat,aa⟩;obtain⟨hi,ZS⟩ : ∃hi:Nat,min (k:Int) ((lo:Int)+rows)=(hi:Int):=⟨(min (k:Int) ((lo:Int)+rows)).toNat,aa⟩;have Zas:=Zb.1
 have Zat:=Zb.2 Zt
 have ZT:lo≤hi∧hi≤k:=by omega
 rw[ZR];refine oD ?_;refine ft lo hi dM rfl rfl (.inl ⟨_,_,rfl,rfl,rfl⟩) (.inl ⟨_,_,rfl,rfl,ZS⟩) aa aa ?_;refine px 144 2 ?_;refine rb (E:=cn) (src:=(b.take hi).drop lo) (F:=λ_=>True) (m:=0) (xs:=[]) (hi - lo) aa dM rfl rfl rfl (λ_=>by exact cA) (λw' U=>(gV (E:=cn) (e:=144) (A:=K) (c:=M) (L:=b) (U.has eX)).cut (p:=lo) (q:=hi) aa aa) (by simp only[maxLen];omega) aa (λW X=>?_);refine al ?_;have Zv:hi - lo=((b.take hi).drop lo).length:=by rw[fK,dv];omega
 have ZU:b.map bT.aG=(b.take lo).map bT.aG++(((b.take hi).drop lo).map bT.aG++(b.drop hi).map bT.aG):=by
  rw[←gf,←gf,YD b ZT.1]
 refine cL (H':=af w (aA (bD p)) (bD (⟨p.g,p.r,⟨W,X,((b.take hi).drop lo)⟩,(cols:Int),⟨none,0,[]⟩⟩ :bq)++[aU ((b.take lo).map bT.aG),(⟨K,M,b⟩ :dd).au,(⟨B,D,G⟩ :dl).au,aE J [.int .i64 0,.int .i64 0] 51,aE I [.int .i64 N,.int .i64 c0] 51])) ?_ (Sub.refl _) (λx H=>by
  rw[Zv] at H
  have Zw:=H.aw (l:=[aU (b.map bT.aG),(⟨p.g,p.r,⟨W,X,((b.take hi).drop lo)⟩,(cols:Int),⟨none,0,[]⟩⟩ :bq).an,aU (cd p.r),dd.au ⟨W,X,((b.take hi).drop lo)⟩,(⟨K,M,b⟩ :dd).au,(⟨B,D,G⟩ :dl).au,aE J [.int .i64 0,.int .i64 0] 51,aE I [.int .i64 N,.int .i64 c0] 51]) ae
  rw[ZU] at Zw
  exact (((Zw.y3.perm (List.Perm.swap _ _ _)).y3).eO 167 jX).aw ae)
 refine ah ?_;refine aY (l0:=bD (⟨p.g,p.r,⟨W,X,((b.take hi).drop lo)⟩,(cols:Int),⟨none,0,[]⟩⟩ :bq)) ae rfl zN rfl (λo f=>BQ o (⟨p.g,p.r,⟨W,X,((b.take hi).drop lo)⟩,(cols:Int),⟨none,0,[]⟩⟩ :bq) (f.bo ae) rows aa bm) (λy ZV=>?_);refine aS ?_;refine bF [0,1,2,3,4,5,6] 1 [[(7,true,[8])]] ?_;refine al ?_;refine aI rfl (λZau Zav=>(ft 0 lo dM rfl rfl (.inr ⟨rfl,rfl⟩) (.inl ⟨_,_,rfl,rfl,rfl⟩) aa aa aC)) ?_;refine aq ?_;rw[vQ,kn,kn];refine kH (l0:=cd p.r) (cs1:=λ_=>_) (λ_=>er) rfl Ns rfl (λo f=>Yz o p.r (f.kG bH) Y _ K lo M (b0 (b.take lo)) (YA (r:=(⟨K,M,b⟩ :dd)) (lo:=lo) (f.has eX) bm (f.has kv)) (λk Zb=>by have V:=f.y4 (l:=[(⟨K,M,b⟩ :dd).au,aU ((b.take lo).map bT.aG)]) (l2:=[aU (cd p.r)]) ae ae Zb;rwa [show aA [aU (cd p.r)]=aA (cd p.r) by simp[aA,aU]] at V) aa (λx H=>Zu x (KR H))) (λt O=>?_);refine al ?_;refine cL (H':=af w (aA (bD p)) (bD (⟨p.g,t.2,y,(cols:Int),⟨none,0,[]⟩⟩ :bq)++[aU ((b.take lo).map bT.aG),(⟨K,M,b⟩ :dd).au,(⟨B,D,G⟩ :dl).au,aE J [.int .i64 0,.int .i64 0] 51,aE I [.int .i64 N,.int .i64 c0] 51])) ?_ (Sub.refl _) (λx H=>by have e:=O.1;simp only[bD,bq.an,nx,e];exact H.aw ae);refine ax ?_;have Zl:cU t.2:=O.2.2.1
 have ZW:b0 y.l=b0 ((b.take hi).drop lo)++List.replicate (rows.toNat - ((b.take hi).drop lo).length) (nQ (cols:Int)):=ZV
 refine hK (λ_:bq=>[(0,ptr p.g),(1,.int .i64 rows),(2,.int .i64 (cols:Int)),(8,ptr I),(10,ptr J),(14,(⟨B,D,G⟩ :dl).val),(15,.int .i64 (lo:Int))]) (λu=>af w (aA (bD p)) (bD u++[(⟨B,D,G⟩ :dl).au,aE J [.int .i64 0,.int .i64 0] 51,aE I [.int .i64 N,.int .i64 c0] 51])) (λu=>u.g=p.g∧cU u.r∧u.abs= { (⟨p.g,t.2,y,(cols:Int),⟨none,0,[]⟩⟩ :bq).abs with gd:=u.be.l }∧u.be.l.length≤1) ?_ ?_
 ·refine aj (λaK=>?_) (λaK=>?_)
  ·skip
   refine ah ?_;refine aY (l0:=bD (⟨p.g,t.2,y,(cols:Int),⟨none,0,[]⟩⟩ :bq)) ae rfl pJ rfl (λo f=>p3 o (⟨p.g,t.2,y,(cols:Int),⟨none,0,[]⟩⟩ :bq) (f.bo ae) Zl av 2 0 _) (λv Zc=>?_);refine ar ?_;exact dw v ⟨Zc.1,Zc.2.1,YE Zc.2.2,by have:=aV (λq=>q.gd.length) Zc.2.2;exact Nat.le_of_eq this⟩ bR (λ_ h=>h.aw ae)
  ·skip
   refine ar ?_;exact dw (⟨p.g,t.2,y,(cols:Int),⟨none,0,[]⟩⟩ :bq) ⟨rfl,Zl,rfl,bP _⟩ (hq rfl rfl rfl rfl rfl rfl rfl) (λ_ h=>h.aw ae)
 rintro u ⟨ZX,ZY,ZZ,Z0⟩;refine aS ?_;refine iI (e:=51) (sz:=2) (v:= .slice B G.length D) kv (λdF c9 Zj Z1 Zaw _ Zx=>?_);cases Zj
 dsimp only at Z1 Zx
 refine ft 1 G.length ds rfl rfl (.inl ⟨_,_,rfl,rfl,rfl⟩) (.inr ⟨rfl,rfl⟩) aa aa ?_;refine bB ?_;refine b1 (ι:=Nat × List bh) (λi=>[(1,.int .i64 rows),(2,.int .i64 (cols:Int)),(8,ptr I),(10,ptr J),(15,.int .i64 (lo:Int)),(17,(.slice (if D=1 then B else B.map (λx=>x.add (1*2))) (G.length - 1) (D - 1):Value)),(121,(.slice (if D=1 then B else B.map (λx=>x.add (1*2))) (G.length - 1) (D - 1):Value)),(122,.int .i64 ((G.length - 1 :Nat):Int)),(123,.int .i64 (i.1 :Int))])
  (λi=>af w (aA (bD p)) (bD u++[dl.au ⟨B,D,i.2⟩,aE J [.int .i64 0,.int .i64 0] 51,aE I [.int .i64 N,.int .i64 c0] 51])) (λi=>i.1≤G.length - 1∧i.2.length=G.length) (λi=>G.length - 1 - i.1) ?_ ?_
 ·exact λw' U=>⟨(0,G),⟨bP _,rfl⟩,(uM rfl rfl rfl rfl rfl rfl rfl rfl rfl),U⟩
 ·rintro⟨i,P⟩ ⟨Z2,Zd⟩
  dsimp only at Z2 Zd ⊢
  refine al ?_;refine aj (λZ3=>?_) (λZ3=>?_)
  ·obtain⟨Zy,Zm⟩:=Zx aa
   have Zz: (if D=1 then B else B.map (λx=>x.add (1*2)))=some ((⟨Zy,0,none⟩ :Addr).add (1*2)):=by rw[ag aa,Zm];rfl
   obtain⟨⟨Z4,Z5⟩,Z6⟩ : ∃x,P[i+1]? = some x:=⟨_,bG aa⟩;refine aD ?_;refine bw (q:=i) ds rfl rfl rfl Zz rfl aa ?_;rw[KO];refine cy (vs:=[.int .i64 Z4,.int .i64 Z5]) dN rfl rfl rfl (λZQ V j u Zk=>V.fO (E:=bW) (e:=51) (L:=P) (A:=B) (c:=D) kv Zm Z6 j u Zk) ?_;refine ar ?_;intro Zax Zay Zaz;refine b_ ?_;refine aj (λZ7=>?_) (λZ7=>?_)
   ·skip
    refine aD ?_;refine bw (q:=i) ds rfl rfl rfl Zz rfl aa ?_;rw[KO];refine tX (E:=bW) (e:=51) (A:=B) (c:=D) (L:=P) (g:=Zy) (q:=i+1) (a:=(⟨(lo:Int)+rows,0⟩ :bh)) dN rfl rfl Zm aa uL ?_;refine aD ?_;exact bg (i+1,P.set (i+1) ⟨(lo:Int)+rows,0⟩) ⟨aa,by dsimp only;rw[fL];exact Zd⟩ bm bR (λ_ h=>h.aw ae)
   ·skip
    refine aD ?_;exact bg (i+1,P) ⟨aa,Zd⟩ bm bR (λ_ h=>h.aw ae)
  ·refine oD ?_
   refine nd results127 (cC.eR dN rfl eX rfl rfl) (cC.tmp rfl) (cC.tmp rfl) (λZba Z8=>?_);exact aO.bQ (⟨N - (lo:Int),min c0 (cols:Int)⟩,⟨B,D,P⟩,u) (YF ZX ZY ZZ Z0 Zl O.2.1 (λx H=>KR (O.2.2.2 x H)) Zi ZW (by rw[←Zv];omega) Ze Zf ⟨by dsimp only;omega,by dsimp only;omega⟩ ⟨by dsimp only;omega,by dsimp only;omega⟩ bm) (by rw[show G.length=P.length from Zd.symm];rfl) (Z8.aw ae)
theorem YH {p:bq} (h:c7 p.abs) {x:bT} (b:x∈p.s.l):x.cells.length≤1000∧gL x.cells:=by
 have a:=h.wide x.fo (dX.2 ⟨x,b,rfl⟩)
 have c:=h.cols
 have d: ((x.cells.length:Nat):Int)=p.abs.cols:=a.1
 exact⟨aa,a.2⟩
theorem YI (A:Option Addr) (m n c:Nat) (xs dh:List Value): (own 144 2 (.slice A m c) m xs).cm=(own 144 2 (.slice A n c) n dh).cm:=by
 cases A <;> rfl
structure KS (p:bq) (rows cols:Int) (q:bq):Prop where
 g:q.g=p.g
 r:cU q.r
 room:q.r.room=p.r.room
 P:c7 q.abs
 high: (q.s.l.length:Int)=rows
 wd:q.cols=cols
 be:q.be.l=[]
theorem YJ (w:World) (F:Nat→Prop) (A:Option Addr) (n c:Nat) (row:List bj) (b:Rd bJ w F A n c row) (a:n≤1000000):
 Calls prog 201 [.slice A n c].toArray w (fd (λi:Option Addr × Nat=> .slice i.1 (cV id row).length i.2) (λi=>dQ (.slice i.1 (cV id row).length i.2) (cV id row)) (λ_=>True) w):=by
 refine (Qh w F A n c row b a).mono ?_;rintro e w' ⟨v,_,rfl,f,ai,g,a⟩;obtain⟨h,d,rfl⟩:=wx ai;exact⟨(h,d),aT,rfl,f,ai,g,a⟩
theorem YK {w:World} {g n:Nat} {R:List bj} (h: (own 283 8 (.slice (some ⟨g,0,none⟩) n n) n (bJ.all R)).pred w) (a:R.length=n):Rd bJ w (λ_=>True) (some ⟨g,0,none⟩) n n R:=by
 obtain⟨A,c,b,d⟩:=Rd.ga (E:=bJ) (show w.ownsRow 0 283 bJ.sz (.slice (some ⟨g,0,none⟩) n n) n (bJ.all R) from h) a;injection b with e _ f
 subst e f;exact d.dJ (λ_ _=>aT)
theorem YL {p:bq} {t:dj} {y:dd} {L:List bT} {rows:Int} {cols:Nat} (b:t.g=p.r.g∧t.room=p.r.room∧cU t∧t.rows=[]) (c:b0 y.l=b0 L++List.replicate (rows.toNat - L.length) (nQ (cols:Int))) (f: ∀x∈L,x.cells.length≤1000∧gL x.cells) (ak: ∀j x,j<L.length→L[j]? = some x→x.cells.length=cols) (k: (L.length:Int)≤rows) (m:1≤rows∧rows≤100) (o:2≤cols∧cols≤1000):KS p rows (cols:Int) (⟨p.g,t,y,(cols:Int),⟨none,0,[]⟩⟩ :bq):=by
 have h:=KP (cols:=(cols:Int)) aa
 have i: (y.l.length:Int)=rows:=by
  have:=aV List.length c
  rw[cT,b8,cT,hd] at this
  omega
 have q:=b.2.2.1.n
 have s:=b.2.2.1.len
 have u:=b.2.2.1.room
 refine⟨rfl,b.2.2.1,b.2.1,⟨by show 2≤(cols:Int)∧(cols:Int)≤1000;omega,by show 1≤(b0 y.l).length∧(b0 y.l).length≤1000;rw[cT];omega,λx a=>?_,λx a=>?_,by show ((t.rows.length:Nat):Int)≤t.room∧t.room≤100000;rw[b.2.2.2];simp only[lH];omega⟩,i,rfl,rfl⟩;have a:x∈b0 y.l:=a
 rw[c] at a
 show ((x.1.length:Nat):Int)=(cols:Int)∧_
 rcases db.1 a with a | a
 obtain⟨g,d,rfl⟩:=dX.1 a;obtain⟨j,e⟩:=List.mem_iff_getElem?.1 d;have:=ak j g (cY.1 e).1 e
 exact⟨by show ((g.cells.length:Nat):Int)=_;omega,(f g d).2⟩;rw[(ui.1 a).2];exact h
 have a:x∈t.rows:=a
 rw[b.2.2.2] at a;cases a
theorem YM (w:World) (p:bq) (X:a8 w (bD p)) (Y:cU p.r) (T:c7 p.abs) (rows:Int) (cols:Nat) (Z:1≤rows∧rows≤100) (Za:2≤cols∧cols≤1000):Calls prog 131 [ptr p.g,.int .i64 rows,.int .i64 (cols:Int)].toArray w
 (aO (λ_:bq=> .int .i64 0) (bD p) bD (KS p rows (cols:Int)) w):=by
 have Zs:=T.rows
 have Zt:p.abs.cJ.length=p.s.l.length:=by simp[bq.abs]
 refine bC func131 ntmps131 X ?_;refine dx ?_;refine ao rfl wR rfl (λn b=>yf n rows (cols:Int)) ?_;refine ax ?_;refine fD rfl (by simp;omega) ?_;obtain⟨K,Zb⟩ : ∃K:Nat,min (p.s.l.length:Int) rows=(K:Int):=⟨(min (p.s.l.length:Int) rows).toNat,aa⟩;refine aL ?_;refine kH (l0:=cd p.r) (cs1:=λ_=>_) (λ_=>er) rfl Nt rfl (λn b=>Gj n p.r (b.kG bH) Y) (λt U=>?_);refine al ?_;refine iI (e:=144) (sz:=2) (v:=p.s.val) cu (λdF c9 Zc Zu Zv _ Zd=>?_);injection Zc with Ze _ Zf
 subst Ze Zf;refine aR ?_;refine bF [0,1,2,3,4,5,6,7,8,9,10,11,12,13,14] 1 [[(15,true,[])]] ?_;refine bB ?_;refine aI rfl (λZg Zh=>(ft 0 K dM rfl rfl (.inr ⟨rfl,rfl⟩) (.inl ⟨_,_,rfl,rfl,Zb⟩) aa aa aC)) ?_;refine aS ?_;rw[vQ,kn,kn];refine aD ?_;have Zi: (p.s.l.take K).length=K:=by rw[dv];omega
 have Zj:K≤p.s.l.length:=by omega
 have Zk:p.s.l.map bT.aG=(p.s.l.take K).map bT.aG++(p.s.l.drop K).map bT.aG:=by rw[←gf,i7]
 refine cL (H':=af w (aA (bD p)) [aE p.g [.pointer (some ⟨p.r.g,0,none⟩),.slice p.s.A K p.s.c,.int .i64 (cols:Int),.slice none 0 0] 106,aU (cd t),own 144 2 (.slice p.s.A K p.s.c) K (cn.all (p.s.l.take K)),aU ((p.s.l.take K).map bT.aG),lT.au ⟨none,0,[]⟩]) ?_ (Sub.refl _) (λx m=>by
  have o:=m.aw (l:=[aU (p.s.l.map bT.aG),aE p.g [.pointer (some ⟨p.r.g,0,none⟩),.slice p.s.A K p.s.c,.int .i64 (cols:Int),.slice none 0 0] 106,aU (cd t),p.s.au]) ae
  rw[Zk] at o
  have J:=(o.y3).conv (c:=p.s.au) (c':=own 144 2 (.slice p.s.A K p.s.c) K (cn.all (p.s.l.take K))) jf (YI p.s.A K p.s.l.length p.s.c _ _) (λh=>by have D:=CB (j:=K) Zj h;rw[←show (cn.all (p.s.l.take K))=(cn.all p.s.l).take (K*2) from cn.CE p.s.l K] at D;exact D)
  exact (J.eO 167 jX).aw ae)
 refine aR ?_;refine b1 (ι:=Nat × List bT) (λi=>[(0,ptr p.g),(1,.int .i64 rows),(2,.int .i64 (cols:Int)),(48,.slice p.s.A K p.s.c),(49,.int .i64 (K:Int)),(50,.int .i64 (i.1 :Int))])
  (λi=>af w (aA (bD p)) [aE p.g [.pointer (some ⟨p.r.g,0,none⟩),.slice p.s.A K p.s.c,.int .i64 (cols:Int),.slice none 0 0] 106,aU (cd t),own 144 2 (.slice p.s.A K p.s.c) K (cn.all i.2),aU (i.2.map bT.aG),lT.au ⟨none,0,[]⟩])
  (λi=>i.1≤K∧i.2.length=K∧(∀x∈i.2,x.cells.length≤1000∧gL x.cells)∧ ∀j x,j<i.1→i.2[j]? = some x→x.cells.length=cols) (λi=>K - i.1) ?_ ?_
 ·exact λw' Zl=>⟨(0,p.s.l.take K),⟨bP _,Zi,λx m=>YH T (iD m),λ_ _ h=>by omega⟩,(gC rfl rfl rfl rfl rfl rfl),Zl⟩
 ·rintro⟨i,L⟩ ⟨hi,M,G,N⟩
  dsimp only at hi M G N ⊢
  refine al ?_;refine aj (λZm=>?_) (λZm=>?_)
  ·obtain⟨gs,H⟩:=Zd aa
   obtain⟨x,m⟩ : ∃x,L[i]? = some x:=⟨_,bG aa⟩;have Zn:=G x (dc m)
   subst M;refine aD ?_;refine bw (q:=i) dM rfl rfl rfl H rfl aa ?_;refine cy (vs:=x.enc) gP rfl rfl rfl (λZw D j u I=>D.fO (E:=cn) (e:=144) (L:=L) (A:=p.s.A) (c:=p.s.c) cu H m j u I) ?_;refine ar ?_;intro Zo Zx Zy;refine aD ?_;refine se cols dB rfl rfl rfl rfl (by simp only[maxLen];omega) aa (λO Zz ZA=>?_);refine aS ?_;rw[FU];refine cL (H':=af w (aA (bD p)) [own 283 8 (.slice (some ⟨O,0,none⟩) cols cols) cols (bJ.all (List.replicate cols gS)),aE Zo x.enc 144,aE p.g [.pointer (some ⟨p.r.g,0,none⟩),.slice p.s.A L.length p.s.c,.int .i64 (cols:Int),.slice none 0 0] 106,aU (cd t),own 144 2 (.slice p.s.A L.length p.s.c) L.length (cn.all L),aU (L.map bT.aG),lT.au ⟨none,0,[]⟩]) ?_ (Sub.refl _) (λy d=>d.aw ae);refine aS ?_;refine xt (E:=bJ) (L:=List.replicate cols gS) (src:=x.cells) (g:=O) (F:=λ_=>True) 0 (min x.cells.length cols) rfl dB rfl rfl rfl (λ_=>by rw[qL]) (by rw[hd];omega) cA (λZB o=>BP (o.has kv) (dc m)) ?_;refine aq ?_;obtain⟨R,P⟩ : ∃R,R=List.take 0 (List.replicate cols gS)++List.take (min x.cells.length cols) x.cells++List.drop (0+min x.cells.length cols) (List.replicate cols gS):=⟨_,rfl⟩;rw[←P];have V:R.length=cols:=by
    rw[P];simp only[b8,dv,fK,hd];omega
   have Zp:gL R:=λc b=>by
    rw[P] at b
    rcases db.1 b with b | b
    ·rcases db.1 b with b | b
     ·simp at b
     ·exact Zn.2 c (iD b)
    ·rw[(ui.1 (lK b)).2];exact bP _
   refine eq [0,1,2,3,4,5] 2 [[(6,false,[7,8]),(9,true,[])]] (_) mixed ab (λ_ Q=>Q.drew) (λ_ h=>(show af _ _ [aE p.g [.pointer (some ⟨p.r.g,0,none⟩),.slice p.s.A L.length p.s.c,.int .i64 (cols:Int),.slice none 0 0] 106] _ from h.aw ae)) ?_;refine aL ?_;refine gm (ι:=Option Addr × Nat) rfl zS rfl (λn b=>YJ n _ (some ⟨O,0,none⟩) cols cols R (YK (b.has aQ) V) aa) (λ⟨B,C⟩ _=>?_);refine bV (λ_=>True) (λ_ h=> .inr (h.aw ae)) (λ_ h=>aT) ?_;refine ar ?_;refine aI rfl (λZg Zh=>(bw (q:=i) dM rfl rfl rfl H rfl aa aC)) ?_;refine aq ?_;refine tX (E:=cn) (e:=144) (A:=p.s.A) (c:=p.s.c) (L:=L) (g:=gs) (q:=i) (a:=(⟨B,C,false,cV id R⟩ :bT)) gP rfl rfl H aa sD ?_;refine aJ ?_;refine bg (i+1,L.set i (⟨B,C,false,cV id R⟩ :bT)) ⟨by dsimp only;omega,by rw[fL],λy d=>?_,λj y I d=>?_⟩ bm (gC rfl rfl rfl rfl rfl rfl) (λ_ h=>?_)
   ·exact (rX d).elim (λh=>G y h) (λh=>by rw[h];exact⟨by show (cV id R).length≤_;rw[AK (f:=id) (λ_=>rfl)];omega,Gx (f:=id) (λ_=>rfl) (λ_ h=>h) Zp⟩)
   ·exact (Nat.lt_or_eq_of_le (Nat.le_of_lt_succ I)).elim (λh=>by rw[jx aa] at d;exact N j y h d) (λh=>by subst h;rw[List.getElem?_set_self aa] at d;cases d;show (cV id R).length=_;rw[AK (f:=id) (λ_=>rfl)];exact V)
   ·simp only[Mq.au,fL] at h
    have o:=h.aw (l:=[aU (L.map bT.aG),(⟨B,C,false,cV id R⟩ :bT).aG,aE p.g [.pointer (some ⟨p.r.g,0,none⟩),.slice p.s.A L.length p.s.c,.int .i64 (cols:Int),.slice none 0 0] 106,aU (cd t),own 144 2 (.slice p.s.A L.length p.s.c) L.length (cn.all (L.set i (⟨B,C,false,cV id R⟩ :bT))),lT.au ⟨none,0,[]⟩]) ae
    have J:=o.pick (k:=i) (c:=x.aG) (by rw[eJ,m];rfl)
    have Zq:=(J.perm (List.Perm.swap _ _ _)).aw (l:=[(⟨B,C,false,cV id R⟩ :bT).aG,aU ((L.map bT.aG).eraseIdx i),aE p.g [.pointer (some ⟨p.r.g,0,none⟩),.slice p.s.A L.length p.s.c,.int .i64 (cols:Int),.slice none 0 0] 106,aU (cd t),own 144 2 (.slice p.s.A L.length p.s.c) L.length (cn.all (L.set i (⟨B,C,false,cV id R⟩ :bT))),lT.au ⟨none,0,[]⟩]) ae
    have W:=Zq.Ju (by rw[cT];omega)
    rw[←ob] at W
    exact W.aw ae
  ·have ZC:i=K:=by omega
   subst M;have Zr:t.g=p.r.g:=U.1
   refine al ?_;refine cL (H':=af w (aA (bD p)) (bD (⟨p.g,t,⟨p.s.A,p.s.c,L⟩,(cols:Int),⟨none,0,[]⟩⟩ :bq))) ?_ (Sub.refl _) (λy d=>by simp only[bD,bq.an,nx,Zr];exact d.aw ae);refine ah ?_;refine aY (l0:=bD (⟨p.g,t,⟨p.s.A,p.s.c,L⟩,(cols:Int),⟨none,0,[]⟩⟩ :bq)) ae rfl zN rfl (λn b=>BQ n (⟨p.g,t,⟨p.s.A,p.s.c,L⟩,(cols:Int),⟨none,0,[]⟩⟩ :bq) (b.bo ae) rows aa bm) (λy d=>?_);refine aJ ?_;intro ZD Q;exact aN (⟨p.g,t,y,(cols:Int),⟨none,0,[]⟩⟩ :bq) (YL (L:=L) U d (λz S=>G z S) (λj z I S=>N j z aa S) aa Z Za) Q
theorem la.fo {ι:Type} {v:ι→Value} {c:Chunk} {c':ι→Chunk} {ok:ι→Prop} {w w':World} {e:Ending} (h:la v c c' ok w e w'):aO v [c] (λi=>[c' i]) ok w e w':=by
 obtain⟨i,hi,rfl,g,ai,j,l⟩:=h;have a:aA [c]=c.cm:=by simp[aA]
 have b:aA [c' i]=(c' i).cm:=by simp[aA]
 refine⟨i,hi,rfl,a▸g,b▸l,λd ak=>?_,λk f m=>?_⟩;rw[ey] at ak;subst ak;exact ai
 rw[b] at f
 rw[a];rcases j k f with h | h
 exact h;omega
abbrev mn (s:bl) (q:bq) (cols:Nat) (j:cO.e5) (y x:Int):bl:={ s with ap:=q,st:=⟨s.st.g,cO.jj s.st.bs cols,j⟩,y:=y,x:=x }
theorem Dl {s z:bl} {q:bq} {cols:Nat} {j:cO.e5} {y x rows:Int} (c:c7 q.abs) (d: (q.s.l.length:Int)=rows) (h:q.cols=(cols:Int)) (i:1≤rows∧rows≤100) (k:2≤cols∧cols≤100) (m:0≤y∧y<rows) (n:0≤x∧x≤(cols:Int)) (o:q.r.room≤100) (a:hU (mn s q cols j y x) (vc (mn s q cols j y x).abs) z):
 z.g=s.g∧dW z∧z.ap.r.room=q.r.room∧z.ap.be.l=q.be.l:=by
 have b:z.ap.abs=q.abs:=aV (λt:bd=>t.bE) a.abs
 have p:z.ap.s.l.length=q.s.l.length:=by
  have:=aV (λt:b4=>t.cJ.length) b
  simpa [bq.abs] using this
 have u:z.ap.cols=q.cols:=aV (λt:b4=>t.cols) b
 have e:z.ap.r.room=q.r.room:=aV (λt:b4=>t.room) b
 have f:z.ap.be.l=q.be.l:=aV (λt:b4=>t.gd) b
 have v: ((b0 q.s.l).length:Int)=rows:=by rw[cT];exact d
 refine⟨a.g,⟨a.wf,?_,aa,aa,aa⟩,e,f⟩;rw[a.abs];refine⟨c,?_,?_,?_⟩;show 0≤y∧y<((b0 q.s.l).length:Int)
 omega
 show 0≤x∧x≤q.cols
 omega
 show (0 :Int)≤0∧(0 :Int)≤((b0 q.s.l).length:Int) - 1∧((b0 q.s.l).length:Int) - 1<((b0 q.s.l).length:Int)
 omega
theorem Dm {s:bl} {q:bq} {cols:Nat} {j:cO.e5} {y x:Int} (a:cU q.r) (b:q.cols=(cols:Int)) (c:cO.hT (cO.jj s.st.bs cols) j):dT (mn s q cols j y x):=⟨a,c,by show ((cO.jj s.st.bs cols).length:Int)=q.cols;rw[cO.qa];exact b.symm⟩
theorem KT [Inhabited bN] (w:World) (s:bl) (k:a8 w (aP s)) (d:dW s) (rows:Int) (cols:Nat) (m:1≤rows∧rows≤100) (e:2≤cols∧cols≤100):Calls prog 77 [ptr s.g,.int .i64 rows,.int .i64 (cols:Int)].toArray w
 (aO (λ_:bl=> .int .i64 0) (aP s) aP (λz=>z.g=s.g∧dW z∧z.ap.r.room=s.ap.r.room∧z.ap.be.l.length=0) w):=by
 have B:=d.ok.y
 have C:=d.ok.x
 have D:s.abs.y=s.y:=rfl
 have E:s.abs.x=s.x:=rfl
 have F:s.abs.cols=s.ap.cols:=rfl
 have G:s.abs.rows=(s.ap.s.l.length:Int):=by show ((b0 s.ap.s.l).length:Int)=_;rw[cT]
 have H:=d.small
 refine bC func77 ntmps77 k ?_;refine aJ ?_;refine ao rfl jV rfl (λb e=>j3 b s (e.has aQ)) ?_;refine aq ?_;refine aY (l0:=bD s.ap) ae rfl MW rfl (λb o=>YM b s.ap (o.bo ae) d.g.r d.ok.bE rows cols m ⟨e.1,aa⟩) (λq a=>?_);refine bI ?_;refine eq [0,1,2,3,4,6,7,9,10,11,13] 4 [[(5,false,[8]),(12,false,[14,15,16]),(17,false,[18,19]),(20,false,[])],[(12,false,[14]),(5,false,[8,15,16]),(17,false,[18,19]),(20,false,[])]] (_) mixed ab (λ_ f=>f.drew) (λ_ h=>h.ext.size) ?_;refine bB ?_;refine Ap ?_ ?_;refine ar ?_;refine bV (λ_=>True) (λ_ h=> .inr h.ext.size) (λ_ h=>aT) ?_;refine aS ?_;refine bV (λ_=>True) (λ_ h=> .inr ⟨.inr h.ext.size,cz⟩) (λ_ h=>aT) ?_;refine al ?_;refine bV (λ_=>True) (λ_ h=> .inr ⟨.inr ⟨.inr h.ext.size,cz⟩,cz⟩) (λ_ h=>aT) ?_;refine ax ?_;refine bV (λ_=>True) (λ_ h=> .inr ⟨.inr ⟨.inr ⟨.inr h.ext.size,cz⟩,cz⟩,cz⟩) (λ_ h=>aT) ?_;refine aR ?_;refine aY (l0:=[s.st.aG]) ae rfl wQ rfl (λb o=>(cO.p0 b s.st.g s.st.bs s.st.i d.g.st (o.has eX) (tI k) cols ⟨e.1,aa⟩).mono (λ_ _ h=>h.fo)) (λj n=>?_);refine ah ?_;refine cL (H':=af w (aA (aP s)) (aP (mn s q cols j (min s.y (rows - 1)) (min s.x (cols:Int))))) ?_ (Sub.refl _) (λu p=>by have t:=a.g;simp only[aP,bl.an,eT,mn,t,sZ.aG,cO.qa];exact p.aw ae);refine aq ?_;refine aY (l0:=aP (mn s q cols j (min s.y (rows - 1)) (min s.x (cols:Int)))) ae rfl zM rfl (λb o=>vd b _ (o.bo ae) (Dm a.r a.wd n) a.P) (λz v=>?_);refine aJ ?_;intro A f;have c:=Dl a.P a.high a.wd m e ⟨aa,aa⟩ ⟨aa,aa⟩ (by rw[a.room];omega) v
 exact aN z ⟨c.1,c.2.1,c.2.2.1.trans a.room,by rw[c.2.2.2,a.be];rfl⟩ f;refine ar ?_;refine bV (λ_=>True) (λ_ h=> .inr h.ext.size) (λ_ h=>aT) ?_;refine aS ?_;refine bV (λ_=>True) (λ_ h=> .inr ⟨.inr h.ext.size,cz⟩) (λ_ h=>aT) ?_;refine al ?_;refine bV (λ_=>True) (λ_ h=> .inr ⟨.inr ⟨.inr h.ext.size,cz⟩,cz⟩) (λ_ h=>aT) ?_;refine ax ?_;refine bV (λ_=>True) (λ_ h=> .inr ⟨.inr ⟨.inr ⟨.inr h.ext.size,cz⟩,cz⟩,cz⟩) (λ_ h=>aT) ?_;refine aR ?_;refine aY (l0:=[s.st.aG]) ae rfl wQ rfl (λb o=>(cO.p0 b s.st.g s.st.bs s.st.i d.g.st (o.has eX) (tI k) cols ⟨e.1,aa⟩).mono (λ_ _ h=>h.fo)) (λj n=>?_);refine ah ?_;refine cL (H':=af w (aA (aP s)) (aP (mn s q cols j (min s.y (rows - 1)) (min s.x (cols:Int))))) ?_ (Sub.refl _) (λu p=>by have t:=a.g;simp only[aP,bl.an,eT,mn,t,sZ.aG,cO.qa];exact p.aw ae);refine aq ?_;refine aY (l0:=aP (mn s q cols j (min s.y (rows - 1)) (min s.x (cols:Int)))) ae rfl zM rfl (λb o=>vd b _ (o.bo ae) (Dm a.r a.wd n) a.P) (λz v=>?_);refine aJ ?_;intro A f;have c:=Dl a.P a.high a.wd m e ⟨aa,aa⟩ ⟨aa,aa⟩ (by rw[a.room];omega) v
 exact aN z ⟨c.1,c.2.1,c.2.2.1.trans a.room,by rw[c.2.2.2,a.be];rfl⟩ f
theorem KU (w:World) (s:bl) (c:a8 w (aP s)) (rows cols:Int) (d: ¬((1≤rows∧rows≤1000)∧2≤cols∧cols≤1000)) (v:Value):Calls prog 76 [ptr s.g,.int .i64 rows,.int .i64 cols,v].toArray w
 (aO (λ_:Unit=> .tuple #[.slice none 0 0,.int .i64 1]) (aP s) (λ_=>aP s) (λ_=>True) w):=by
 refine bC func76 ntmps76 c ?_;refine aJ ?_;refine ao rfl jV rfl (λa b=>j3 a s (b.has aQ)) ?_;refine ah ?_;refine ao rfl ja rfl (λa b=>jp a s (b.has aQ)) ?_;refine j9 (t:=51) (off:=0) ab dN rfl rfl rfl ?_;refine ar ?_;refine cE (λa o=>YB a s.ap o rows cols d ⟨s.y,s.x⟩ v) (λq _=>?_);refine ax ?_;intro f h i;refine oD ?_;intro j e;exact aN () aT e
theorem KV [Inhabited bN] (w:World) (s:bl) (E:a8 w (aP s)) (f:dW s) (rows:Int) (cols:Nat) (G:1≤rows∧rows≤100) (b:2≤cols∧cols≤40) (F:Nat→Prop) (v:Option Addr) (m d:Nat) (l:List bh) (ai:Rd bW w F v m d l) (H: ∀k,F k→k∉aA (aP s)) (K:m≤100000):
 Calls prog 76 [ptr s.g,.int .i64 rows,.int .i64 (cols:Int),.slice v m d].toArray w
 (aO (λi:dl × bl=> .tuple #[wl i.1,.int .i64 0]) (aP s) (λi=>aP i.2++[i.1.au]) (λi=>i.2.g=s.g∧dW i.2∧i.2.ap.r.room=s.ap.r.room∧i.2.ap.be.l.length≤1∧i.1.l.length=m+1) w):=by
 have W:=f.ok.y
 have X:=f.ok.x
 have Y:s.abs.y=s.y:=rfl
 have Z:s.abs.x=s.x:=rfl
 have Za:s.abs.cols=s.ap.cols:=rfl
 have Zb:s.abs.rows=(s.ap.s.l.length:Int):=by show ((b0 s.ap.s.l).length:Int)=_;rw[cT]
 have L:=f.small
 have M: ∀k,k∈aA (bD s.ap)→k∈aA (aP s):=λk n=>by
  obtain⟨c,b,N⟩:=e3.1 n;exact e3.2 ⟨c,by simp only[eZ,List.not_mem_nil,or_false] at b ⊢;rcases b with h | h | h | h | h <;> simp[h],N⟩
 refine bC func76 ntmps76 E ?_;refine aJ ?_;refine ao rfl jV rfl (λe b=>j3 e s (b.has aQ)) ?_;refine ah ?_;refine ao rfl ja rfl (λe b=>jp e s (b.has aQ)) ?_;refine j9 (t:=51) (off:=0) ab dN rfl rfl rfl ?_;refine ar ?_;refine aY (l0:=bD s.ap) ae rfl MV rfl (λe o=>YG e s.ap (o.bo ae) f.g.r f.ok.bE L rows cols G b ⟨s.y,s.x⟩ bm (λk=>F k∧k<w.heap.size) v m d l ((ai.hI aZ).ext o.ext (λk n=>H k n.1)) (λk n O=>H k n.1 (M k O)) K) (λ⟨⟨A,B⟩,C,q⟩ Q=>?_);refine ax ?_;intro R Zc Zd;refine dx ?_;refine eq [0,1,2,3,4,5,6,7] 2 [[(8,false,[9,10]),(11,false,[])]] (_) mixed ab (λ_ D=>D.drew) (λ_ h=>(show af _ _ [aE R _ 51] _ from h.aw ae)) ?_;refine bp ?_;refine bV (λ_=>True) (λ_ h=> .inr (h.aw ae)) (λ_ h=>aT) ?_;refine ax ?_;refine bV (λ_=>True) (λ_ h=> .inr ⟨.inr (h.aw ae),cz⟩) (λ_ h=>aT) ?_;refine aR ?_;refine aY (l0:=[s.st.aG]) ae rfl wQ rfl (λe o=>(cO.p0 e s.st.g s.st.bs s.st.i f.g.st (o.has Pf) (tI E) cols ⟨b.1,aa⟩).mono (λ_ _ h=>h.fo)) (λj S=>?_);refine ah ?_;have a:Dj s.ap rows (cols:Int) m (⟨A,B⟩,C,q):=Q
 have I:=a.y
 have J:=a.x
 dsimp only at I J
 refine cL (H':=af w (aA (aP s)) (aP (mn s q cols j A B)++[C.au])) ?_ (Sub.refl _) (λu T=>by have U:q.g=s.ap.g:=a.g;simp only[aP,bl.an,eT,mn,U,sZ.aG,cO.qa];exact T.aw ae);refine aq ?_;refine aY (l0:=aP (mn s q cols j A B)) ae rfl zM rfl (λe o=>vd e _ (o.bo ae) (Dm a.r a.wd S) a.P) (λz V=>?_);refine bp ?_;intro Ze D;have p:=Dl a.P a.high a.wd G ⟨b.1,aa⟩ I J (by rw[show q.r.room=s.ap.r.room from a.room];omega) V
 exact aN (C,z) ⟨p.1,p.2.1,p.2.2.1.trans a.room,by rw[p.2.2.2];exact a.be,a.pl⟩ D
theorem YN [Inhabited bN] (w:World) (g par:Nat) (X:Chunk) (T:bK) (d:a8 w (bz g par X T)) (rows cols:Int) (f: ¬((1≤rows∧rows≤1000)∧2≤cols∧cols≤1000)) (v:Value):Calls prog 39 [ptr g,.int .i64 rows,.int .i64 cols,v].toArray w
 (aO (λ_:Unit=> .tuple #[.slice none 0 0,.int .i64 1]) (bz g par X T) (λ_=>bz g par X T) (λ_=>True) w):=by
 obtain⟨am,bk,use,ca,cl,bL,buf,aG⟩:=T;cases use
 refine bC func39 ntmps39 d ?_;refine aJ ?_;refine ao rfl oy rfl (λa b=>o8 a g par _ (b.has aQ)) ?_;refine ah ?_;refine cE (λa o=>Calls.mono (KU a am o.jv rows cols f v) (λe w' h=>aO.star h)) (λ_ _=>?_);refine sE ?_;intro i c;exact aN () aT c;refine bC func39 ntmps39 d ?_;refine aJ ?_;refine ao rfl oy rfl (λa b=>o8 a g par _ (b.has aQ)) ?_;refine ah ?_;refine cE (λa o=>Calls.mono (KU a bk o.jv rows cols f v) (λe w' h=>aO.star h)) (λ_ _=>?_);refine sE ?_;intro i c;exact aN () aT c
theorem af.y5 {b w:World} {S:List Nat} {cs l:List Chunk} {c:Chunk} (h:af b S (aU (l++[c])::cs) w):af b S (aU l::c::cs) w:=by
 have a:=h.y3
 exact ((a.perm (List.Perm.swap _ _ _)).lb).perm (List.Perm.swap _ _ _)
theorem YO [Inhabited bN] (w:World) (g par:Nat) (X:Chunk) (T:bK) (I:a8 w (bz g par X T)) {R:Int} {m:Nat} (b:cp g R m T) (rows:Int) (cols:Nat) (A:1≤rows∧rows≤100) (f:2≤cols∧cols≤40) (F:Nat→Prop) (B:Option Addr) (n d:Nat) (l:List bh) (ai:Rd bW w F B n d l) (C: ∀k,F k→k∉aA (bz g par X T)) (J:n≤100000):
 Calls prog 39 [ptr g,.int .i64 rows,.int .i64 (cols:Int),.slice B n d].toArray w
 (aO (λi:dl × bK=> .tuple #[wl i.1,.int .i64 0]) (bz g par X T) (λi=>i.1.au::bz g par X i.2) (λi=>cp g R (m+1) i.2∧i.1.l.length=n+1) w):=by
 obtain⟨am,bk,use,ca,cl,bL,buf,aG⟩:=T;have K:=b.buf
 dsimp only at K
 cases use
 have D: ∀k,k∈aA (aP am)→k∈aA (bz g par X ⟨am,bk,false,ca,cl,bL,buf,aG⟩):=λk j=>e3.2 ⟨aU (aP am),by simp,j⟩
 refine bC func39 ntmps39 I ?_;refine aJ ?_;refine ao rfl oy rfl (λp f=>o8 p g par _ (f.has aQ)) ?_;refine ah ?_;refine aY (l0:=[aU (aP am)]) (v:=λi:dl × bl=> .tuple #[wl i.1,.int .i64 0]) (l':=λi=>[aU (aP i.2++[i.1.au])]) (ok:=λi=>i.2.g=am.g∧dW i.2∧i.2.ap.r.room=am.ap.r.room∧i.2.ap.be.l.length≤1∧i.1.l.length=n+1) ae rfl El rfl (λp o=>Calls.mono (KV p am (o.bo ae).jv b.am rows cols A f (λk=>F k∧k<w.heap.size) B n d l ((ai.hI aZ).ext o.ext (λk j=>C k j.1)) (λk j E=>C k j.1 (D k E)) J) (λe w' h=>aO.star h)) (λ⟨q,z⟩ s=>?_);refine e4 ?_;refine cL (H':=af w (aA (bz g par X ⟨am,bk,false,ca,cl,bL,buf,aG⟩)) (q.au::bz g par X ⟨z,bk,false,ca,cl,bL,buf,aG⟩)) ?_ (Sub.refl _) (λx t=>by have u:z.g=am.g:=s.1;have G:=t.y5;simp only[bz,eE,o7,bK.cc,bK.dS,u];exact G.aw ae);refine aS ?_;refine dt (q:=1) underlying75 pG rfl rfl rfl bb aa ?_;refine ah ?_;refine aY (l0:=[aU (aP bk)]) (v:=λ_:bl=> .int .i64 0) (l':=λi=>[aU (aP i)]) (ok:=λi=>i.g=bk.g∧dW i∧i.ap.r.room=bk.ap.r.room∧i.ap.be.l.length=0) ae rfl Em rfl (λp o=>Calls.mono (KT p bk (o.bo ae).jv b.bk rows cols A ⟨f.1,aa⟩) (λe w' h=>aO.star h)) (λa y=>?_);refine ah ?_;refine cL (H':=af w (aA (bz g par X ⟨am,bk,false,ca,cl,bL,buf,aG⟩)) (q.au::bz g par X ⟨z,a,false,ca,cl,bL,buf,aG⟩)) ?_ (Sub.refl _) (λx t=>by have u:a.g=bk.g:=y.1;simp only[bz,eE,o7,bK.cc,bK.dS,u];exact t.aw ae);refine dx ?_;intro L H;exact aO.bQ (q,⟨z,a,false,ca,cl,bL,buf,⟨none,0,[]⟩⟩) ⟨⟨s.2.1,y.2.1,s.2.2.1.trans b.room,b.bL,b.cl,by have M:z.ap.be.l.length≤1:=s.2.2.2.1;have N:=y.2.2.2;show z.ap.be.l.length+a.ap.be.l.length+0≤m+1;omega,by dsimp only;omega,λc f=>(by cases f),b.md⟩,s.2.2.2.2⟩ rfl ((H.eO 169 lv).aw ae);have D: ∀k,k∈aA (aP bk)→k∈aA (bz g par X ⟨am,bk,true,ca,cl,bL,buf,aG⟩):=λk j=>e3.2 ⟨aU (aP bk),by simp,j⟩
 refine bC func39 ntmps39 I ?_;refine aJ ?_;refine ao rfl oy rfl (λp f=>o8 p g par _ (f.has aQ)) ?_;refine ah ?_;refine aY (l0:=[aU (aP bk)]) (v:=λi:dl × bl=> .tuple #[wl i.1,.int .i64 0]) (l':=λi=>[aU (aP i.2++[i.1.au])]) (ok:=λi=>i.2.g=bk.g∧dW i.2∧i.2.ap.r.room=bk.ap.r.room∧i.2.ap.be.l.length≤1∧i.1.l.length=n+1) ae rfl El rfl (λp o=>Calls.mono (KV p bk (o.bo ae).jv b.bk rows cols A f (λk=>F k∧k<w.heap.size) B n d l ((ai.hI aZ).ext o.ext (λk j=>C k j.1)) (λk j E=>C k j.1 (D k E)) J) (λe w' h=>aO.star h)) (λ⟨q,z⟩ s=>?_);refine e4 ?_;refine cL (H':=af w (aA (bz g par X ⟨am,bk,true,ca,cl,bL,buf,aG⟩)) (q.au::bz g par X ⟨am,z,true,ca,cl,bL,buf,aG⟩)) ?_ (Sub.refl _) (λx t=>by have u:z.g=bk.g:=s.1;have G:=t.y5;simp only[bz,eE,o7,bK.cc,bK.dS,u];exact G.aw ae);refine aS ?_;refine dt (q:=1) underlying75 pG rfl rfl rfl bb aa ?_;refine ah ?_;refine aY (l0:=[aU (aP am)]) (v:=λ_:bl=> .int .i64 0) (l':=λi=>[aU (aP i)]) (ok:=λi=>i.g=am.g∧dW i∧i.ap.r.room=am.ap.r.room∧i.ap.be.l.length=0) ae rfl Em rfl (λp o=>Calls.mono (KT p am (o.bo ae).jv b.am rows cols A ⟨f.1,aa⟩) (λe w' h=>aO.star h)) (λa y=>?_);refine ah ?_;refine cL (H':=af w (aA (bz g par X ⟨am,bk,true,ca,cl,bL,buf,aG⟩)) (q.au::bz g par X ⟨a,z,true,ca,cl,bL,buf,aG⟩)) ?_ (Sub.refl _) (λx t=>by have u:a.g=am.g:=y.1;simp only[bz,eE,o7,bK.cc,bK.dS,u];exact t.aw ae);refine dx ?_;intro L H;exact aO.bQ (q,⟨a,z,true,ca,cl,bL,buf,⟨none,0,[]⟩⟩) ⟨⟨y.2.1,s.2.1,s.2.2.1.trans b.room,b.bL,b.cl,by have M:z.ap.be.l.length≤1:=s.2.2.2.1;have N:=y.2.2.2;show a.ap.be.l.length+z.ap.be.l.length+0≤m+1;omega,by dsimp only;omega,λc f=>(by cases f),b.md⟩,s.2.2.2.2⟩ rfl ((H.eO 169 lv).aw ae)
end Go.Proofs.YtoghoobfpcadbaaGreatDoor.Mq
