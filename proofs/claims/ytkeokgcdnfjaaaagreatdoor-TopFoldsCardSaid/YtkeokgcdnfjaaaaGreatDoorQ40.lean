/- part 40 of the proof -/
import Derived.Test.YtkeokgcdnfjaaaaGreatDoorQ39
namespace Go.Proofs.YtkeokgcdnfjaaaaGreatDoor.Mq
open Go Go.RowKit Go.Proofs Tryz
theorem X8 (w:World) (p:bq) (b:bb w (bB p)) (rows cols:Int) (e: ¬((1≤rows∧rows≤1000)∧2≤cols∧cols≤1000)) (a:bl) (v:Value):Calls prog 127 [ptr p.g,.int .i64 rows,.int .i64 cols,d9 a,v].toArray w
 (aP (λi:eb=> .tuple #[d9 ⟨0,0⟩,.slice none 0 0,.int .i64 1]) (bB p) (λi=>bB p) (λ_=>True) w):=by
 obtain⟨f,h⟩:=a;refine bI func127 ntmps127 b ?_;refine ah ?_;intro j k l;refine aq ?_;intro m n o;refine cE ?_;refine ao rfl wH rfl (λc q=>x4 c rows cols) ?_;refine ay ?_;refine ev rfl (by simp;omega) ?_;refine aR ?_;refine m7 results127 (cx.eR em rfl aQ rfl rfl) (cx.tmp rfl) (cx.tmp rfl) (λr d=>?_);exact aN (⟨none,0,[]⟩ :eb) aU d
theorem KG {p:bq} (h:cZ p.abs): (∀x∈p.r.rows,x.1.length≤1000000)∧ ∀x∈bW p.s.l,x.1.length≤1000000:=by
 have:=h.cols
 exact⟨λx a=>by have:=(h.nv x a).1;omega,λx a=>by have:=(h.wide x a).1;omega⟩
theorem X9 {p:bq} (h:cZ p.abs) {b:Nat} (e:p.cols=(b:Int)) {l:List bR} (c:bW l=p.r.rows++bW p.s.l):kf b l:=λg d=>by
 have hm:g.fk∈p.r.rows++bW p.s.l:=c▸dF.2 ⟨g,d,rfl⟩
 have f:p.abs.cols=p.cols:=rfl
 rcases cX.1 hm with hm | hm
 have a:=h.nv _ hm
 exact⟨by have: ((g.cells.length:Nat):Int)=p.abs.cols:=a.1;omega,a.2⟩;have a:=h.wide _ hm
 exact⟨by have: ((g.cells.length:Nat):Int)=p.abs.cols:=a.1;omega,a.2⟩
theorem X_ {α:Type} (l:List α) {lo hi:Nat} (h:lo≤hi):l.take lo++((l.take hi).drop lo++l.drop hi)=l:=by
 conv=>rhs;rw[←iT hi l,←iT lo (l.take hi)]
 rw[List.take_take,iv h,e0]
theorem KH {l:List bR} {n:Nat} {x:bQ} (h:x∈bW (l.take n)):x∈bW l:=by
 obtain⟨g,a,rfl⟩:=dF.1 h;exact dF.2 ⟨g,iu a,rfl⟩
theorem af.yW {b w:World} {S:List Nat} {cs cs' d l l2:List Chunk} (h:af b S cs w) (e:aA cs l cs') (f:aA cs' l2 d) {k:Nat} (g:k∈aB l):k∉aB l2:=λi=>by
 have a:=(h.perm e.perm).nodup
 rw[ix,fK] at a
 obtain⟨c,j,m⟩:=e4.1 i;exact a.2.2 k g k (e4.2 ⟨c,f.perm.mem_iff.2 (n7 _ j),m⟩) rfl
theorem Ya {p v:bq} {a b c:Int} (h:v.abs=fC p.abs a b c):v.abs= { p.abs with f_:=v.be.l }:=by
 have d:v.be.l=(fC p.abs a b c).f_:=aX (λq:bZ=>q.f_) h
 rw[h,d];rfl
theorem Yb {p u:bq} {rows:Int} {cols m lo hi:Nat} {a:bl} {q:eb} {R:dh} {y:db} {c:List bR} (w:u.g=p.g) (z:cV u.r) (d:u.abs= { (⟨p.g,R,y,(cols:Int),⟨none,0,[]⟩⟩ :bq).abs with f_:=u.be.l }) (A:u.be.l.length≤1) (h:cV R) (B:R.room=p.r.room) (C: ∀x∈R.rows,x∈bW c) (i:kf cols c)
 (j:bW y.l=bW ((c.take hi).drop lo)++List.replicate (rows.toNat - ((c.take hi).drop lo).length) (nJ (cols:Int))) (H: (((c.take hi).drop lo).length:Int)≤rows) (I:1≤rows∧rows≤100) (J:2≤cols∧cols≤40) (D:0≤a.row∧a.row<rows) (E:0≤a.dm∧a.dm≤(cols:Int)) (F:q.l.length=m+1):C7 p rows (cols:Int) m (a,q,u):=by
 have k:u.abs.cF=bW y.l:=by rw[d];rfl
 have o:u.abs.jA=R.rows:=by rw[d];rfl
 have t:u.abs.room=R.room:=by rw[d];rfl
 have e:u.abs.cols=(cols:Int):=by rw[d];rfl
 have G:=KF (cols:=(cols:Int)) aa
 have v: ∀x∈bW c,((x.1.length:Nat):Int)=(cols:Int)∧gE x.1:=λx b=>by
  obtain⟨g,f,rfl⟩:=dF.1 b;exact⟨by show ((g.cells.length:Nat):Int)=_;rw[(i g f).1],(i g f).2⟩
 have K: (u.abs.cF.length:Int)=rows:=by
  rw[k,j,b0,cN,g_];omega
 have L:=h.n
 have M:=h.len
 have N:=h.room
 refine⟨w,z,by show u.abs.room=_;rw[t,B],⟨by rw[e];omega,(show 1≤u.abs.cF.length∧u.abs.cF.length≤1000 by omega),λx b=>?_,λx b=>?_,?_⟩,?_,e,A,D,E,F⟩;rw[k,j] at b
 rw[e];rcases cX.1 b with b | b
 obtain⟨g,f,rfl⟩:=dF.1 b;exact v _ (dF.2 ⟨g,iu (lC f),rfl⟩);rw[(ua.1 b).2];exact G
 rw[o] at b
 rw[e];exact v x (C x b);rw[o,t,lb];omega
 have:u.abs.cF.length=u.s.l.length:=by simp[bq.abs]
 dsimp only;omega
structure C8 where
 z:db
 q:eb
set_option maxHeartbeats 2000000 in
theorem Yc (w:World) (p:bq) (ZA:bb w (bB p)) (Y:cV p.r) (T:cZ p.abs) (Z9:p.s.l.length≤100∧p.cols≤100∧p.r.room≤100) (rows:Int) (cols:Nat) (Ze:1≤rows∧rows≤100) (Zf:2≤cols∧cols≤40) (a:bl) (ZB: (0≤a.row∧a.row≤1000)∧0≤a.dm∧a.dm≤1000) (F:Nat→Prop) (Zn:Option Addr) (m d:Nat) (l:List bl) (ai:Rd cq w F Zn m d l) (ZC: ∀k,F k→k∉aB (bB p)) (Zaa:m≤100000):
 Calls prog 127 [ptr p.g,.int .i64 rows,.int .i64 (cols:Int),d9 a,.slice Zn m d].toArray w
 (aP (λi:bl × eb × bq=> .tuple #[d9 i.1,v7 i.2.1,.int .i64 0]) (bB p) (λi=>bB i.2.2++[i.2.1.au]) (C7 p rows (cols:Int) m) w):=by
 obtain⟨Zo,Zp⟩:=a;have ZD:=ai.len
 have Zab:=Y.n
 have Zac:=Y.len
 have Zad:=T.cols
 have Zae:=T.rows
 have Zaf:p.abs.cols=p.cols:=rfl
 have Zag:p.abs.cF.length=p.s.l.length:=by simp[bq.abs]
 dsimp only at ZB
 refine bI func127 ntmps127 ZA ?_;refine ah ?_;intro I Zah Zai;refine aq ?_;intro J Zaj Zak;refine cE ?_;refine ao rfl wH rfl (λo f=>x4 o rows (cols:Int)) ?_;refine ay ?_;refine fL rfl (by simp;omega) ?_;refine ah ?_;refine bG [0,2,3,4] 3 [[(1,false,[]),(5,false,[6,7,8,9,10]),(11,true,[])]] ?_;refine al ?_;refine ao rfl ou rfl (λo f=>oF o p (f.has cp) ((f.has hD: (aT (b9 p.r)).pred o) p.r.an av)) ?_;refine ah ?_;refine ao rfl pA rfl (λo f=>pU o p (f.has cp)) ?_;refine b5 ?_;refine bG [0,1,2,3,4,5,6,7,8] 1 [[(9,true,[])]] ?_;refine eG ?_;refine aZ (l0:=bB p) ae rfl zt rfl (λo f=>BK o p (f.bp ae) Y (KG T).1 (KG T).2 aa) (λz Zq=>?_);refine al ?_;refine dx (E:=cq) ⟨_,_⟩ dQ rfl rfl rfl rfl rfl (λZal Zam Zan=>?_);refine aq ?_;refine pX (E:=cq) (src:=l) (F:=F) (m:=1) (xs:=cq.all [(⟨p.r.n+max 0 (min Zo ((p.s.l.length:Int) - 1)),max 0 (min Zp p.cols)⟩ :bl)]) (m+1) aa dQ rfl rfl rfl (λ_=>by exact cz) (λw' U=>ai.ext U.ext ZC) (by simp only[maxLen];omega) aa (λZ Za=>?_);refine b5 ?_;obtain⟨Q,ZE⟩ : ∃R:Int,R=p.r.n+max 0 (min Zo ((p.s.l.length:Int) - 1)):=⟨_,rfl⟩;obtain⟨S,ZF⟩ : ∃C:Int,C=max 0 (min Zp p.cols):=⟨_,rfl⟩;have Zao: (z.l.length:Int)=p.r.n+(p.s.l.length:Int):=by
  have:=aX List.length Zq
  rw[cN,b0,lb,cN] at this
  omega
 obtain⟨Zr,ZG⟩ : ∃n:Nat,p.cols=(n:Int):=⟨p.cols.toNat,aa⟩;have Zg:=X9 T ZG Zq
 have Zap:d4 (bW z.l)≤20000:=by
  rw[C6 Zg];exact fp (Nat.mul_le_mul (show z.l.length≤200 by omega) (show Zr≤100 by omega)) a1
 subst ZD;have ZH: (d4 (bW z.l)+1)*cols≤1000000:=fp (Nat.mul_le_mul (show _≤20001 by omega) Zf.2) a1
 have ZI: ∀r∈bW z.l,gE r.1:=λr Ze=>by
  obtain⟨g,Zh,rfl⟩:=dF.1 Ze;exact (Zg g Zh).2
 refine cG (H':=af w (aB (bB p)) (bB p++[z.au,z.cc,eb.au ⟨Z,Za,⟨Q,S⟩::l⟩,aD J [.int .i64 0,.int .i64 0] 40,aD I [.int .i64 Q,.int .i64 S] 40])) ?_ (Sub.refl _) (λx H=>by subst ZE ZF;exact H.aw ae);refine hC (λi:C8=>[(0,ptr p.g),(1,.int .i64 rows),(2,.int .i64 (cols:Int)),(8,ptr I),(10,ptr J),(13,i.z.val),(14,i.q.val)]) (λi=>af w (aB (bB p)) (bB p++[i.z.au,i.z.cc,i.q.au,aD J [.int .i64 0,.int .i64 0] 40,aD I [.int .i64 Q,.int .i64 S] 40])) (λi=>kf cols i.z.l∧i.z.l.length≤200000000∧i.q.l.length=l.length+1∧Good i.q.l i.z.l.length) ?_ ?_
 ·refine aj (λZJ=>?_) (λZJ=>?_)
  ·skip
   refine aS ?_;refine aZ (l0:=[]) aA.nil rfl M9 rfl (λo f=>X3 o _ _ z.A Z z.l.length z.c (l.length+1) Za (bW z.l) (⟨Q,S⟩::l) cols (sC (f.has (c:=z.au) kp) (f.has (c:=z.cc) eY)) (gT (E:=cq) (L:=⟨Q,S⟩::l) (A:=Z) (c:=Za) (e:=40) (f.has w1)) aa aa aa Zf.1 aa ZH ZI) (λt O=>?_);refine al ?_;exact dr (⟨t.1,t.2⟩ :C8) ⟨O.1,O.2.1,O.2.2.1,O.2.2.2 _ rfl bm bm⟩ (hE rfl rfl rfl rfl rfl rfl rfl) (λ_ h=>h.aw ae)
  ·skip
   refine aq ?_;exact dr (⟨z,⟨Z,Za,⟨Q,S⟩::l⟩⟩ :C8) ⟨by rw[show cols=Zr by omega];exact Zg,by dsimp only;omega,rfl,⟨_,rfl,by dsimp only;omega,by dsimp only;omega,by dsimp only;omega⟩⟩ (hE rfl rfl rfl rfl rfl rfl rfl) (λ_ h=>h)
 rintro⟨⟨K,M,b⟩,⟨B,D,G⟩⟩ ⟨Zi,ZK,ZL,⟨N,c0⟩,Zs,ZM,Zt,ZN⟩;dsimp only at Zi ZK ZL Zs ZM Zt ZN ⊢
 have Zu: ∀x∈bW b,x.1.length≤1000000:=λx H=>by
  obtain⟨g,Zh,rfl⟩:=dF.1 H;have:g.cells.length=cols:=(Zi g Zh).1
  show g.cells.length≤_
  omega
 refine aS ?_;refine iX (e:=157) (sz:=2) (v:= .slice K b.length M) kp (λdE c9 Zj ZO Zaq _ _=>?_);cases Zj
 dsimp only at ZO
 refine iL (E:=cq) (e:=40) (L:=G) (A:=B) (c:=D) (q:=0) w1 dQ rfl rfl rfl rfl aa (λZar ZP=>?_);refine cw (vs:=[.int .i64 N,.int .i64 c0]) em rfl rfl rfl (λZQ V j u Zk=>V.gx (E:=cq) (e:=40) (L:=G) (A:=B) (c:=D) w1 ZP Zs j u Zk) ?_;refine aK ?_;refine aZ (l0:=[]) aA.nil rfl M_ rfl (λo f=>X4 o _ K b.length M (bW b) (sC (r:=⟨K,M,b⟩) (f.has kp) (f.has eY)) aa Zu N aa) (λk Zb=>?_);refine ef ?_;obtain⟨lo,ZR⟩ : ∃lo:Nat,max 0 (min ((k:Int) - rows) N)=(lo:Int):=⟨(max 0 (min ((k:Int) - rows) N)).toNat,aa⟩;obtain⟨hi,ZS⟩ : ∃hi:Nat,min (k:Int) ((lo:Int)+rows)=(hi:Int):=⟨(min (k:Int) ((lo:Int)+rows)).toNat,aa⟩;have Zas:=Zb.1
 have Zat:=Zb.2 Zt
 have ZT:lo≤hi∧hi≤k:=by omega
 rw[ZR];refine nl ?_;refine fh lo hi dI rfl rfl (.inl ⟨_,_,rfl,rfl,rfl⟩) (.inl ⟨_,_,rfl,rfl,ZS⟩) aa aa ?_;refine pq 157 2 ?_;refine pX (E:=cf) (src:=(b.take hi).drop lo) (F:=λ_=>True) (m:=0) (xs:=[]) (hi - lo) aa dI rfl rfl rfl (λ_=>by exact cz) (λw' U=>(gT (E:=cf) (e:=157) (A:=K) (c:=M) (L:=b) (U.has eY)).cut (p:=lo) (q:=hi) aa aa) (by simp only[maxLen];omega) aa (λW X=>?_);refine al ?_;have Zv:hi - lo=((b.take hi).drop lo).length:=by rw[fz,dn];omega
 have ZU:b.map bR.aF=(b.take lo).map bR.aF++(((b.take hi).drop lo).map bR.aF++(b.drop hi).map bR.aF):=by
  rw[←gb,←gb,X_ b ZT.1]
 refine cG (H':=af w (aB (bB p)) (bB (⟨p.g,p.r,⟨W,X,((b.take hi).drop lo)⟩,(cols:Int),⟨none,0,[]⟩⟩ :bq)++[aT ((b.take lo).map bR.aF),(⟨K,M,b⟩ :db).au,(⟨B,D,G⟩ :eb).au,aD J [.int .i64 0,.int .i64 0] 40,aD I [.int .i64 N,.int .i64 c0] 40])) ?_ (Sub.refl _) (λx H=>by
  rw[Zv] at H
  have Zw:=H.aw (l:=[aT (b.map bR.aF),(⟨p.g,p.r,⟨W,X,((b.take hi).drop lo)⟩,(cols:Int),⟨none,0,[]⟩⟩ :bq).an,aT (b9 p.r),db.au ⟨W,X,((b.take hi).drop lo)⟩,(⟨K,M,b⟩ :db).au,(⟨B,D,G⟩ :eb).au,aD J [.int .i64 0,.int .i64 0] 40,aD I [.int .i64 N,.int .i64 c0] 40]) ae
  rw[ZU] at Zw
  exact (((Zw.yV.perm (List.Perm.swap _ _ _)).yV).eO 179 jQ).aw ae)
 refine ah ?_;refine aZ (l0:=bB (⟨p.g,p.r,⟨W,X,((b.take hi).drop lo)⟩,(cols:Int),⟨none,0,[]⟩⟩ :bq)) ae rfl zF rfl (λo f=>BJ o (⟨p.g,p.r,⟨W,X,((b.take hi).drop lo)⟩,(cols:Int),⟨none,0,[]⟩⟩ :bq) (f.bp ae) rows aa bm) (λy ZV=>?_);refine aS ?_;refine bG [0,1,2,3,4,5,6] 1 [[(7,true,[8])]] ?_;refine al ?_;refine aL rfl (λZau Zav=>(fh 0 lo dI rfl rfl (.inr ⟨rfl,rfl⟩) (.inl ⟨_,_,rfl,rfl,rfl⟩) aa aa aG)) ?_;refine ar ?_;rw[vD,kh,kh];refine kB (l0:=b9 p.r) (cs1:=λ_=>_) (λ_=>eo) rfl Na rfl (λo f=>X6 o p.r (f.kA bF) Y _ K lo M (bW (b.take lo)) (X7 (r:=(⟨K,M,b⟩ :db)) (lo:=lo) (f.has eY) bm (f.has kp)) (λk Zb=>by have V:=f.yW (l:=[(⟨K,M,b⟩ :db).au,aT ((b.take lo).map bR.aF)]) (l2:=[aT (b9 p.r)]) ae ae Zb;rwa [show aB [aT (b9 p.r)]=aB (b9 p.r) by simp[aB,aT]] at V) aa (λx H=>Zu x (KH H))) (λt O=>?_);refine al ?_;refine cG (H':=af w (aB (bB p)) (bB (⟨p.g,t.2,y,(cols:Int),⟨none,0,[]⟩⟩ :bq)++[aT ((b.take lo).map bR.aF),(⟨K,M,b⟩ :db).au,(⟨B,D,G⟩ :eb).au,aD J [.int .i64 0,.int .i64 0] 40,aD I [.int .i64 N,.int .i64 c0] 40])) ?_ (Sub.refl _) (λx H=>by have e:=O.1;simp only[bB,bq.an,nq,e];exact H.aw ae);refine ay ?_;have Zl:cV t.2:=O.2.2.1
 have ZW:bW y.l=bW ((b.take hi).drop lo)++List.replicate (rows.toNat - ((b.take hi).drop lo).length) (nJ (cols:Int)):=ZV
 refine hC (λ_:bq=>[(0,ptr p.g),(1,.int .i64 rows),(2,.int .i64 (cols:Int)),(8,ptr I),(10,ptr J),(14,(⟨B,D,G⟩ :eb).val),(15,.int .i64 (lo:Int))]) (λu=>af w (aB (bB p)) (bB u++[(⟨B,D,G⟩ :eb).au,aD J [.int .i64 0,.int .i64 0] 40,aD I [.int .i64 N,.int .i64 c0] 40])) (λu=>u.g=p.g∧cV u.r∧u.abs= { (⟨p.g,t.2,y,(cols:Int),⟨none,0,[]⟩⟩ :bq).abs with f_:=u.be.l }∧u.be.l.length≤1) ?_ ?_
 ·refine aj (λaH=>?_) (λaH=>?_)
  ·skip
   refine ah ?_;refine aZ (l0:=bB (⟨p.g,t.2,y,(cols:Int),⟨none,0,[]⟩⟩ :bq)) ae rfl pC rfl (λo f=>pW o (⟨p.g,t.2,y,(cols:Int),⟨none,0,[]⟩⟩ :bq) (f.bp ae) Zl av 2 0 _) (λv Zc=>?_);refine aq ?_;exact dr v ⟨Zc.1,Zc.2.1,Ya Zc.2.2,by have:=aX (λq=>q.f_.length) Zc.2.2;exact Nat.le_of_eq this⟩ bO (λ_ h=>h.aw ae)
  ·skip
   refine aq ?_;exact dr (⟨p.g,t.2,y,(cols:Int),⟨none,0,[]⟩⟩ :bq) ⟨rfl,Zl,rfl,bN _⟩ (hE rfl rfl rfl rfl rfl rfl rfl) (λ_ h=>h.aw ae)
 rintro u ⟨ZX,ZY,ZZ,Z0⟩;refine aS ?_;refine iX (e:=40) (sz:=2) (v:= .slice B G.length D) kp (λdE c9 Zj Z1 Zaw _ Zx=>?_);cases Zj
 dsimp only at Z1 Zx
 refine fh 1 G.length dQ rfl rfl (.inl ⟨_,_,rfl,rfl,rfl⟩) (.inr ⟨rfl,rfl⟩) aa aa ?_;refine bw ?_;refine b3 (ι:=Nat × List bl) (λi=>[(1,.int .i64 rows),(2,.int .i64 (cols:Int)),(8,ptr I),(10,ptr J),(15,.int .i64 (lo:Int)),(17,(.slice (if D=1 then B else B.map (λx=>x.add (1*2))) (G.length - 1) (D - 1):Value)),(121,(.slice (if D=1 then B else B.map (λx=>x.add (1*2))) (G.length - 1) (D - 1):Value)),(122,.int .i64 ((G.length - 1 :Nat):Int)),(123,.int .i64 (i.1 :Int))])
  (λi=>af w (aB (bB p)) (bB u++[eb.au ⟨B,D,i.2⟩,aD J [.int .i64 0,.int .i64 0] 40,aD I [.int .i64 N,.int .i64 c0] 40])) (λi=>i.1≤G.length - 1∧i.2.length=G.length) (λi=>G.length - 1 - i.1) ?_ ?_
 ·exact λw' U=>⟨(0,G),⟨bN _,rfl⟩,(su rfl rfl rfl rfl rfl rfl rfl rfl rfl),U⟩
 ·rintro⟨i,P⟩ ⟨Z2,Zd⟩
  dsimp only at Z2 Zd ⊢
  refine al ?_;refine aj (λZ3=>?_) (λZ3=>?_)
  ·obtain⟨Zy,Zm⟩:=Zx aa
   have Zz: (if D=1 then B else B.map (λx=>x.add (1*2)))=some ((⟨Zy,0,none⟩ :Addr).add (1*2)):=by rw[ag aa,Zm];rfl
   obtain⟨⟨Z4,Z5⟩,Z6⟩ : ∃x,P[i+1]? = some x:=⟨_,bE aa⟩;refine aC ?_;refine bD (q:=i) dQ rfl rfl rfl Zz rfl aa ?_;rw[KE];refine cw (vs:=[.int .i64 Z4,.int .i64 Z5]) em rfl rfl rfl (λZQ V j u Zk=>V.gx (E:=cq) (e:=40) (L:=P) (A:=B) (c:=D) kp Zm Z6 j u Zk) ?_;refine aq ?_;intro Zax Zay Zaz;refine b5 ?_;refine aj (λZ7=>?_) (λZ7=>?_)
   ·skip
    refine aC ?_;refine bD (q:=i) dQ rfl rfl rfl Zz rfl aa ?_;rw[KE];refine tN (E:=cq) (e:=40) (A:=B) (c:=D) (L:=P) (g:=Zy) (q:=i+1) (a:=(⟨(lo:Int)+rows,0⟩ :bl)) em rfl rfl Zm aa uA ?_;refine aC ?_;exact bg (i+1,P.set (i+1) ⟨(lo:Int)+rows,0⟩) ⟨aa,by dsimp only;rw[fT];exact Zd⟩ bm bO (λ_ h=>h.aw ae)
   ·skip
    refine aC ?_;exact bg (i+1,P) ⟨aa,Zd⟩ bm bO (λ_ h=>h.aw ae)
  ·refine nl ?_
   refine m7 results127 (cx.eR em rfl eY rfl rfl) (cx.tmp rfl) (cx.tmp rfl) (λZba Z8=>?_);exact aP.bP (⟨N - (lo:Int),min c0 (cols:Int)⟩,⟨B,D,P⟩,u) (Yb ZX ZY ZZ Z0 Zl O.2.1 (λx H=>KH (O.2.2.2 x H)) Zi ZW (by rw[←Zv];omega) Ze Zf ⟨by dsimp only;omega,by dsimp only;omega⟩ ⟨by dsimp only;omega,by dsimp only;omega⟩ bm) (by rw[show G.length=P.length from Zd.symm];rfl) (Z8.aw ae)
theorem Yd {p:bq} (h:cZ p.abs) {x:bR} (b:x∈p.s.l):x.cells.length≤1000∧gE x.cells:=by
 have a:=h.wide x.fk (dF.2 ⟨x,b,rfl⟩)
 have c:=h.cols
 have d: ((x.cells.length:Nat):Int)=p.abs.cols:=a.1
 exact⟨aa,a.2⟩
theorem Ye (A:Option Addr) (m n c:Nat) (xs df:List Value): (own 157 2 (.slice A m c) m xs).ce=(own 157 2 (.slice A n c) n df).ce:=by
 cases A <;> rfl
structure KI (p:bq) (rows cols:Int) (q:bq):Prop where
 g:q.g=p.g
 r:cV q.r
 room:q.r.room=p.r.room
 P:cZ q.abs
 high: (q.s.l.length:Int)=rows
 wd:q.cols=cols
 be:q.be.l=[]
theorem Yf (w:World) (F:Nat→Prop) (A:Option Addr) (n c:Nat) (row:List bh) (b:Rd bJ w F A n c row) (a:n≤1000000):
 Calls prog 196 [.slice A n c].toArray w (fb (λi:Option Addr × Nat=> .slice i.1 (cR id row).length i.2) (λi=>dL (.slice i.1 (cR id row).length i.2) (cR id row)) (λ_=>True) w):=by
 refine (P1 w F A n c row b a).mono ?_;rintro e w' ⟨v,_,rfl,f,ai,g,a⟩;obtain⟨h,d,rfl⟩:=wi ai;exact⟨(h,d),aU,rfl,f,ai,g,a⟩
theorem Yg {w:World} {g n:Nat} {R:List bh} (h: (own 282 8 (.slice (some ⟨g,0,none⟩) n n) n (bJ.all R)).pred w) (a:R.length=n):Rd bJ w (λ_=>True) (some ⟨g,0,none⟩) n n R:=by
 obtain⟨A,c,b,d⟩:=Rd.fX (E:=bJ) (show w.ownsRow 0 282 bJ.sz (.slice (some ⟨g,0,none⟩) n n) n (bJ.all R) from h) a;injection b with e _ f
 subst e f;exact d.dC (λ_ _=>aU)
theorem Yh {p:bq} {t:dh} {y:db} {L:List bR} {rows:Int} {cols:Nat} (b:t.g=p.r.g∧t.room=p.r.room∧cV t∧t.rows=[]) (c:bW y.l=bW L++List.replicate (rows.toNat - L.length) (nJ (cols:Int))) (f: ∀x∈L,x.cells.length≤1000∧gE x.cells) (ak: ∀j x,j<L.length→L[j]? = some x→x.cells.length=cols) (k: (L.length:Int)≤rows) (m:1≤rows∧rows≤100) (o:2≤cols∧cols≤1000):KI p rows (cols:Int) (⟨p.g,t,y,(cols:Int),⟨none,0,[]⟩⟩ :bq):=by
 have h:=KF (cols:=(cols:Int)) aa
 have i: (y.l.length:Int)=rows:=by
  have:=aX List.length c
  rw[cN,b0,cN,g_] at this
  omega
 have q:=b.2.2.1.n
 have s:=b.2.2.1.len
 have u:=b.2.2.1.room
 refine⟨rfl,b.2.2.1,b.2.1,⟨by show 2≤(cols:Int)∧(cols:Int)≤1000;omega,by show 1≤(bW y.l).length∧(bW y.l).length≤1000;rw[cN];omega,λx a=>?_,λx a=>?_,by show ((t.rows.length:Nat):Int)≤t.room∧t.room≤100000;rw[b.2.2.2];simp only[jL];omega⟩,i,rfl,rfl⟩;have a:x∈bW y.l:=a
 rw[c] at a
 show ((x.1.length:Nat):Int)=(cols:Int)∧_
 rcases cX.1 a with a | a
 obtain⟨g,d,rfl⟩:=dF.1 a;obtain⟨j,e⟩:=List.mem_iff_getElem?.1 d;have:=ak j g (cU.1 e).1 e
 exact⟨by show ((g.cells.length:Nat):Int)=_;omega,(f g d).2⟩;rw[(ua.1 a).2];exact h
 have a:x∈t.rows:=a
 rw[b.2.2.2] at a;cases a
theorem Yi (w:World) (p:bq) (X:bb w (bB p)) (Y:cV p.r) (T:cZ p.abs) (rows:Int) (cols:Nat) (Z:1≤rows∧rows≤100) (Za:2≤cols∧cols≤1000):Calls prog 131 [ptr p.g,.int .i64 rows,.int .i64 (cols:Int)].toArray w
 (aP (λ_:bq=> .int .i64 0) (bB p) bB (KI p rows (cols:Int)) w):=by
 have Zs:=T.rows
 have Zt:p.abs.cF.length=p.s.l.length:=by simp[bq.abs]
 refine bI func131 ntmps131 X ?_;refine dB ?_;refine ao rfl wH rfl (λn b=>x4 n rows (cols:Int)) ?_;refine ay ?_;refine fL rfl (by simp;omega) ?_;obtain⟨K,Zb⟩ : ∃K:Nat,min (p.s.l.length:Int) rows=(K:Int):=⟨(min (p.s.l.length:Int) rows).toNat,aa⟩;refine aK ?_;refine kB (l0:=b9 p.r) (cs1:=λ_=>_) (λ_=>eo) rfl Nb rfl (λn b=>Gc n p.r (b.kA bF) Y) (λt U=>?_);refine al ?_;refine iX (e:=157) (sz:=2) (v:=p.s.val) cp (λdE c9 Zc Zu Zv _ Zd=>?_);injection Zc with Ze _ Zf
 subst Ze Zf;refine aR ?_;refine bG [0,1,2,3,4,5,6,7,8,9,10,11,12,13,14] 1 [[(15,true,[])]] ?_;refine bw ?_;refine aL rfl (λZg Zh=>(fh 0 K dI rfl rfl (.inr ⟨rfl,rfl⟩) (.inl ⟨_,_,rfl,rfl,Zb⟩) aa aa aG)) ?_;refine aS ?_;rw[vD,kh,kh];refine aC ?_;have Zi: (p.s.l.take K).length=K:=by rw[dn];omega
 have Zj:K≤p.s.l.length:=by omega
 have Zk:p.s.l.map bR.aF=(p.s.l.take K).map bR.aF++(p.s.l.drop K).map bR.aF:=by rw[←gb,iT]
 refine cG (H':=af w (aB (bB p)) [aD p.g [.pointer (some ⟨p.r.g,0,none⟩),.slice p.s.A K p.s.c,.int .i64 (cols:Int),.slice none 0 0] 117,aT (b9 t),own 157 2 (.slice p.s.A K p.s.c) K (cf.all (p.s.l.take K)),aT ((p.s.l.take K).map bR.aF),lL.au ⟨none,0,[]⟩]) ?_ (Sub.refl _) (λx m=>by
  have o:=m.aw (l:=[aT (p.s.l.map bR.aF),aD p.g [.pointer (some ⟨p.r.g,0,none⟩),.slice p.s.A K p.s.c,.int .i64 (cols:Int),.slice none 0 0] 117,aT (b9 t),p.s.au]) ae
  rw[Zk] at o
  have J:=(o.yV).conv (c:=p.s.au) (c':=own 157 2 (.slice p.s.A K p.s.c) K (cf.all (p.s.l.take K))) jb (Ye p.s.A K p.s.l.length p.s.c _ _) (λh=>by have D:=Ct (j:=K) Zj h;rw[←show (cf.all (p.s.l.take K))=(cf.all p.s.l).take (K*2) from cf.Cw p.s.l K] at D;exact D)
  exact (J.eO 179 jQ).aw ae)
 refine aR ?_;refine b3 (ι:=Nat × List bR) (λi=>[(0,ptr p.g),(1,.int .i64 rows),(2,.int .i64 (cols:Int)),(48,.slice p.s.A K p.s.c),(49,.int .i64 (K:Int)),(50,.int .i64 (i.1 :Int))])
  (λi=>af w (aB (bB p)) [aD p.g [.pointer (some ⟨p.r.g,0,none⟩),.slice p.s.A K p.s.c,.int .i64 (cols:Int),.slice none 0 0] 117,aT (b9 t),own 157 2 (.slice p.s.A K p.s.c) K (cf.all i.2),aT (i.2.map bR.aF),lL.au ⟨none,0,[]⟩])
  (λi=>i.1≤K∧i.2.length=K∧(∀x∈i.2,x.cells.length≤1000∧gE x.cells)∧ ∀j x,j<i.1→i.2[j]? = some x→x.cells.length=cols) (λi=>K - i.1) ?_ ?_
 ·exact λw' Zl=>⟨(0,p.s.l.take K),⟨bN _,Zi,λx m=>Yd T (iu m),λ_ _ h=>by omega⟩,(hg rfl rfl rfl rfl rfl rfl),Zl⟩
 ·rintro⟨i,L⟩ ⟨hi,M,G,N⟩
  dsimp only at hi M G N ⊢
  refine al ?_;refine aj (λZm=>?_) (λZm=>?_)
  ·obtain⟨gs,H⟩:=Zd aa
   obtain⟨x,m⟩ : ∃x,L[i]? = some x:=⟨_,bE aa⟩;have Zn:=G x (c8 m)
   subst M;refine aC ?_;refine bD (q:=i) dI rfl rfl rfl H rfl aa ?_;refine cw (vs:=x.enc) gL rfl rfl rfl (λZw D j u I=>D.gx (E:=cf) (e:=157) (L:=L) (A:=p.s.A) (c:=p.s.c) cp H m j u I) ?_;refine aq ?_;intro Zo Zx Zy;refine aC ?_;refine r6 cols dv rfl rfl rfl rfl (by simp only[maxLen];omega) aa (λO Zz ZA=>?_);refine aS ?_;rw[FN];refine cG (H':=af w (aB (bB p)) [own 282 8 (.slice (some ⟨O,0,none⟩) cols cols) cols (bJ.all (List.replicate cols gP)),aD Zo x.enc 157,aD p.g [.pointer (some ⟨p.r.g,0,none⟩),.slice p.s.A L.length p.s.c,.int .i64 (cols:Int),.slice none 0 0] 117,aT (b9 t),own 157 2 (.slice p.s.A L.length p.s.c) L.length (cf.all L),aT (L.map bR.aF),lL.au ⟨none,0,[]⟩]) ?_ (Sub.refl _) (λy d=>d.aw ae);refine aS ?_;refine xh (E:=bJ) (L:=List.replicate cols gP) (src:=x.cells) (g:=O) (F:=λ_=>True) 0 (min x.cells.length cols) rfl dv rfl rfl rfl (λ_=>by rw[qF]) (by rw[g_];omega) cz (λZB o=>BI (o.has kp) (c8 m)) ?_;refine ar ?_;obtain⟨R,P⟩ : ∃R,R=List.take 0 (List.replicate cols gP)++List.take (min x.cells.length cols) x.cells++List.drop (0+min x.cells.length cols) (List.replicate cols gP):=⟨_,rfl⟩;rw[←P];have V:R.length=cols:=by
    rw[P];simp only[b0,dn,fz,g_];omega
   have Zp:gE R:=λc b=>by
    rw[P] at b
    rcases cX.1 b with b | b
    ·rcases cX.1 b with b | b
     ·simp at b
     ·exact Zn.2 c (iu b)
    ·rw[(ua.1 (lC b)).2];exact bN _
   refine ew [0,1,2,3,4,5] 2 [[(6,false,[7,8]),(9,true,[])]] (_) mixed ab (λ_ Q=>Q.drew) (λ_ h=>(show af _ _ [aD p.g [.pointer (some ⟨p.r.g,0,none⟩),.slice p.s.A L.length p.s.c,.int .i64 (cols:Int),.slice none 0 0] 117] _ from h.aw ae)) ?_;refine aK ?_;refine gg (ι:=Option Addr × Nat) rfl zK rfl (λn b=>Yf n _ (some ⟨O,0,none⟩) cols cols R (Yg (b.has aQ) V) aa) (λ⟨B,C⟩ _=>?_);refine bY (λ_=>True) (λ_ h=> .inr (h.aw ae)) (λ_ h=>aU) ?_;refine aq ?_;refine aL rfl (λZg Zh=>(bD (q:=i) dI rfl rfl rfl H rfl aa aG)) ?_;refine ar ?_;refine tN (E:=cf) (e:=157) (A:=p.s.A) (c:=p.s.c) (L:=L) (g:=gs) (q:=i) (a:=(⟨B,C,false,cR id R⟩ :bR)) gL rfl rfl H aa ss ?_;refine aJ ?_;refine bg (i+1,L.set i (⟨B,C,false,cR id R⟩ :bR)) ⟨by dsimp only;omega,by rw[fT],λy d=>?_,λj y I d=>?_⟩ bm (hg rfl rfl rfl rfl rfl rfl) (λ_ h=>?_)
   ·exact (rP d).elim (λh=>G y h) (λh=>by rw[h];exact⟨by show (cR id R).length≤_;rw[AC (f:=id) (λ_=>rfl)];omega,Gq (f:=id) (λ_=>rfl) (λ_ h=>h) Zp⟩)
   ·exact (Nat.lt_or_eq_of_le (Nat.le_of_lt_succ I)).elim (λh=>by rw[jr aa] at d;exact N j y h d) (λh=>by subst h;rw[List.getElem?_set_self aa] at d;cases d;show (cR id R).length=_;rw[AC (f:=id) (λ_=>rfl)];exact V)
   ·simp only[Mq.au,fT] at h
    have o:=h.aw (l:=[aT (L.map bR.aF),(⟨B,C,false,cR id R⟩ :bR).aF,aD p.g [.pointer (some ⟨p.r.g,0,none⟩),.slice p.s.A L.length p.s.c,.int .i64 (cols:Int),.slice none 0 0] 117,aT (b9 t),own 157 2 (.slice p.s.A L.length p.s.c) L.length (cf.all (L.set i (⟨B,C,false,cR id R⟩ :bR))),lL.au ⟨none,0,[]⟩]) ae
    have J:=o.pick (k:=i) (c:=x.aF) (by rw[eJ,m];rfl)
    have Zq:=(J.perm (List.Perm.swap _ _ _)).aw (l:=[(⟨B,C,false,cR id R⟩ :bR).aF,aT ((L.map bR.aF).eraseIdx i),aD p.g [.pointer (some ⟨p.r.g,0,none⟩),.slice p.s.A L.length p.s.c,.int .i64 (cols:Int),.slice none 0 0] 117,aT (b9 t),own 157 2 (.slice p.s.A L.length p.s.c) L.length (cf.all (L.set i (⟨B,C,false,cR id R⟩ :bR))),lL.au ⟨none,0,[]⟩]) ae
    have W:=Zq.Jm (by rw[cN];omega)
    rw[←n5] at W
    exact W.aw ae
  ·have ZC:i=K:=by omega
   subst M;have Zr:t.g=p.r.g:=U.1
   refine al ?_;refine cG (H':=af w (aB (bB p)) (bB (⟨p.g,t,⟨p.s.A,p.s.c,L⟩,(cols:Int),⟨none,0,[]⟩⟩ :bq))) ?_ (Sub.refl _) (λy d=>by simp only[bB,bq.an,nq,Zr];exact d.aw ae);refine ah ?_;refine aZ (l0:=bB (⟨p.g,t,⟨p.s.A,p.s.c,L⟩,(cols:Int),⟨none,0,[]⟩⟩ :bq)) ae rfl zF rfl (λn b=>BJ n (⟨p.g,t,⟨p.s.A,p.s.c,L⟩,(cols:Int),⟨none,0,[]⟩⟩ :bq) (b.bp ae) rows aa bm) (λy d=>?_);refine aJ ?_;intro ZD Q;exact aN (⟨p.g,t,y,(cols:Int),⟨none,0,[]⟩⟩ :bq) (Yh (L:=L) U d (λz S=>G z S) (λj z I S=>N j z aa S) aa Z Za) Q
theorem k3.fk {ι:Type} {v:ι→Value} {c:Chunk} {c':ι→Chunk} {ok:ι→Prop} {w w':World} {e:Ending} (h:k3 v c c' ok w e w'):aP v [c] (λi=>[c' i]) ok w e w':=by
 obtain⟨i,hi,rfl,g,ai,j,l⟩:=h;have a:aB [c]=c.ce:=by simp[aB]
 have b:aB [c' i]=(c' i).ce:=by simp[aB]
 refine⟨i,hi,rfl,a▸g,b▸l,λd ak=>?_,λk f m=>?_⟩;rw[eL] at ak;subst ak;exact ai
 rw[b] at f
 rw[a];rcases j k f with h | h
 exact h;omega
abbrev mg (s:bk) (q:bq) (cols:Nat) (j:cK.e5) (y x:Int):bk:={ s with ap:=q,st:=⟨s.st.g,cK.jg s.st.bs cols,j⟩,y:=y,x:=x }
theorem C9 {s z:bk} {q:bq} {cols:Nat} {j:cK.e5} {y x rows:Int} (c:cZ q.abs) (d: (q.s.l.length:Int)=rows) (h:q.cols=(cols:Int)) (i:1≤rows∧rows≤100) (k:2≤cols∧cols≤100) (m:0≤y∧y<rows) (n:0≤x∧x≤(cols:Int)) (o:q.r.room≤100) (a:hM (mg s q cols j y x) (uZ (mg s q cols j y x).abs) z):
 z.g=s.g∧dS z∧z.ap.r.room=q.r.room∧z.ap.be.l=q.be.l:=by
 have b:z.ap.abs=q.abs:=aX (λt:bd=>t.bC) a.abs
 have p:z.ap.s.l.length=q.s.l.length:=by
  have:=aX (λt:bZ=>t.cF.length) b
  simpa [bq.abs] using this
 have u:z.ap.cols=q.cols:=aX (λt:bZ=>t.cols) b
 have e:z.ap.r.room=q.r.room:=aX (λt:bZ=>t.room) b
 have f:z.ap.be.l=q.be.l:=aX (λt:bZ=>t.f_) b
 have v: ((bW q.s.l).length:Int)=rows:=by rw[cN];exact d
 refine⟨a.g,⟨a.wf,?_,aa,aa,aa⟩,e,f⟩;rw[a.abs];refine⟨c,?_,?_,?_⟩;show 0≤y∧y<((bW q.s.l).length:Int)
 omega
 show 0≤x∧x≤q.cols
 omega
 show (0 :Int)≤0∧(0 :Int)≤((bW q.s.l).length:Int) - 1∧((bW q.s.l).length:Int) - 1<((bW q.s.l).length:Int)
 omega
theorem C_ {s:bk} {q:bq} {cols:Nat} {j:cK.e5} {y x:Int} (a:cV q.r) (b:q.cols=(cols:Int)) (c:cK.hL (cK.jg s.st.bs cols) j):dO (mg s q cols j y x):=⟨a,c,by show ((cK.jg s.st.bs cols).length:Int)=q.cols;rw[cK.p5];exact b.symm⟩
theorem KJ [Inhabited et] (w:World) (s:bk) (k:bb w (aO s)) (d:dS s) (rows:Int) (cols:Nat) (m:1≤rows∧rows≤100) (e:2≤cols∧cols≤100):Calls prog 84 [ptr s.g,.int .i64 rows,.int .i64 (cols:Int)].toArray w
 (aP (λ_:bk=> .int .i64 0) (aO s) aO (λz=>z.g=s.g∧dS z∧z.ap.r.room=s.ap.r.room∧z.ap.be.l.length=0) w):=by
 have B:=d.ok.y
 have C:=d.ok.x
 have D:s.abs.y=s.y:=rfl
 have E:s.abs.x=s.x:=rfl
 have F:s.abs.cols=s.ap.cols:=rfl
 have G:s.abs.rows=(s.ap.s.l.length:Int):=by show ((bW s.ap.s.l).length:Int)=_;rw[cN]
 have H:=d.small
 refine bI func84 ntmps84 k ?_;refine aJ ?_;refine ao rfl jO rfl (λb e=>jW b s (e.has aQ)) ?_;refine ar ?_;refine aZ (l0:=bB s.ap) ae rfl MJ rfl (λb o=>Yi b s.ap (o.bp ae) d.g.r d.ok.bC rows cols m ⟨e.1,aa⟩) (λq a=>?_);refine bH ?_;refine ew [0,1,2,3,4,6,7,9,10,11,13] 4 [[(5,false,[8]),(12,false,[14,15,16]),(17,false,[18,19]),(20,false,[])],[(12,false,[14]),(5,false,[8,15,16]),(17,false,[18,19]),(20,false,[])]] (_) mixed ab (λ_ f=>f.drew) (λ_ h=>h.ext.size) ?_;refine bw ?_;refine FE ?_ ?_;refine aq ?_;refine bY (λ_=>True) (λ_ h=> .inr h.ext.size) (λ_ h=>aU) ?_;refine aS ?_;refine bY (λ_=>True) (λ_ h=> .inr ⟨.inr h.ext.size,dj⟩) (λ_ h=>aU) ?_;refine al ?_;refine bY (λ_=>True) (λ_ h=> .inr ⟨.inr ⟨.inr h.ext.size,dj⟩,dj⟩) (λ_ h=>aU) ?_;refine ay ?_;refine bY (λ_=>True) (λ_ h=> .inr ⟨.inr ⟨.inr ⟨.inr h.ext.size,dj⟩,dj⟩,dj⟩) (λ_ h=>aU) ?_;refine aR ?_;refine aZ (l0:=[s.st.aF]) ae rfl wG rfl (λb o=>(cK.pT b s.st.g s.st.bs s.st.i d.g.st (o.has eY) (tA k) cols ⟨e.1,aa⟩).mono (λ_ _ h=>h.fk)) (λj n=>?_);refine ah ?_;refine cG (H':=af w (aB (aO s)) (aO (mg s q cols j (min s.y (rows - 1)) (min s.x (cols:Int))))) ?_ (Sub.refl _) (λu p=>by have t:=a.g;simp only[aO,bk.an,eU,mg,t,sR.aF,cK.p5];exact p.aw ae);refine ar ?_;refine aZ (l0:=aO (mg s q cols j (min s.y (rows - 1)) (min s.x (cols:Int)))) ae rfl zE rfl (λb o=>u0 b _ (o.bp ae) (C_ a.r a.wd n) a.P) (λz v=>?_);refine aJ ?_;intro A f;have c:=C9 a.P a.high a.wd m e ⟨aa,aa⟩ ⟨aa,aa⟩ (by rw[a.room];omega) v
 exact aN z ⟨c.1,c.2.1,c.2.2.1.trans a.room,by rw[c.2.2.2,a.be];rfl⟩ f;refine aq ?_;refine bY (λ_=>True) (λ_ h=> .inr h.ext.size) (λ_ h=>aU) ?_;refine aS ?_;refine bY (λ_=>True) (λ_ h=> .inr ⟨.inr h.ext.size,dj⟩) (λ_ h=>aU) ?_;refine al ?_;refine bY (λ_=>True) (λ_ h=> .inr ⟨.inr ⟨.inr h.ext.size,dj⟩,dj⟩) (λ_ h=>aU) ?_;refine ay ?_;refine bY (λ_=>True) (λ_ h=> .inr ⟨.inr ⟨.inr ⟨.inr h.ext.size,dj⟩,dj⟩,dj⟩) (λ_ h=>aU) ?_;refine aR ?_;refine aZ (l0:=[s.st.aF]) ae rfl wG rfl (λb o=>(cK.pT b s.st.g s.st.bs s.st.i d.g.st (o.has eY) (tA k) cols ⟨e.1,aa⟩).mono (λ_ _ h=>h.fk)) (λj n=>?_);refine ah ?_;refine cG (H':=af w (aB (aO s)) (aO (mg s q cols j (min s.y (rows - 1)) (min s.x (cols:Int))))) ?_ (Sub.refl _) (λu p=>by have t:=a.g;simp only[aO,bk.an,eU,mg,t,sR.aF,cK.p5];exact p.aw ae);refine ar ?_;refine aZ (l0:=aO (mg s q cols j (min s.y (rows - 1)) (min s.x (cols:Int)))) ae rfl zE rfl (λb o=>u0 b _ (o.bp ae) (C_ a.r a.wd n) a.P) (λz v=>?_);refine aJ ?_;intro A f;have c:=C9 a.P a.high a.wd m e ⟨aa,aa⟩ ⟨aa,aa⟩ (by rw[a.room];omega) v
 exact aN z ⟨c.1,c.2.1,c.2.2.1.trans a.room,by rw[c.2.2.2,a.be];rfl⟩ f
theorem KK (w:World) (s:bk) (c:bb w (aO s)) (rows cols:Int) (d: ¬((1≤rows∧rows≤1000)∧2≤cols∧cols≤1000)) (v:Value):Calls prog 83 [ptr s.g,.int .i64 rows,.int .i64 cols,v].toArray w
 (aP (λ_:Unit=> .tuple #[.slice none 0 0,.int .i64 1]) (aO s) (λ_=>aO s) (λ_=>True) w):=by
 refine bI func83 ntmps83 c ?_;refine aJ ?_;refine ao rfl jO rfl (λa b=>jW a s (b.has aQ)) ?_;refine ah ?_;refine ao rfl iZ rfl (λa b=>jl a s (b.has aQ)) ?_;refine j2 (t:=40) (off:=0) ab em rfl rfl rfl ?_;refine aq ?_;refine cI (λa o=>X8 a s.ap o rows cols d ⟨s.y,s.x⟩ v) (λq _=>?_);refine ay ?_;intro f h i;refine nl ?_;intro j e;exact aN () aU e
theorem KL [Inhabited et] (w:World) (s:bk) (E:bb w (aO s)) (f:dS s) (rows:Int) (cols:Nat) (G:1≤rows∧rows≤100) (b:2≤cols∧cols≤40) (F:Nat→Prop) (v:Option Addr) (m d:Nat) (l:List bl) (ai:Rd cq w F v m d l) (H: ∀k,F k→k∉aB (aO s)) (K:m≤100000):
 Calls prog 83 [ptr s.g,.int .i64 rows,.int .i64 (cols:Int),.slice v m d].toArray w
 (aP (λi:eb × bk=> .tuple #[v7 i.1,.int .i64 0]) (aO s) (λi=>aO i.2++[i.1.au]) (λi=>i.2.g=s.g∧dS i.2∧i.2.ap.r.room=s.ap.r.room∧i.2.ap.be.l.length≤1∧i.1.l.length=m+1) w):=by
 have W:=f.ok.y
 have X:=f.ok.x
 have Y:s.abs.y=s.y:=rfl
 have Z:s.abs.x=s.x:=rfl
 have Za:s.abs.cols=s.ap.cols:=rfl
 have Zb:s.abs.rows=(s.ap.s.l.length:Int):=by show ((bW s.ap.s.l).length:Int)=_;rw[cN]
 have L:=f.small
 have M: ∀k,k∈aB (bB s.ap)→k∈aB (aO s):=λk n=>by
  obtain⟨c,b,N⟩:=e4.1 n;exact e4.2 ⟨c,by simp only[eD,List.not_mem_nil,or_false] at b ⊢;rcases b with h | h | h | h | h <;> simp[h],N⟩
 refine bI func83 ntmps83 E ?_;refine aJ ?_;refine ao rfl jO rfl (λe b=>jW e s (b.has aQ)) ?_;refine ah ?_;refine ao rfl iZ rfl (λe b=>jl e s (b.has aQ)) ?_;refine j2 (t:=40) (off:=0) ab em rfl rfl rfl ?_;refine aq ?_;refine aZ (l0:=bB s.ap) ae rfl MI rfl (λe o=>Yc e s.ap (o.bp ae) f.g.r f.ok.bC L rows cols G b ⟨s.y,s.x⟩ bm (λk=>F k∧k<w.heap.size) v m d l ((ai.hA a1).ext o.ext (λk n=>H k n.1)) (λk n O=>H k n.1 (M k O)) K) (λ⟨⟨A,B⟩,C,q⟩ Q=>?_);refine ay ?_;intro R Zc Zd;refine dB ?_;refine ew [0,1,2,3,4,5,6,7] 2 [[(8,false,[9,10]),(11,false,[])]] (_) mixed ab (λ_ D=>D.drew) (λ_ h=>(show af _ _ [aD R _ 40] _ from h.aw ae)) ?_;refine bo ?_;refine bY (λ_=>True) (λ_ h=> .inr (h.aw ae)) (λ_ h=>aU) ?_;refine ay ?_;refine bY (λ_=>True) (λ_ h=> .inr ⟨.inr (h.aw ae),dj⟩) (λ_ h=>aU) ?_;refine aR ?_;refine aZ (l0:=[s.st.aF]) ae rfl wG rfl (λe o=>(cK.pT e s.st.g s.st.bs s.st.i f.g.st (o.has OY) (tA E) cols ⟨b.1,aa⟩).mono (λ_ _ h=>h.fk)) (λj S=>?_);refine ah ?_;have a:C7 s.ap rows (cols:Int) m (⟨A,B⟩,C,q):=Q
 have I:=a.y
 have J:=a.x
 dsimp only at I J
 refine cG (H':=af w (aB (aO s)) (aO (mg s q cols j A B)++[C.au])) ?_ (Sub.refl _) (λu T=>by have U:q.g=s.ap.g:=a.g;simp only[aO,bk.an,eU,mg,U,sR.aF,cK.p5];exact T.aw ae);refine ar ?_;refine aZ (l0:=aO (mg s q cols j A B)) ae rfl zE rfl (λe o=>u0 e _ (o.bp ae) (C_ a.r a.wd S) a.P) (λz V=>?_);refine bo ?_;intro Ze D;have p:=C9 a.P a.high a.wd G ⟨b.1,aa⟩ I J (by rw[show q.r.room=s.ap.r.room from a.room];omega) V
 exact aN (C,z) ⟨p.1,p.2.1,p.2.2.1.trans a.room,by rw[p.2.2.2];exact a.be,a.pl⟩ D
theorem Yj [Inhabited et] (w:World) (g par:Nat) (X:Chunk) (T:bK) (d:bb w (bx g par X T)) (rows cols:Int) (f: ¬((1≤rows∧rows≤1000)∧2≤cols∧cols≤1000)) (v:Value):Calls prog 45 [ptr g,.int .i64 rows,.int .i64 cols,v].toArray w
 (aP (λ_:Unit=> .tuple #[.slice none 0 0,.int .i64 1]) (bx g par X T) (λ_=>bx g par X T) (λ_=>True) w):=by
 obtain⟨am,bj,use,b6,cg,bL,buf,aF⟩:=T;cases use
 refine bI func45 ntmps45 d ?_;refine aJ ?_;refine ao rfl ot rfl (λa b=>o3 a g par _ (b.has aQ)) ?_;refine ah ?_;refine cI (λa o=>Calls.mono (KK a am o.jq rows cols f v) (λe w' h=>aP.star h)) (λ_ _=>?_);refine sv ?_;intro i c;exact aN () aU c;refine bI func45 ntmps45 d ?_;refine aJ ?_;refine ao rfl ot rfl (λa b=>o3 a g par _ (b.has aQ)) ?_;refine ah ?_;refine cI (λa o=>Calls.mono (KK a bj o.jq rows cols f v) (λe w' h=>aP.star h)) (λ_ _=>?_);refine sv ?_;intro i c;exact aN () aU c
theorem af.yX {b w:World} {S:List Nat} {cs l:List Chunk} {c:Chunk} (h:af b S (aT (l++[c])::cs) w):af b S (aT l::c::cs) w:=by
 have a:=h.yV
 exact ((a.perm (List.Perm.swap _ _ _)).k4).perm (List.Perm.swap _ _ _)
theorem Yk [Inhabited et] (w:World) (g par:Nat) (X:Chunk) (T:bK) (I:bb w (bx g par X T)) {R:Int} {m:Nat} (b:cj g R m T) (rows:Int) (cols:Nat) (A:1≤rows∧rows≤100) (f:2≤cols∧cols≤40) (F:Nat→Prop) (B:Option Addr) (n d:Nat) (l:List bl) (ai:Rd cq w F B n d l) (C: ∀k,F k→k∉aB (bx g par X T)) (J:n≤100000):
 Calls prog 45 [ptr g,.int .i64 rows,.int .i64 (cols:Int),.slice B n d].toArray w
 (aP (λi:eb × bK=> .tuple #[v7 i.1,.int .i64 0]) (bx g par X T) (λi=>i.1.au::bx g par X i.2) (λi=>cj g R (m+1) i.2∧i.1.l.length=n+1) w):=by
 obtain⟨am,bj,use,b6,cg,bL,buf,aF⟩:=T;have K:=b.buf
 dsimp only at K
 cases use
 have D: ∀k,k∈aB (aO am)→k∈aB (bx g par X ⟨am,bj,false,b6,cg,bL,buf,aF⟩):=λk j=>e4.2 ⟨aT (aO am),by simp,j⟩
 refine bI func45 ntmps45 I ?_;refine aJ ?_;refine ao rfl ot rfl (λp f=>o3 p g par _ (f.has aQ)) ?_;refine ah ?_;refine aZ (l0:=[aT (aO am)]) (v:=λi:eb × bk=> .tuple #[v7 i.1,.int .i64 0]) (l':=λi=>[aT (aO i.2++[i.1.au])]) (ok:=λi=>i.2.g=am.g∧dS i.2∧i.2.ap.r.room=am.ap.r.room∧i.2.ap.be.l.length≤1∧i.1.l.length=n+1) ae rfl Ee rfl (λp o=>Calls.mono (KL p am (o.bp ae).jq b.am rows cols A f (λk=>F k∧k<w.heap.size) B n d l ((ai.hA a1).ext o.ext (λk j=>C k j.1)) (λk j E=>C k j.1 (D k E)) J) (λe w' h=>aP.star h)) (λ⟨q,z⟩ s=>?_);refine eT ?_;refine cG (H':=af w (aB (bx g par X ⟨am,bj,false,b6,cg,bL,buf,aF⟩)) (q.au::bx g par X ⟨z,bj,false,b6,cg,bL,buf,aF⟩)) ?_ (Sub.refl _) (λx t=>by have u:z.g=am.g:=s.1;have G:=t.yX;simp only[bx,eI,o2,bK.b8,bK.dN,u];exact G.aw ae);refine aS ?_;refine dq (q:=1) underlying88 pz rfl rfl rfl a7 aa ?_;refine ah ?_;refine aZ (l0:=[aT (aO bj)]) (v:=λ_:bk=> .int .i64 0) (l':=λi=>[aT (aO i)]) (ok:=λi=>i.g=bj.g∧dS i∧i.ap.r.room=bj.ap.r.room∧i.ap.be.l.length=0) ae rfl Ef rfl (λp o=>Calls.mono (KJ p bj (o.bp ae).jq b.bj rows cols A ⟨f.1,aa⟩) (λe w' h=>aP.star h)) (λa y=>?_);refine ah ?_;refine cG (H':=af w (aB (bx g par X ⟨am,bj,false,b6,cg,bL,buf,aF⟩)) (q.au::bx g par X ⟨z,a,false,b6,cg,bL,buf,aF⟩)) ?_ (Sub.refl _) (λx t=>by have u:a.g=bj.g:=y.1;simp only[bx,eI,o2,bK.b8,bK.dN,u];exact t.aw ae);refine dB ?_;intro L H;exact aP.bP (q,⟨z,a,false,b6,cg,bL,buf,⟨none,0,[]⟩⟩) ⟨⟨s.2.1,y.2.1,s.2.2.1.trans b.room,b.bL,b.cg,by have M:z.ap.be.l.length≤1:=s.2.2.2.1;have N:=y.2.2.2;show z.ap.be.l.length+a.ap.be.l.length+0≤m+1;omega,by dsimp only;omega,λc f=>(by cases f),b.md⟩,s.2.2.2.2⟩ rfl ((H.eO 181 lm).aw ae);have D: ∀k,k∈aB (aO bj)→k∈aB (bx g par X ⟨am,bj,true,b6,cg,bL,buf,aF⟩):=λk j=>e4.2 ⟨aT (aO bj),by simp,j⟩
 refine bI func45 ntmps45 I ?_;refine aJ ?_;refine ao rfl ot rfl (λp f=>o3 p g par _ (f.has aQ)) ?_;refine ah ?_;refine aZ (l0:=[aT (aO bj)]) (v:=λi:eb × bk=> .tuple #[v7 i.1,.int .i64 0]) (l':=λi=>[aT (aO i.2++[i.1.au])]) (ok:=λi=>i.2.g=bj.g∧dS i.2∧i.2.ap.r.room=bj.ap.r.room∧i.2.ap.be.l.length≤1∧i.1.l.length=n+1) ae rfl Ee rfl (λp o=>Calls.mono (KL p bj (o.bp ae).jq b.bj rows cols A f (λk=>F k∧k<w.heap.size) B n d l ((ai.hA a1).ext o.ext (λk j=>C k j.1)) (λk j E=>C k j.1 (D k E)) J) (λe w' h=>aP.star h)) (λ⟨q,z⟩ s=>?_);refine eT ?_;refine cG (H':=af w (aB (bx g par X ⟨am,bj,true,b6,cg,bL,buf,aF⟩)) (q.au::bx g par X ⟨am,z,true,b6,cg,bL,buf,aF⟩)) ?_ (Sub.refl _) (λx t=>by have u:z.g=bj.g:=s.1;have G:=t.yX;simp only[bx,eI,o2,bK.b8,bK.dN,u];exact G.aw ae);refine aS ?_;refine dq (q:=1) underlying88 pz rfl rfl rfl a7 aa ?_;refine ah ?_;refine aZ (l0:=[aT (aO am)]) (v:=λ_:bk=> .int .i64 0) (l':=λi=>[aT (aO i)]) (ok:=λi=>i.g=am.g∧dS i∧i.ap.r.room=am.ap.r.room∧i.ap.be.l.length=0) ae rfl Ef rfl (λp o=>Calls.mono (KJ p am (o.bp ae).jq b.am rows cols A ⟨f.1,aa⟩) (λe w' h=>aP.star h)) (λa y=>?_);refine ah ?_;refine cG (H':=af w (aB (bx g par X ⟨am,bj,true,b6,cg,bL,buf,aF⟩)) (q.au::bx g par X ⟨a,z,true,b6,cg,bL,buf,aF⟩)) ?_ (Sub.refl _) (λx t=>by have u:a.g=am.g:=y.1;simp only[bx,eI,o2,bK.b8,bK.dN,u];exact t.aw ae);refine dB ?_;intro L H;exact aP.bP (q,⟨a,z,true,b6,cg,bL,buf,⟨none,0,[]⟩⟩) ⟨⟨y.2.1,s.2.1,s.2.2.1.trans b.room,b.bL,b.cg,by have M:z.ap.be.l.length≤1:=s.2.2.2.1;have N:=y.2.2.2;show a.ap.be.l.length+z.ap.be.l.length+0≤m+1;omega,by dsimp only;omega,λc f=>(by cases f),b.md⟩,s.2.2.2.2⟩ rfl ((H.eO 181 lm).aw ae)
end Go.Proofs.YtkeokgcdnfjaaaaGreatDoor.Mq
