/- part 15 of the proof -/
import Derived.Test.YtkeokgcdnfjaaaaGreatDoorQ14
import Derived.Lib.ItoaNum
import Derived.Lib.TrailingZeros
namespace Go.Proofs.YtkeokgcdnfjaaaaGreatDoor.Mq
open Go Go.RowKit Go.Proofs Tryz
theorem Qy {h:List bQ} {room:Int} {r:bQ} (a: (h.length:Int)≤room): ((oI h room r).length:Int)≤room:=by
 unfold oI;split
 exact a;split <;> simp <;> omega
theorem Gj {h:List bQ} {room:Int} {r x:bQ} (a:x∈oI h room r):x∈h∨x=r:=by
 unfold oI at a
 split at a
 exact .inl a;rcases cX.1 a with a | a
 split at a
 exact .inl (List.mem_of_mem_tail a);exact .inl a;exact .inr (eL.1 a)
theorem xq {p:bZ} (h:cZ p):cZ (nx p):=by
 refine⟨h.cols,h.rows,h.wide,λr b=>?_,Qy h.room.1,h.room.2⟩;rcases Gj b with b | rfl
 exact h.nv r b;cases c:p.cF with
 | nil=>have:=h.rows.1;rw[c] at this;simp at this
 | cons a l=>exact h.wide a (by rw[c];simp)
def ih (p:bq) (r:dh):bq:={ p with r:=r }
theorem Qz {b w:World} {S:List Nat} {cs cs':List Chunk} {p:bq} {r:dh} (a:r.g=p.r.g) (c:af b S cs w) (d:aA cs [r.an,r.s.au,r.s.cc,p.an,p.s.au,p.s.cc,p.be.au] cs'):af b S (bB (ih p r)) w:=by
 have f:=c.aw d
 have aH:af b S (aT (b9 r)::[p.an,p.s.au,p.s.cc,p.be.au]) w:=af.close' (l:=b9 r) f
 have e:bB (ih p r)=[p.an,aT (b9 r),p.s.au,p.s.cc,p.be.au]:=by
  simp only[bB,ih,bq.an,nq,a]
 rw[e];exact aH.aw ae
theorem QA (w:World) (p:bq) (Zo:bb w (bB p)) (M:cV p.r) (N:cZ p.abs) (Zp:p.be.l.length≤1152921504600) (x y:Nat) (Zq:x<p.s.l.length) (Zr:y<p.s.l.length) (an aM:Int):
 Calls prog 380 [ptr p.g,.int .i64 (x:Int),.int .i64 (y:Int),.agg [.int .i64 an,.int .i64 aM].toArray].toArray w (hI p (mD p.abs x y an aM) w):=by
 have Zs:=N.rows
 have O:=q7 M
 have Z4:=N.room
 have Z5:=M.n
 have Z6: (p.abs.jA.length:Int)=p.r.n:=by rw[O];rfl
 simp only[bq.abs,bW,cN] at Zs
 refine bI func380 ntmps380 Zo ?_;refine ah ?_;intro t Z7 Z8;refine aJ ?_;refine aj (λZt=>?_) (λZt=>?_);refine al ?_;refine aZ (l0:=bB p) ae rfl E2 rfl (λf d=>by have m:=Gi f p (d.bp ae) M N Zp x y Zq Zr an aM;exact m) (λZu Zv=>?_);refine ay ?_;intro Zw Q;obtain⟨F,G,H⟩:=Zv;exact aN Zu ⟨F,G,by rw[H,mD,ax aa]⟩ Q;obtain rfl:x=0:=by omega
 refine al ?_;refine ao rfl ou rfl (λf d=>by have m:=oF f p (d.has bF) ((d.has cp: (aT (b9 p.r)).pred f) p.r.an av);exact m) ?_;refine ah ?_;refine aZ (l0:=bB p) ae rfl pC rfl (λf d=>by have m:=pW f p (d.bp ae) M aa 0 (p.r.n+(y:Int)+1) 1;exact m) (λb Zx=>?_);refine aS ?_;obtain⟨Zg,R,C⟩:=Zx;have Zy:b.r.n=p.r.n:=by rw[q7 R,C,O];rfl
 have Zz:b.r.room=p.r.room:=aX bZ.room C
 have ZA:bW b.s.l=bW p.s.l:=aX bZ.cF C
 have Z9:b.s.l.length=p.s.l.length:=by have:=aX List.length ZA;simpa [bW] using this
 have Zaa:b.be.l.length=p.be.l.length+1:=by have:=aX (λz=>z.f_.length) C;simpa [bq.abs,fC] using this
 have I:cZ b.abs:=by rw[C];exact p1 N _ _ _
 obtain⟨z,B⟩ : ∃z,b.s.l[0]? = some z:=⟨b.s.l[0]'aa,bE _⟩;have D:=c8 B
 rw[←Zg];refine hv (e:=157) (sz:=2) (v:=b.s.val) cp (λdE c9 ZB _ _ _ ZC=>?_);injection ZB with ZD _ ZE
 subst ZD ZE;obtain⟨ZF,Zh⟩:=ZC aa;have ZG:b.s.val= .slice (some ⟨ZF,0,none⟩) b.s.l.length b.s.c:=by rw[db.val,Zh]
 refine hC (λ_:dh=>[(0,ptr b.g),(2,.int .i64 (y:Int)),(7,ptr t),(9,.bool (decide (b.r.n=b.r.room)))]) (λj=>af w (aB (bB p)) (aD t [.int .i64 an,.int .i64 aM] 99::bB (ih b j))) (λj=>cV j∧j.room=b.r.room∧j.rows=oI b.r.rows b.r.room z.fk) ?_ ?_;refine bG [0,1,2,3,4,5,6,7,8,9] 3 [[(10,true,[11,12,13]),(14,false,[]),(15,false,[16])],[(14,false,[]),(10,true,[11,12,13]),(15,false,[16])]] ?_;refine aK ?_;refine aL rfl (λZH Zi=>(bD (q:=0) dI rfl rfl rfl Zh a7 aa aG)) ?_;refine aL rfl (λZH Zi=>(cw gL rfl rfl rfl (λP J j u ZI=>by subst J;exact Zi.xn (E:=cf) cp ZG B j u ZI) aG)) ?_;refine aq ?_;refine FE ?_ ?_;refine k5 (lc:=b9 b.r) cv ?_;refine aZ (l0:=b9 b.r) ae rfl zQ rfl (λf d=>by obtain⟨ZJ,ZK,S,T⟩:=uJ (v:=z.val) (L:=z.cells) ((d.has kp:b.s.cc.pred f) z.aF (dF.2 ⟨z,D,rfl⟩));injection S with U _ V;subst U V;exact AM f b.r (d.bp ae) R _ z.A z.cells.length z.c z.cells z.cont T (λk W X=>d.apart ae (c:=b.s.cc) cp k (e4.2 ⟨z.aF,dF.2 ⟨z,D,rfl⟩,by show k∈z.val.ownBlock.toList;rw[W];simp⟩) X) (oH I D).1) (λi o=>?_);refine aC ?_;intro ZL ZM ZN;refine bY (λ_=>True) (λ_ h=> .inr ⟨.inl rfl,dj⟩) (λ_ h=>aU) ?_;refine ar ?_;refine eX gL rfl rfl cz o.2.2.2.2.1 o.2.2.2.2.2 (by (rw[o.2.2.2.2.1];exact dT rfl)) ?_;refine bY (λ_=>True) (λ_ h=> .inr ⟨.inr ⟨.inl rfl,dj⟩,dj⟩) (λ_ h=>aU) ?_;refine ah ?_;refine dr i.2 ⟨o.2.2.1,o.2.1,o.2.2.2.1⟩ (cu rfl rfl rfl rfl) (λP m=>?_);have Y:=m.aw (l:=[i.2.an,i.2.s.au,i.2.s.cc,b.an,b.s.au,b.s.cc,b.be.au,aD t [.int .i64 an,.int .i64 aM] 99]) ae
 have Z:af w (aB (bB p)) (aT (b9 i.2)::[b.an,b.s.au,b.s.cc,b.be.au,aD t [.int .i64 an,.int .i64 aM] 99]) P:=af.close' (l:=b9 i.2) Y
 have J:bB (ih b i.2)=[b.an,aT (b9 i.2),b.s.au,b.s.cc,b.be.au]:=by simp only[bB,ih,bq.an,nq,o.1]
 rw[J];exact Z.aw ae;refine aq ?_;intro ZL ZM ZN;refine bY (λ_=>True) (λ_ h=> .inr (h.rem bv.head)) (λ_ h=>aU) ?_;refine ar ?_;refine k5 (lc:=b9 b.r) pO ?_;refine aZ (l0:=b9 b.r) ae rfl zQ rfl (λf d=>by obtain⟨ZJ,ZK,S,T⟩:=uJ (v:=z.val) (L:=z.cells) ((d.has eY:b.s.cc.pred f) z.aF (dF.2 ⟨z,D,rfl⟩));injection S with U _ V;subst U V;exact AM f b.r (d.bp ae) R _ z.A z.cells.length z.c z.cells z.cont T (λk W X=>d.apart ae (c:=b.s.cc) hD k (e4.2 ⟨z.aF,dF.2 ⟨z,D,rfl⟩,by show k∈z.val.ownBlock.toList;rw[W];simp⟩) X) (oH I D).1) (λi o=>?_);refine al ?_;refine eX gL rfl rfl nj o.2.2.2.2.1 o.2.2.2.2.2 (by (rw[o.2.2.2.2.1];exact dT rfl)) ?_;refine bY (λ_=>True) (λ_ h=> .inr ⟨.inl rfl,dj⟩) (λ_ h=>aU) ?_;refine ah ?_;refine dr i.2 ⟨o.2.2.1,o.2.1,o.2.2.2.1⟩ (cu rfl rfl rfl rfl) (λP m=>?_);have Y:=m.aw (l:=[i.2.an,i.2.s.au,i.2.s.cc,b.an,b.s.au,b.s.cc,b.be.au,aD t [.int .i64 an,.int .i64 aM] 99]) ae
 have Z:af w (aB (bB p)) (aT (b9 i.2)::[b.an,b.s.au,b.s.cc,b.be.au,aD t [.int .i64 an,.int .i64 aM] 99]) P:=af.close' (l:=b9 i.2) Y
 have J:bB (ih b i.2)=[b.an,aT (b9 i.2),b.s.au,b.s.cc,b.be.au]:=by simp only[bB,ih,bq.an,nq,o.1]
 rw[J];exact Z.aw ae;rintro j ⟨Zj,ZO,ZP⟩;have Za: (ih b j).abs=nx b.abs:=by
  have F:b.abs.cF.headD ([],false)=z.fk:=by
   cases Zb:b.s.l with
   | nil=>rw[Zb] at B;simp at B
   | cons a l=>rw[Zb] at B;simp at B;simp[bq.abs,bW,Zb,B]
  have G:b.abs.jA=b.r.rows:=rfl
  have H:b.abs.room=b.r.room:=rfl
  simp only[nx,F,G,H,←ZP];simp only[bq.abs,ih,ZO]
 have Zab:cZ (ih b j).abs:=by rw[Za];exact xq I
 have Zk: (b.r.n=b.r.room)↔fI p.abs=p.abs.room:=by rw[Zy,Zz,←O];exact Iff.rfl
 have ZQ:b.abs=fC p.abs 0 (fI p.abs+(y:Int)+1) 1:=by rw[C,O]
 obtain⟨Zc,K⟩ : ∃Zc,Zc=(if fI p.abs=p.abs.room then fC (nx b.abs) 2 0 1 else nx b.abs):=⟨_,rfl⟩;refine al ?_;refine hC (λ_:bq=>[(0,ptr b.g),(2,.int .i64 (y:Int)),(7,ptr t)]) (λq=>af w (aB (bB p)) (aD t [.int .i64 an,.int .i64 aM] 99::bB q)) (λq=>q.g=b.g∧cV q.r∧q.abs=Zc) ?_ ?_;refine aj (λZd=>?_) (λZd=>?_);refine ar ?_;refine aZ (l0:=bB (ih b j)) ae rfl pC rfl (λf d=>by have m:=pW f (ih b j) (d.bp ae) Zj (by show b.be.l.length≤_;omega) 2 0 1;exact m) (λZR ZS=>?_);refine aq ?_;obtain⟨ZT,ZU,ZV⟩:=ZS;exact dr ZR ⟨ZT,ZU,by rw[ZV,K,ax (Zk.1 Zd),Za]⟩ bO (λ_ h=>h.aw ae);refine aq ?_;exact dr (ih b j) ⟨rfl,Zj,by rw[K,ag (λh=>Zd (Zk.2 h)),Za]⟩ bO (λ_ h=>h);rintro q ⟨Zl,ZW,Ze⟩;have Zm:cZ q.abs:=by
  rw[Ze,K];split
  exact p1 (xq I) _ _ _;exact xq I
 have Zac:q.s.l.length=p.s.l.length:=by
  have ZX:q.abs.cF=b.abs.cF:=by
   rw[Ze,K];split <;> rfl
  have ZY:=aX List.length ZX
  simp only[bq.abs,bW,cN] at ZY
  omega
 rw[←Zl];refine al ?_;refine aZ (l0:=bB q) ae rfl zY rfl (λf d=>by have m:=AQ f q (d.bp ae) ZW Zm 0 y aa aa an aM;exact m) (λZf ZZ=>?_);obtain⟨c1,Z0,Zn⟩:=ZZ;have Z1:cZ Zf.abs:=by rw[Zn];exact xp Zm (by simp[bq.abs];omega) (by simp[bq.abs];omega) _ _
 refine al ?_;refine aZ (l0:=bB Zf) ae rfl pG rfl (λf d=>by have m:=pV f Zf (d.bp ae) Z0 Z1 ((y:Int)+1);rw[c1] at m;exact m) (λZ2 Z3=>?_);refine ar ?_;intro Zw Q;obtain⟨F,G,H⟩:=Z3;refine aN Z2 ⟨by rw[F,c1,Zl,Zg],G,?_⟩ Q;rw[H,Zn,Ze,mD,ag (by omega: ¬0<0),K,ZQ];done
def iter (f:bZ→bZ):Nat→bZ→bZ
 | 0,p=>p
 | n+1,p=>f (iter f n p)
def hK (p:bZ) (x y n:Int) (f:bZ→Nat→Nat→bZ):bZ:=
 if (0≤x∧x<p.cF.length)∧(0≤y∧y<p.cF.length)∧x≤y then iter (λq=>f q x.toNat y.toNat) (min (max 0 n) (y - x+1)).toNat p else p
structure Kept (k:Nat) (p q:bZ):Prop where
 wf:cZ p→cZ q
 rows:q.cF.length=p.cF.length
 cols:q.cols=p.cols
 room:q.room=p.room
 be:q.f_.length≤p.f_.length+k
theorem Kept.refl (p:bZ):Kept 0 p p:=⟨id,rfl,rfl,rfl,aa⟩
theorem Kept.trans {a b:Nat} {p q r:bZ} (h:Kept a p q) (k:Kept b q r):Kept (a+b) p r:=⟨λx=>k.wf (h.wf x),k.rows.trans h.rows,k.cols.trans h.cols,k.room.trans h.room,by have:=h.be;have:=k.be;omega⟩
theorem Kept.mono {a b:Nat} {p q:bZ} (h:Kept a p q) (c:a≤b):Kept b p q:=⟨h.wf,h.rows,h.cols,h.room,by have:=h.be;omega⟩
theorem p2 (p:bZ) (k a n:Int):Kept 1 p (fC p k a n):=⟨λh=>p1 h k a n,rfl,rfl,rfl,by simp[fC]⟩
theorem Gk (p:bZ) (y:Int) {f:bQ→bQ} (b:cZ p→ ∀r:bQ,((r.1.length:Int)=p.cols∧ ∀c∈r.1,c.more.length≤32)→(((f r).1.length:Int)=p.cols∧ ∀c∈(f r).1,c.more.length≤32)):Kept 0 p (nt p y f):=by
 unfold nt;split
 refine⟨λh=>⟨h.cols,by simpa using h.rows,λr a=>?_,h.nv,h.room⟩,by simp,rfl,rfl,by simp⟩;rcases mem_modify a with a | ⟨r',d,rfl⟩
 exact h.wide r a;exact b h r' (h.wide r' d);exact Kept.refl p
theorem lO (p:bZ) (y:Int) (b:Bool):Kept 0 p (iC p y b):=Gk p y (λ_ _ h=>h)
theorem xr (p:bZ) {a b:Nat} (c:a<p.cF.length) (d:b<p.cF.length) (k v:Int):Kept 0 p (nw p a b k v):=⟨λh=>xp h c d k v,AN c d,rfl,rfl,cd _⟩
theorem Gl (p:bZ):Kept 0 p (nx p):=⟨xq,rfl,rfl,rfl,cd _⟩
theorem xt (p:bZ) {a b:Nat} (c:a<p.cF.length) (d:b<p.cF.length) (k v:Int):Kept 2 p (sM p a b k v):=
 (((((p2 p 1 (fI p+a) 1).trans (p2 _ 0 (fI p+b) 1)).trans (xr (fC (fC p 1 (fI p+a) 1) 0 (fI p+b) 1) (a:=a) (b:=b) c d k v)).trans (lO _ a false)).trans (lO _ (b+1) false)).mono (cd 2)
theorem q8 (p:bZ) {a b:Nat} (c:a<p.cF.length) (d:b<p.cF.length) (k v:Int):Kept 2 p (oJ p a b k v):=
 (((((p2 p 1 (fI p+b) 1).trans (p2 _ 0 (fI p+a) 1)).trans (xr (fC (fC p 1 (fI p+b) 1) 0 (fI p+a) 1) (a:=b) (b:=a) d c k v)).trans (lO _ (a+1) false)).trans (lO _ (b+1) false)).mono (cd 2)
theorem uP (p:bZ) {a b:Nat} (d:a<p.cF.length) (c:b<p.cF.length) (k v:Int):Kept 2 p (mD p a b k v):=by
 unfold mD;split
 exact xt p d c k v;dsimp only;split
 exact (((((p2 p 0 (fI p+b+1) 1).trans (Gl _)).trans (p2 _ 2 0 1)).trans (xr (fC (nx (fC p 0 (fI p+b+1) 1)) 2 0 1) (a:=0) (b:=b) (by show 0<p.cF.length;omega) c k v)).trans (lO _ (b+1) false)).mono (cd 2);exact ((((p2 p 0 (fI p+b+1) 1).trans (Gl _)).trans (xr (nx (fC p 0 (fI p+b+1) 1)) (a:=0) (b:=b) (by show 0<p.cF.length;omega) c k v)).trans (lO _ (b+1) false)).mono a1
theorem uQ {f:bZ→bZ} {p:bZ} (a: ∀q,q.cF.length=p.cF.length→Kept 2 q (f q)): ∀n,Kept (2*n) p (iter f n p)
 | 0=>Kept.refl p
 | n+1=>((uQ a n).trans (a _ (uQ a n).rows)).mono aa
theorem p3 (p:bZ) (x y n:Int) {f:bZ→Nat→Nat→bZ} (c: ∀q a b,a<q.cF.length→b<q.cF.length→Kept 2 q (f q a b)):Kept (2*p.cF.length) p (hK p x y n f):=by
 unfold hK;split
 rename_i h;obtain⟨⟨d,e⟩,⟨g,i⟩,j⟩:=h;exact (uQ (λq k=>c q _ _ aa aa) _).mono aa;exact (Kept.refl p).mono aa
theorem AR (w:World) (p:bq) (F:bb w (bB p)) (z:cV p.r) (A:cZ p.abs) (Zb:p.be.l.length≤1152921500000) (x y n an aM:Int) (f:bZ→Nat→Nat→bZ) (G: ∀q a b,a<q.cF.length→b<q.cF.length→Kept 2 q (f q a b)) (j:FuncId) (H:ad prog j)
 (I: ∀w' (q:bq) (a b:Nat),bb w' (bB q)→cV q.r→cZ q.abs→q.be.l.length≤1152921504600→a<q.s.l.length→b<q.s.l.length→Calls prog j [ptr q.g,.int .i64 (a:Int),.int .i64 (b:Int),.agg [.int .i64 an,.int .i64 aM].toArray].toArray w' (hI q (f q.abs a b) w')):
 Calls prog 379 [ptr p.g,.int .i64 x,.int .i64 y,.int .i64 n,.func (.func j) [ptr p.g].toArray [].toArray,.agg [.int .i64 an,.int .i64 aM].toArray].toArray w (hI p (hK p.abs x y n f) w):=by
 have J:=A.rows
 have o:p.abs.cF.length=p.s.l.length:=by simp[bq.abs,bW]
 rw[o] at J
 refine bI func379 ntmps379 F ?_;refine ah ?_;intro t Zc Zd;refine aS ?_;refine hC (λb:Bool=>[(0,ptr p.g),(1,.int .i64 x),(2,.int .i64 y),(3,.int .i64 n),(4,.func (.func j) [ptr p.g].toArray [].toArray),(11,ptr t),(26,.bool b)]) (λ_=>af w (aB (bB p)) (aD t [.int .i64 an,.int .i64 aM] 99::bB p)) (λb=>(b=true)= ¬((0≤x∧x<p.s.l.length)∧(0≤y∧y<p.s.l.length)∧x≤y)) ?_ ?_;refine ah ?_;refine ao rfl si rfl (λk m=>sD k p (m.has bF) x) ?_;refine ar ?_;refine aV 16 rfl (λK=>?_) (λK=>?_);refine bo ?_;refine dr _ ?_ (hE rfl rfl rfl rfl rfl rfl rfl) (λ_ h=>h);simp at *
 omega
 refine ay ?_;refine ao rfl si rfl (λk m=>sD k p (m.has bF) y) ?_;refine aS ?_;refine aV 22 rfl (λaH=>?_) (λaH=>?_);refine ay ?_;refine dr _ ?_ (hE rfl rfl rfl rfl rfl rfl rfl) (λ_ h=>h);simp at *
 omega
 refine aK ?_;refine dr _ ?_ (hE rfl rfl rfl rfl rfl rfl rfl) (λ_ h=>h);simp at *
 omega
 intro b B;refine aq ?_;refine b2 rfl (λe=>?_) (λe=>?_);rw[B] at e
 refine ah ?_;intro L u;exact aN p ⟨rfl,z,by rw[hK,ag (by rw[o];exact e)]⟩ u;have C: ¬(b=true):=by rw[e];decide
 rw[B,Classical.not_not] at C
 have e:=C
 obtain⟨⟨M,O⟩,⟨P,Q⟩,R⟩:=e;obtain⟨a,rfl⟩ : ∃a:Nat,x=(a:Int):=⟨x.toNat,aa⟩;obtain⟨d,rfl⟩ : ∃d:Nat,y=(d:Int):=⟨y.toNat,aa⟩;refine cE ?_;obtain⟨N,D⟩ : ∃N:Nat,min (max 0 n) ((d:Int) - (a:Int)+1)=(N:Int):=⟨(min (max 0 n) ((d:Int) - (a:Int)+1)).toNat,aa⟩;refine b3 (ι:=Nat × bq) (λi=>[(0,ptr p.g),(1,.int .i64 (a:Int)),(2,.int .i64 (d:Int)),(4,.func (.func j) [ptr p.g].toArray [].toArray),(11,ptr t),(33,.int .i64 (N:Int)),(34,.int .i64 (i.1 :Int))]) (λi=>af w (aB (bB p)) (aD t [.int .i64 an,.int .i64 aM] 99::bB i.2)) (λi=>i.1≤N∧Qw p.g (iter (λq=>f q a d) i.1 p.abs) i.2) (λi=>N - i.1) ?_ ?_;exact λw' S=>⟨(0,p),⟨bN _,⟨rfl,z,rfl⟩⟩,by rw[D];exact (hE rfl rfl rfl rfl rfl rfl rfl),S⟩
 rintro⟨i,q⟩ ⟨hi,c⟩;dsimp only at hi c ⊢
 have v:=uQ (p:=p.abs) (f:=λq=>f q a d) (λq c=>G q a d aa aa) i
 have Ze:q.s.l.length=p.s.l.length:=by have:=v.rows;rw[←c.abs,o] at this;simpa [bq.abs,bW] using this
 have Zf:q.be.l.length≤p.be.l.length+2*i:=by have:=v.be;rw[←c.abs] at this;exact this
 have T:cZ q.abs:=by rw[c.abs];exact v.wf A
 refine al ?_;refine aj (λU=>?_) (λU=>?_);refine aJ ?_;refine lI (l0:=bB q) (first:=[ptr p.g]) (cap:=[]) ae rfl rfl H rfl (λk m=>by have E:=I k q a d (m.bp ae) c.r T aa aa aa;rw[c.g] at E;exact E) (λV W=>?_);refine aC ?_;obtain⟨X,Y,Z⟩:=W;exact bg (i+1,V) ⟨by show i+1≤N;omega,⟨X.trans c.g,Y,by rw[Z,c.abs];rfl⟩⟩ (by show N - (i+1)<N - i;omega) bO (λ_ h=>h.aw ae);refine ay ?_;intro L u;have Za:i=N:=by omega
 subst Za;refine aN q ⟨c.g,c.r,?_⟩ u;rw[hK,ax (by rw[o];exact⟨⟨M,O⟩,⟨P,Q⟩,R⟩),D];exact c.abs
theorem Gm (w:World) (p:bq) (c:bb w (bB p)) (d:cV p.r) (e:cZ p.abs) (f:p.be.l.length≤1152921500000) (x y n an aM:Int):
 Calls prog 310 [ptr p.g,.int .i64 x,.int .i64 y,.int .i64 n,.agg [.int .i64 an,.int .i64 aM].toArray].toArray w (hI p (hK p.abs x y n (λq a b=>mD q a b an aM)) w):=by
 refine bI func310 ntmps310 c ?_;refine ah ?_;intro C D E;refine aR ?_;refine aZ (l0:=bB p) ae rfl zV rfl (λh i=>AR h p (i.bp ae) d e f x y n an aM (λq a b=>mD q a b an aM) (λq a b j k=>uP q j k an aM) _ Ou (λw' q a b m o s t u v=>QA w' q m o s t a b u v an aM)) (λz A=>?_);refine ar ?_;intro F B;exact aN z A B
theorem QB (w:World) (p:bq) (c:bb w (bB p)) (d:cV p.r) (e:cZ p.abs) (f:p.be.l.length≤1152921500000) (x y n an aM:Int):
 Calls prog 331 [ptr p.g,.int .i64 x,.int .i64 y,.int .i64 n,.agg [.int .i64 an,.int .i64 aM].toArray].toArray w (hI p (hK p.abs x y n (λq a b=>sM q a b an aM)) w):=by
 refine bI func331 ntmps331 c ?_;refine ah ?_;intro C D E;refine aR ?_;refine aZ (l0:=bB p) ae rfl zV rfl (λh i=>AR h p (i.bp ae) d e f x y n an aM (λq a b=>sM q a b an aM) (λq a b j k=>xt q j k an aM) _ E2 (λw' q a b m o s t u v=>Gi w' q m o s t a b u v an aM)) (λz A=>?_);refine ar ?_;intro F B;exact aN z A B
theorem AS (w:World) (p:bq) (c:bb w (bB p)) (d:cV p.r) (e:cZ p.abs) (f:p.be.l.length≤1152921500000) (x y n an aM:Int):
 Calls prog 312 [ptr p.g,.int .i64 x,.int .i64 y,.int .i64 n,.agg [.int .i64 an,.int .i64 aM].toArray].toArray w (hI p (hK p.abs x y n (λq a b=>oJ q a b an aM)) w):=by
 refine bI func312 ntmps312 c ?_;refine ah ?_;intro C D E;refine aR ?_;refine aZ (l0:=bB p) ae rfl zV rfl (λh i=>AR h p (i.bp ae) d e f x y n an aM (λq a b=>oJ q a b an aM) (λq a b j k=>q8 q j k an aM) _ Ov (λw' q a b m o s t u v=>Qx w' q m o s t a b u v an aM)) (λz A=>?_);refine ar ?_;intro F B;exact aN z A B
def uR (p:bZ):bZ:={ p with jA:=[] }
theorem Gn (p:bZ):Kept 0 p (uR p):=⟨λh=>⟨h.cols,h.rows,h.wide,by simp[uR],by have:=h.room;simp[uR];omega⟩,rfl,rfl,rfl,cd _⟩
theorem Gp (p:bZ):Kept 1 p (sN p):=by
 unfold sN;split
 exact (Kept.refl p).mono aa;exact (((Gn p).trans (p2 _ 2 0 p.jA.length)).trans (lO _ 0 false)).mono aa
theorem Gq {f:List bh→List bh} (h: ∀L,(f L).length=L.length) (b: ∀L,(∀c∈L,c.more.length≤32)→ ∀c∈f L,c.more.length≤32) {L:List bh} (d: ∀c∈L,c.more.length≤32): ∀c∈cR f L,c.more.length≤32:=by
 have a: ∀c:bh,c.more.length≤32→(gO c.at_).more.length≤32:=λ_ _=>bN _
 exact xk a (b _ (xk a d))
theorem sO (p:bZ) (y:Int) {f:List bh→List bh} (h: ∀L,(f L).length=L.length) (b: ∀L,(∀c∈L,c.more.length≤32)→ ∀c∈f L,c.more.length≤32):Kept 0 p (nu p y (cR f)):=
 Gk p y (λ_ r a=>⟨by simp only[AC h];exact a.1,Gq h b a.2⟩)
theorem AT {L:List bh} {p k:Nat} {an aM:Int} (h: ∀c∈L,c.more.length≤32): ∀c∈fm L p k an aM,c.more.length≤32:=by
 intro c a;unfold fm at a
 simp only[cX] at a
 rcases a with (a | a) | a
 exact h c (iu a);rw[mV a];exact bN _
 exact h c (lC a)
theorem Gr {L:List bh} {p q m:Nat} (h: ∀c∈L,c.more.length≤32): ∀c∈lN L p q m,c.more.length≤32:=by
 intro c a;unfold lN at a
 simp only[cX] at a
 rcases a with (a | a) | a
 exact h c (iu a);exact h c (lC (iu a));exact h c (lC a)
theorem uS {α:Type} {l:List α} {k:Nat} {a x:α} (h:x∈l.set k a):x∈l∨x=a:=by
 rcases rP h with h | h
 exact .inl h;exact .inr h
theorem uT (p:bZ) (y x r:Int) (a:hF):Kept 0 p (uN p y x r a):=sO p y (λL=>q2 L x r a) (λL h c b=>by
 unfold jz at b
 split at b
 exact h c b;split at b
 rcases uS b with b | rfl
 rcases uS b with b | rfl
 exact h c b;exact bN _;exact bN _;rcases uS b with b | rfl
 exact h c b;exact bN _)
theorem AU {L:List bh} {q:Nat} {m:List UInt8} (b:m.length≤32) (h: ∀c∈L,c.more.length≤32): ∀c∈hj L q m,c.more.length≤32:=by
 intro c a;unfold hj at a
 split at a
 rcases uS a with a | rfl
 exact h c a;exact b;exact h c a
theorem Gs (p:bZ) (y x r:Int):Kept 0 p (xl p y x r):=sO p y (λL=>fB L x r) (λL h c a=>by
 unfold ez at a
 split at a
 exact h c a;split at a
 exact h c a;split at a
 exact h c a;split at a
 exact h c a;rename_i b;refine AU aa (λd ak=>?_) c a;split at ak
 exact AU aa h d ak;split at ak
 exact AU aa h d ak;exact h d ak)
theorem Gt (p:bZ) (y:Int):Kept 0 p (xm p y):=sO p y xi (λL h c a=>by
 unfold mC at a
 split at a
 rcases uS a with a | rfl
 exact h c a;exact bN _;exact h c a)
theorem xu (p:bZ) (y x n k v:Int):Kept 0 p (uO p y x n k v):=sO p y (λL=>sG L x n k v) (λL h c a=>by
 unfold insertC at a
 split at a
 exact h c a;exact AT (Gr h) c a)
theorem Gu (p:bZ) (y x n k v:Int):Kept 0 p (AG p y x n k v):=sO p y (λL=>sH L x n k v) (λL h c a=>by
 unfold jS at a
 split at a
 exact h c a;exact AT (Gr h) c a)
theorem uU (p:bZ) (y a b k v:Int):Kept 0 p (nu p y (cR (λL=>kt L a b k v))):=sO p y (λL=>xj L a b k v) (λL h c d=>by
 unfold kt at d
 split at d
 exact AT h c d;exact h c d)
theorem oK (p:bZ) (y a b k v:Int):Kept 0 p (eraseP p y a b k v):=by
 unfold eraseP;split
 dsimp only;split
 split
 exact ((uU p y a b k v).trans (lO _ (y+1) false)).trans (lO _ y false);exact (uU p y a b k v).trans (lO _ (y+1) false);exact uU p y a b k v;exact Kept.refl p
theorem QC (w:World) (p:bq) (q:bb w (bB p)) (c:cV p.r) (s:cZ p.abs) (K:p.be.l.length≤1152921504600):
 Calls prog 325 [ptr p.g].toArray w (hI p (sN p.abs) w):=by
 have e:=q7 c
 have L:=c.n
 refine bI func325 ntmps325 q ?_;refine aS ?_;refine ao rfl ou rfl (λa b=>oF a p (b.has aQ) ((b.has bF: (aT (b9 p.r)).pred a) p.r.an av)) ?_;refine ah ?_;refine aj (λf=>?_) (λf=>?_);refine ah ?_;intro t h;exact aP.bP p ⟨rfl,c,by rw[sN,ax (by rw[e,fI] at f;omega)]⟩ rfl h;refine aJ ?_;refine k5 (lc:=b9 p.r) cv ?_;refine cI (λa b=>Gc a p.r b c) (λj u=>?_);obtain⟨v,y,z,A⟩:=u;refine ha (H':=af w (aB (bB p)) (bB (ih p j))) ?_ (Sub.refl _) (λx B=>Qz v B ae);have k: (ih p j).abs=uR p.abs:=by simp only[bq.abs,ih,uR,A,y]
 refine aZ (l0:=bB (ih p j)) ae rfl pC rfl (λa b=>by have d:=pW a (ih p j) (b.bp ae) z (by show p.be.l.length≤_;omega) 2 0 p.r.n;exact d) (λi C=>?_);obtain⟨m,D,o⟩:=C;have E:cZ i.abs:=by rw[o,k];exact p1 ((Gn p.abs).wf s) _ _ _
 refine aS ?_;refine aZ (l0:=bB i) ae rfl pG rfl (λa b=>by have d:=pV a i (b.bp ae) D E 0;rw[m] at d;exact d) (λF G=>?_);refine ar ?_;intro t h;obtain⟨H,I,J⟩:=G;exact aN F ⟨H.trans m,I,by rw[J,o,k,e,sN,ag (by rw[e,fI] at f;omega)];rfl⟩ h
theorem uV (w:World) (p:bq) (E:bb w (bB p)) (B:cV p.r) (q:cZ p.abs) (y a b an aM:Int) (Q: -1000000≤y∧y≤1000000):
 Calls prog 225 [ptr p.g,.int .i64 y,.int .i64 a,.int .i64 b,.agg [.int .i64 an,.int .i64 aM].toArray].toArray w (hI p (eraseP p.abs y a b an aM) w):=by
 have i:p.abs.cF.length=p.s.l.length:=by simp[bq.abs,bW]
 have k:p.abs.cols=p.cols:=rfl
 refine bI func225 ntmps225 E ?_;refine ah ?_;intro R S T;refine aq ?_;intro U V W;refine aq ?_;intro X Y Z;refine aC ?_;refine ao rfl si rfl (λe c=>sD e p (c.has hD) y) ?_;refine ah ?_;refine b2 rfl (λt=>?_) (λt=>?_);simp only[bU] at t
 refine ah ?_;intro m d;exact aN p ⟨rfl,B,by rw[eraseP,ag (by rw[i];omega)]⟩ d;simp only[bU] at t
 refine aC ?_;refine aZ (ι:=bq) (l0:=bB p) ae rfl sj rfl (λe c=>sK e p (c.bp ae) B q y (cR (λL=>kt L a b an aM)) _ [ptr _,ptr _,ptr _] NX (λw' g F u G H=>Qa w' _ _ _ a b an aM (u.dD (c.has cp) (c.apart ae cp)) (u.dD (c.has bF) (c.apart ae bF)) (u.dD (c.has aQ) (c.apart ae aQ)) F _ _ _ _ H (oH q G).1)) (λf I=>?_);refine ah ?_;obtain⟨j,v,h⟩:=I;have C:cZ f.abs:=by rw[h];exact (uU p.abs y a b an aM).wf q
 have Za:f.cols=p.cols:=by have:=aX bZ.cols h;rw[(uU p.abs y a b an aM).cols] at this;exact this
 rw[←j];refine bG [0,1,2,3,4,5,6,7,8,9,10,11,12,13] 0 [[]] ?_;refine aC ?_;refine my 24 rfl (λaH=>?_) (λaH=>?_);have J:=aY aH
 refine aR ?_;refine aj (λK=>?_) (λK=>?_);refine ay ?_;refine aZ (l0:=bB f) ae rfl pG rfl (λe c=>by have n:=pV e f (c.bp ae) v C (y+1);exact n) (λo M=>?_);obtain⟨x,D,z⟩:=M;have N:cZ o.abs:=by rw[z];exact AP C _ _
 refine aK ?_;refine aj (λO=>?_) (λO=>?_);refine ah ?_;refine aZ (l0:=bB o) ae rfl pG rfl (λe c=>by have n:=pV e o (c.bp ae) D N y;rw[x] at n;exact n) (λP A=>?_);refine ar ?_;intro m d;exact aN P ⟨(A.1.trans x).trans j,A.2.1,by rw[A.2.2,z,h,eraseP,ax (by rw[i];omega)];dsimp only;rw[ax (by rw[k];omega),ax aa]⟩ d;refine ar ?_;intro m d;exact aN o ⟨x.trans j,D,by rw[z,h,eraseP,ax (by rw[i];omega)];dsimp only;rw[ax (by rw[k];omega),ag aa]⟩ d;refine ar ?_;intro m d;exact aN f ⟨j,v,by rw[h,eraseP,ax (by rw[i];omega)];dsimp only;rw[ag (by rw[k];omega)]⟩ d;have J:=a8 aH
 refine bH ?_;intro m d;exact aN f ⟨j,v,by rw[h,eraseP,ax (by rw[i];omega)];dsimp only;rw[ag (by rw[k];omega)]⟩ d
end Go.Proofs.YtkeokgcdnfjaaaaGreatDoor.Mq
namespace Go.Proofs.YtkeokgcdnfjaaaaGreatDoor.Mq.cK
open Go Go.RowKit Go.Proofs
def lP (ws:List Nat) (x:Nat):Bool:=(ws.getD (x/64) 0).testBit (x%64)
def b_ (bs:List Bool) (x:Nat):Bool:=bs.getD x false
def mE (bs:List Bool) (x:Int) (a:Bool):List Bool:=if 0≤x∧x<(bs.length:Int) then bs.set x.toNat a else bs
def jg (bs:List Bool) (n:Nat):List Bool:=(List.range n).map (λx=>if x<bs.length then b_ bs x else decide (x%8=0))
def jh (bs:List Bool) (x:Nat):Nat:=((List.range bs.length).find? (λy=>decide (x<y) && b_ bs y)).getD (bs.length - 1)
def iF (bs:List Bool) (x:Nat):Nat:=((List.range x).reverse.find? (b_ bs)).getD 0
def iter (f:Nat→Nat):Nat→Nat→Nat
 | 0,x=>x
 | k+1,x=>f (iter f k x)
def xv (n:Nat) (x:Int):Nat:=(max 0 (min x ((n:Int) - 1))).toNat
def ny (f:Nat→Nat) (len:Nat) (x n:Int):Nat:=iter f (min (max 0 n) (len:Int)).toNat (xv len x)
theorem p4 {bs:List Bool} {x:Nat} (h:bs.length≤x):b_ bs x=false:=by rw[b_,fy,kg h];rfl
theorem AV {bs:List Bool} {x:Nat} (h:b_ bs x=true):x<bs.length:=by
 unfold b_ at h
 rcases e1 x bs.length with a | a
 exact a;have:=p4 a;unfold b_ at this;rw[this] at h;cases h
theorem Gv {bs:List Bool} {x:Nat} (h:x<bs.length):bs[x]? = some (b_ bs x):=by
 rw[b_,fy,bE h];rfl
theorem sP {a b:List Bool} (d:a.length=b.length) (h: ∀x,x<a.length→b_ a x=b_ b x):a=b:=by
 apply ml
 intro i;rcases e1 i a.length with c | c
 rw[Gv c,Gv (d▸c),h i c];rw[kg c,kg (d▸c)]
theorem mF (bs:List Bool) (x:Int) (a:Bool): (mE bs x a).length=bs.length:=by unfold mE;split <;> simp
theorem p5 (bs:List Bool) (n:Nat): (jg bs n).length=n:=by simp[jg]
theorem xw (bs:List Bool) (x:Int) (a:Bool) (y:Nat) (c:y<bs.length):b_ (mE bs x a) y=if x=(y:Int) then a else b_ bs y:=by
 unfold mE;split
 rename_i h;unfold b_;rw[fy,n3];by_cases b:x=(y:Int)
 subst b;simp[c]
 rw[ag b,ag aa,fy];rename_i h;rw[ag aa]
theorem QD (bs:List Bool) (n y:Nat) (a:y<n):b_ (jg bs n) y=if y<bs.length then b_ bs y else decide (y%8=0):=by
 unfold jg b_;rw[fy,eJ,rM a];rfl
theorem Gw {bs:List Bool} {x y:Nat} (c:x<y) (a:b_ bs y=true) (d: ∀z,x<z→z<y→b_ bs z=false):jh bs x=y:=by
 have e:=AV a
 unfold jh;have: (List.range bs.length).find? (λy=>decide (x<y) && b_ bs y)=some y:=by
  rw[List.find?_range_eq_some];refine⟨by simp[c,a],by simpa using e,λz f=>?_⟩;by_cases b:x<z
  simp[d z b f]
  simp[b]
 rw[this];rfl
theorem Gx {bs:List Bool} {x:Nat} (b: ∀z,x<z→z<bs.length→b_ bs z=false):jh bs x=bs.length - 1:=by
 unfold jh;have: (List.range bs.length).find? (λy=>decide (x<y) && b_ bs y)=none:=by
  rw[List.find?_eq_none];intro z c;by_cases a:x<z
  simp[b z a (by simpa using c)]
  simp[a]
 rw[this];rfl
theorem least {p:Nat→Bool} {n:Nat} (h:p n=true): ∃m,m≤n∧p m=true∧ ∀z,z<m→p z=false:=by
 induction n using Nat.strongRecOn with
 | _ n e=>
  by_cases d: ∃z,z<n∧p z=true
  obtain⟨z,f,g⟩:=d;obtain⟨m,a,b,c⟩:=e z f g;exact⟨m,aa,b,c⟩;exact⟨n,cd _,h,λz i=>by
   cases ai:p z with
   | false=>rfl
   | true=>exact absurd ⟨z,i,ai⟩ d⟩
theorem QE (bs:List Bool) (x:Nat): (x<jh bs x∧b_ bs (jh bs x)=true∧ ∀z,x<z→z<jh bs x→b_ bs z=false)∨((∀z,x<z→b_ bs z=false)∧jh bs x=bs.length - 1):=by
 by_cases h: ∃z,x<z∧b_ bs z=true
 obtain⟨z,d,e⟩:=h;obtain⟨m,_,b,f⟩:=least (p:=λz=>decide (x<z) && b_ bs z) (n:=z) (by simp[d,e]);simp only[dY,e3] at b
 have a: ∀z,x<z→z<m→b_ bs z=false:=λz a g=>by
  have:=f z g
  simpa [a] using this
 have:=Gw b.1 b.2 a
 left
 rw[this];exact⟨b.1,b.2,a⟩;right
 have a: ∀z,x<z→b_ bs z=false:=λz c=>by
  cases ai:b_ bs z with
  | false=>rfl
  | true=>exact absurd ⟨z,c,ai⟩ h
 exact⟨a,Gx λz c _=>a z c⟩
theorem QF {bs:List Bool} {x y:Nat} (d:y<x) (e:b_ bs y=true) (c: ∀z,y<z→z<x→b_ bs z=false):iF bs x=y:=by
 unfold iF;have f: ∀x,y<x→(∀z,y<z→z<x→b_ bs z=false)→(List.range x).reverse.find? (b_ bs)=some y:=by
  intro x;induction x with
  | zero=>intro h;omega
  | succ x g=>
   intro d c;rw[List.range_succ,ub,List.reverse_singleton,rR,List.find?_cons];rcases e1 y x with h | h
   rw[c x h aa];exact g h λz a b=>c z a aa
   obtain rfl:y=x:=by omega
   rw[e]
 rw[f x d c];rfl
theorem QG {bs:List Bool} {x:Nat} (b: ∀z,z<x→b_ bs z=false):iF bs x=0:=by
 unfold iF;have: (List.range x).reverse.find? (b_ bs)=none:=by
  rw[List.find?_eq_none];intro z a;simp only[List.mem_reverse,List.mem_range] at a
  simp[b z a]
 rw[this];rfl
theorem QH (bs:List Bool) (x:Nat):iF bs (x+1)=if b_ bs x then x else iF bs x:=by
 unfold iF;rw[List.range_succ,ub,List.reverse_singleton,rR,List.find?_cons];cases b_ bs x <;> simp
theorem AW (bs:List Bool): ∀x,iF bs x≤x - 1
 | 0=>by simp[iF]
 | x+1=>by
  rw[QH];have:=AW bs x
  split <;> omega
theorem Gy {bs:List Bool} (x:Nat) (h:0<bs.length):jh bs x<bs.length:=by
 rcases QE bs x with a | a
 exact AV a.2.1;omega
theorem uW {f:Nat→Nat} {len:Nat} (a: ∀x,x<len→f x<len): ∀(k x:Nat),x<len→iter f k x<len
 | 0,_,h=>h
 | k+1,x,h=>a _ (uW a k x h)
structure cS (ws:List Nat) (bs:List Bool):Prop where
 lt: ∀w∈ws,w<2 ^ 64
 ee:bs.length≤64*ws.length
 bits: ∀x,lP ws x=b_ bs x
theorem xx {ws:List Nat} {q w s:Nat} (h:ws[q]? = some w) (c:s<64):lP ws (64*q+s)=w.testBit s:=by
 have a: (64*q+s)/64=q:=by omega
 have b: (64*q+s)%64=s:=by omega
 rw[lP,a,b,fy,h];rfl
theorem Gz {w s:Nat} (h:w<2 ^ 64) (k:s<64): (w/2 ^ s=0→ ∀i,s≤i→w.testBit i=false)∧
 (w/2 ^ s≠0→s+Lib.ctz 64 (w/2 ^ s)<64∧w.testBit (s+Lib.ctz 64 (w/2 ^ s))=true∧ ∀i,s≤i→i<s+Lib.ctz 64 (w/2 ^ s)→w.testBit i=false):=by
 have ak: ∀j,(w/2 ^ s).testBit j=w.testBit (s+j):=λj=>by rw[Nat.testBit_div_two_pow,Nat.add_comm]
 constructor
 intro a i hi;have:=ak (i - s)
 rw[a,Nat.zero_testBit,show s+(i - s)=i by omega] at this
 exact this.symm;intro a;have e:w/2 ^ s<2 ^ 64:=qB (Nat.div_le_self _ _) h
 obtain⟨m,f,_⟩:=Lib.ctzFrom_spec 64 (w/2 ^ s) (Nat.pos_of_ne_zero a) e;have g:Lib.ctz 64 (w/2 ^ s)=Lib.ctzFrom 64 (w/2 ^ s):=by
  unfold Lib.ctz;rw[ag a]
 rw[g];generalize Lib.ctzFrom 64 (w/2 ^ s)=t at *
 have d: ∀j,(w/2 ^ s).testBit j=(decide (t≤j) && (2*m+1).testBit (j - t)):=λj=>by
  rw[f,Nat.testBit_two_pow_mul]
 have c:w.testBit (s+t)=true:=by
  rw[←ak,d];simp[Nat.testBit_zero]
 refine⟨?_,c,λi b l=>?_⟩;rcases e1 (s+t) 64 with b | b
 exact b;rw[ue (pk h (qD a1 b))] at c
 cases c
 have:=ak (i - s)
 rw[d,show s+(i - s)=i by omega] at this
 rw[←this];simp;omega
theorem GA {w s:Nat} (h:w<2 ^ 64) (l:s<64): (w*2 ^ (63 - s)%2 ^ 64=0→ ∀i,i≤s→w.testBit i=false)∧
 (w*2 ^ (63 - s)%2 ^ 64≠0→64≤s+Lib.bitLen (w*2 ^ (63 - s)%2 ^ 64)∧Lib.bitLen (w*2 ^ (63 - s)%2 ^ 64)≤64∧w.testBit (s+Lib.bitLen (w*2 ^ (63 - s)%2 ^ 64) - 64)=true∧
  ∀i,s+Lib.bitLen (w*2 ^ (63 - s)%2 ^ 64) - 64<i→i≤s→w.testBit i=false):=by
 have a: ∀i,i<64→(w*2 ^ (63 - s)%2 ^ 64).testBit i=(decide (63 - s≤i) && w.testBit (i - (63 - s))):=λi hi=>by
  rw[Nat.testBit_mod_two_pow,qC,Nat.testBit_two_pow_mul];simp[hi]
 have c:w*2 ^ (63 - s)%2 ^ 64<2 ^ 64:=iw _ a1
 constructor
 intro b i hi;have:=a (i+(63 - s)) aa
 rw[b,Nat.zero_testBit,show i+(63 - s) - (63 - s)=i by omega] at this
 simpa using this.symm
 intro b;obtain⟨m,g,j⟩:=Lib.bitLenAux_bounds 64 _ c b;have d:=Lib.bitLen_le _ 64 a1 c
 unfold Lib.bitLen at d ⊢
 generalize Lib.bitLenAux 64 (w*2 ^ (63 - s)%2 ^ 64)=L at *
 generalize w*2 ^ (63 - s)%2 ^ 64=v at *
 have k:v.testBit (L - 1)=true:=by
  rw[Nat.testBit_eq_decide_div_mod_eq];have:v/2 ^ (L - 1)=1:=by
   apply Nat.div_eq_of_lt_le
   simpa using g
   have:2 ^ L=2*2 ^ (L - 1):=by rw[←Nat.pow_succ'];congr 1;omega
   omega
  rw[this];rfl
 have e:=a (L - 1) aa
 rw[k] at e
 have f:=e.symm
 simp only[dY,e3] at f
 refine⟨aa,d,?_,λi n o=>?_⟩;rw[show s+L - 64=L - 1 - (63 - s) by omega];exact f.2
 have:=a (i+(63 - s)) aa
 rw[show i+(63 - s) - (63 - s)=i by omega,ue (pk j (qD a1 aa))] at this
 simpa using this.symm
theorem GB {w s:Nat} (h:w<2 ^ 64) (a:s<64):w ||| 2 ^ s<2 ^ 64:=oa h (qE a1 a)
theorem cS.set {ws:List Nat} {bs:List Bool} (h:cS ws bs) {x w:Nat} (c:ws[x/64]? = some w) (j:x<bs.length):cS (ws.set (x/64) (w ||| 2 ^ (x%64))) (mE bs (x:Int) true):=by
 have f:=h.lt w (c8 c)
 have g:x/64<ws.length:=(cU.1 c).1
 refine⟨λu d=>?_,by rw[mF,fT];exact h.ee,λy=>?_⟩;rcases rP d with d | rfl
 exact h.lt u d;exact GB f (iw _ a1);have i:lP (ws.set (x/64) (w ||| 2 ^ (x%64))) y=(lP ws y || decide (x=y)):=by
  unfold lP;rw[fy,n3];by_cases a:x/64=y/64
  rw[ax a,ax g,rT,Nat.testBit_or,Nat.testBit_two_pow,fy,←a,c,rT];congr 1
  rw[gG];omega
  rw[ag a,fy,cm (by rintro rfl;exact a rfl),Bool.or_false]
 rw[i,h.bits];rcases e1 y bs.length with b | b
 rw[xw bs x true y b];by_cases e:x=y
 subst e;simp
 rw[cm e,ag aa,Bool.or_false];rw[p4 b,p4 (by rw[mF];exact b),cm aa];rfl
theorem cS.QI {ws:List Nat} {bs:List Bool} (h:cS ws bs) {x w:Nat} (c:ws[x/64]? = some w) (l:x<bs.length):cS (ws.set (x/64) (w &&& (18446744073709551615 - 2 ^ (x%64)))) (mE bs (x:Int) false):=by
 have f:=h.lt w (c8 c)
 have g:x/64<ws.length:=(cU.1 c).1
 have ai:2 ^ (x%64)<2 ^ 64:=qE a1 (iw _ a1)
 refine⟨λu d=>?_,by rw[mF,fT];exact h.ee,λy=>?_⟩;rcases rP d with d | rfl
 exact h.lt u d;exact qB Nat.and_le_left f;have i:lP (ws.set (x/64) (w &&& (18446744073709551615 - 2 ^ (x%64)))) y=(lP ws y && !decide (x=y)):=by
  unfold lP;rw[fy,n3];by_cases a:x/64=y/64
  have j:18446744073709551615 - 2 ^ (x%64)=2 ^ 64 - (2 ^ (x%64)+1):=by omega
  have k:y%64<64:=iw _ a1
  rw[ax a,ax g,rT,Nat.testBit_and,j,Nat.testBit_two_pow_sub_succ ai,Nat.testBit_two_pow,fy,←a,c,rT,b1 k,Bool.true_and];congr 2
  rw[gG];omega
  rw[ag a,fy,cm (by rintro rfl;exact a rfl),Bool.not_false,qt]
 rw[i,h.bits];rcases e1 y bs.length with b | b
 rw[xw bs x false y b];by_cases e:x=y
 subst e;simp
 rw[cm e,ag aa,Bool.not_false,qt];rw[p4 b,p4 (by rw[mF];exact b)];rfl
theorem cS.e9 (m n:Nat) (h:n≤64*m):cS (List.replicate m 0) (List.replicate n false):=by
 refine⟨λw a=>by rw[mV a];decide,by simpa using h,λx=>?_⟩;have b: (List.replicate m 0).getD (x/64) 0=0:=by
  rw[fy,rN];split <;> rfl
 have c:b_ (List.replicate n false) x=false:=by
  rw[b_,fy,rN];split <;> rfl
 rw[lP,b,c,Nat.zero_testBit]
theorem cS.ow {ws:List Nat} {bs:List Bool} (h:cS ws bs):cS (ws++[0]) bs:=by
 refine⟨λw hw=>?_,by have:=h.ee;simp;omega,λx=>?_⟩;rcases cX.1 hw with hw | hw
 exact h.lt w hw;obtain rfl:w=0:=by simpa using hw
 decide
 rw[←h.bits];unfold lP;rw[fy,fy];rcases e1 (x/64) ws.length with a | a
 rw[mW a];rw[kS a,kg a];rcases gF (x/64 - ws.length) with b | b
 rw[b];rfl
 rw[kg (by simp only[iS];omega)]
theorem cS.cut {ws:List Nat} {bs:List Bool} (h:cS ws bs) (n:Nat) (b:n≤64*ws.length) (c: ∀y,n≤y→b_ bs y=false):cS ws ((List.range n).map (b_ bs)):=by
 refine⟨h.lt,by simpa using b,λx=>?_⟩;rw[h.bits];rcases e1 x n with a | a
 rw[b_,b_,fy (l:=List.map _ _),eJ,rM a];rfl
 rw[c x a,p4 (by simpa using a)]
theorem cS.QJ {ws:List Nat} {bs:List Bool} (h:cS ws bs) {a x w:Nat} (b:ws[x/64]? = some w) (q:a<x) (g: ∀z,a<z→z<x→b_ bs z=false) (j:w/2 ^ (x%64)≠0):
 jh bs a=x+Lib.ctz 64 (w/2 ^ (x%64))∧x+Lib.ctz 64 (w/2 ^ (x%64))<bs.length∧Lib.ctz 64 (w/2 ^ (x%64))<64:=by
 have k:=h.lt w (c8 b)
 have l:x%64<64:=iw _ a1
 obtain⟨m,n,o⟩:=(Gz k l).2 j;generalize Lib.ctz 64 (w/2 ^ (x%64))=t at *
 have c: ∀i,i<64→b_ bs (64*(x/64)+i)=w.testBit i:=λi hi=>by rw[←h.bits,xx b hi]
 have e:x+t=64*(x/64)+(x%64+t):=by omega
 have d:b_ bs (x+t)=true:=by rw[e,c _ m];exact n
 refine⟨Gw aa d λz p r=>?_,AV d,aa⟩;rcases e1 z x with f | f
 exact g z p f;rw[show z=64*(x/64)+(z - 64*(x/64)) by omega,c _ aa];exact o _ aa aa
theorem cS.QK {ws:List Nat} {bs:List Bool} (h:cS ws bs) {a x w:Nat} (b:ws[x/64]? = some w) (d: ∀z,a<z→z<x→b_ bs z=false) (e:w/2 ^ (x%64)=0):
 ∀z,a<z→z<(x/64+1)*64→b_ bs z=false:=by
 have f:=h.lt w (c8 b)
 have g:x%64<64:=iw _ a1
 have i:=(Gz f g).1 e
 intro z j k;rcases e1 z x with c | c
 exact d z j c;rw[show z=64*(x/64)+(z - 64*(x/64)) by omega,←h.bits,xx b aa];exact i _ aa
theorem cS.QL {ws:List Nat} {bs:List Bool} (h:cS ws bs) {a x w:Nat} (b:ws[x/64]? = some w) (n:x<a) (e: ∀z,x<z→z<a→b_ bs z=false) (f:w*2 ^ (63 - x%64)%2 ^ 64≠0):
 (iF bs a:Int)=x - (64 - (Lib.bitLen (w*2 ^ (63 - x%64)%2 ^ 64):Int)):=by
 have g:=h.lt w (c8 b)
 have j:x%64<64:=iw _ a1
 obtain⟨o,p,k,l⟩:=(GA g j).2 f;generalize Lib.bitLen (w*2 ^ (63 - x%64)%2 ^ 64)=L at *
 have c: ∀i,i<64→b_ bs (64*(x/64)+i)=w.testBit i:=λi hi=>by rw[←h.bits,xx b hi]
 have:iF bs a=64*(x/64)+(x%64+L - 64):=by
  refine QF aa (by rw[c _ aa];exact k) λz q m=>?_
  rcases e1 x z with d | d
  exact e z d m;rw[show z=64*(x/64)+(z - 64*(x/64)) by omega,c _ aa];exact l _ aa aa
 omega
theorem cS.QM {ws:List Nat} {bs:List Bool} (h:cS ws bs) {a x w:Nat} (b:ws[x/64]? = some w) (d: ∀z,x<z→z<a→b_ bs z=false) (e:w*2 ^ (63 - x%64)%2 ^ 64=0):
 ∀z,64*(x/64)≤z→z<a→b_ bs z=false:=by
 have f:=h.lt w (c8 b)
 have g:x%64<64:=iw _ a1
 have i:=(GA f g).1 e
 intro z k j;rcases e1 x z with c | c
 exact d z c j;rw[show z=64*(x/64)+(z - 64*(x/64)) by omega,←h.bits,xx b aa];exact i _ aa
end Go.Proofs.YtkeokgcdnfjaaaaGreatDoor.Mq.cK
