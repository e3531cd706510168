/- part 15 of the proof -/
import Derived.Test.YtoghoobfpcadbaaGreatDoorQ14
import Derived.Lib.ItoaNum
import Derived.Lib.TrailingZeros
namespace Go.Proofs.YtoghoobfpcadbaaGreatDoor.Mq
open Go Go.RowKit Go.Proofs Tryz
theorem QP {h:List bS} {room:Int} {r:bS} (a: (h.length:Int)≤room): ((oN h room r).length:Int)≤room:=by
 unfold oN;split
 exact a;split <;> simp <;> omega
theorem Gr {h:List bS} {room:Int} {r x:bS} (a:x∈oN h room r):x∈h∨x=r:=by
 unfold oN at a
 split at a
 exact .inl a;rcases db.1 a with a | a
 split at a
 exact .inl (List.mem_of_mem_tail a);exact .inl a;exact .inr (ey.1 a)
theorem xC {p:b4} (h:c7 p):c7 (nE p):=by
 refine⟨h.cols,h.rows,h.wide,λr b=>?_,QP h.room.1,h.room.2⟩;rcases Gr b with b | rfl
 exact h.nC r b;cases c:p.cJ with
 | nil=>have:=h.rows.1;rw[c] at this;simp at this
 | cons a l=>exact h.wide a (by rw[c];simp)
def iq (p:bq) (r:dj):bq:={ p with r:=r }
theorem QQ {b w:World} {S:List Nat} {cs cs':List Chunk} {p:bq} {r:dj} (a:r.g=p.r.g) (c:af b S cs w) (d:aB cs [r.an,r.s.au,r.s.cj,p.an,p.s.au,p.s.cj,p.be.au] cs'):af b S (bD (iq p r)) w:=by
 have f:=c.aw d
 have aK:af b S (aU (cd r)::[p.an,p.s.au,p.s.cj,p.be.au]) w:=af.close' (l:=cd r) f
 have e:bD (iq p r)=[p.an,aU (cd r),p.s.au,p.s.cj,p.be.au]:=by
  simp only[bD,iq,bq.an,nx,a]
 rw[e];exact aK.aw ae
theorem QR (w:World) (p:bq) (Zo:a8 w (bD p)) (M:cU p.r) (N:c7 p.abs) (Zp:p.be.l.length≤1152921504600) (x y:Nat) (Zq:x<p.s.l.length) (Zr:y<p.s.l.length) (an aM:Int):
 Calls prog 396 [ptr p.g,.int .i64 (x:Int),.int .i64 (y:Int),.agg [.int .i64 an,.int .i64 aM].toArray].toArray w (hQ p (mH p.abs x y an aM) w):=by
 have Zs:=N.rows
 have O:=re M
 have Z4:=N.room
 have Z5:=M.n
 have Z6: (p.abs.jH.length:Int)=p.r.n:=by rw[O];rfl
 simp only[bq.abs,b0,cT] at Zs
 refine bC func396 ntmps396 Zo ?_;refine ah ?_;intro t Z7 Z8;refine aJ ?_;refine aj (λZt=>?_) (λZt=>?_);refine al ?_;refine aY (l0:=bD p) ae rfl Fa rfl (λf d=>by have m:=Gq f p (d.bo ae) M N Zp x y Zq Zr an aM;exact m) (λZu Zv=>?_);refine ax ?_;intro Zw Q;obtain⟨F,G,H⟩:=Zv;exact aN Zu ⟨F,G,by rw[H,mH,ay aa]⟩ Q;obtain rfl:x=0:=by omega
 refine al ?_;refine ao rfl oz rfl (λf d=>by have m:=oK f p (d.has bH) ((d.has cu: (aU (cd p.r)).pred f) p.r.an av);exact m) ?_;refine ah ?_;refine aY (l0:=bD p) ae rfl pJ rfl (λf d=>by have m:=p3 f p (d.bo ae) M aa 0 (p.r.n+(y:Int)+1) 1;exact m) (λb Zx=>?_);refine aS ?_;obtain⟨Zg,R,C⟩:=Zx;have Zy:b.r.n=p.r.n:=by rw[re R,C,O];rfl
 have Zz:b.r.room=p.r.room:=aV b4.room C
 have ZA:b0 b.s.l=b0 p.s.l:=aV b4.cJ C
 have Z9:b.s.l.length=p.s.l.length:=by have:=aV List.length ZA;simpa [b0] using this
 have Zaa:b.be.l.length=p.be.l.length+1:=by have:=aV (λz=>z.gd.length) C;simpa [bq.abs,fF] using this
 have I:c7 b.abs:=by rw[C];exact p7 N _ _ _
 obtain⟨z,B⟩ : ∃z,b.s.l[0]? = some z:=⟨b.s.l[0]'aa,bG _⟩;have D:=dc B
 rw[←Zg];refine hE (e:=144) (sz:=2) (v:=b.s.val) cu (λdF c9 ZB _ _ _ ZC=>?_);injection ZB with ZD _ ZE
 subst ZD ZE;obtain⟨ZF,Zh⟩:=ZC aa;have ZG:b.s.val= .slice (some ⟨ZF,0,none⟩) b.s.l.length b.s.c:=by rw[dd.val,Zh]
 refine hK (λ_:dj=>[(0,ptr b.g),(2,.int .i64 (y:Int)),(7,ptr t),(9,.bool (decide (b.r.n=b.r.room)))]) (λj=>af w (aA (bD p)) (aE t [.int .i64 an,.int .i64 aM] 86::bD (iq b j))) (λj=>cU j∧j.room=b.r.room∧j.rows=oN b.r.rows b.r.room z.fo) ?_ ?_;refine bF [0,1,2,3,4,5,6,7,8,9] 3 [[(10,true,[11,12,13]),(14,false,[]),(15,false,[16])],[(14,false,[]),(10,true,[11,12,13]),(15,false,[16])]] ?_;refine aL ?_;refine aI rfl (λZH Zi=>(bw (q:=0) dM rfl rfl rfl Zh bb aa aC)) ?_;refine aI rfl (λZH Zi=>(cy gP rfl rfl rfl (λP J j u ZI=>by subst J;exact Zi.xz (E:=cn) cu ZG B j u ZI) aC)) ?_;refine ar ?_;refine Ap ?_ ?_;refine ku (lc:=cd b.r) cB ?_;refine aY (l0:=cd b.r) ae rfl zY rfl (λf d=>by obtain⟨ZJ,ZK,S,T⟩:=uW (v:=z.val) (L:=z.cells) ((d.has kv:b.s.cj.pred f) z.aG (dX.2 ⟨z,D,rfl⟩));injection S with U _ V;subst U V;exact AU f b.r (d.bo ae) R _ z.A z.cells.length z.c z.cells z.cont T (λk W X=>d.apart ae (c:=b.s.cj) cu k (e3.2 ⟨z.aG,dX.2 ⟨z,D,rfl⟩,by show k∈z.val.ownBlock.toList;rw[W];simp⟩) X) (oM I D).1) (λi o=>?_);refine aD ?_;intro ZL ZM ZN;refine bV (λ_=>True) (λ_ h=> .inr ⟨.inl rfl,cz⟩) (λ_ h=>aT) ?_;refine aq ?_;refine eW gP rfl rfl cA o.2.2.2.2.1 o.2.2.2.2.2 (by (rw[o.2.2.2.2.1];exact dY rfl)) ?_;refine bV (λ_=>True) (λ_ h=> .inr ⟨.inr ⟨.inl rfl,cz⟩,cz⟩) (λ_ h=>aT) ?_;refine ah ?_;refine dw i.2 ⟨o.2.2.1,o.2.1,o.2.2.2.1⟩ (cw rfl rfl rfl rfl) (λP m=>?_);have Y:=m.aw (l:=[i.2.an,i.2.s.au,i.2.s.cj,b.an,b.s.au,b.s.cj,b.be.au,aE t [.int .i64 an,.int .i64 aM] 86]) ae
 have Z:af w (aA (bD p)) (aU (cd i.2)::[b.an,b.s.au,b.s.cj,b.be.au,aE t [.int .i64 an,.int .i64 aM] 86]) P:=af.close' (l:=cd i.2) Y
 have J:bD (iq b i.2)=[b.an,aU (cd i.2),b.s.au,b.s.cj,b.be.au]:=by simp only[bD,iq,bq.an,nx,o.1]
 rw[J];exact Z.aw ae;refine ar ?_;intro ZL ZM ZN;refine bV (λ_=>True) (λ_ h=> .inr (h.rem bv.head)) (λ_ h=>aT) ?_;refine aq ?_;refine ku (lc:=cd b.r) pV ?_;refine aY (l0:=cd b.r) ae rfl zY rfl (λf d=>by obtain⟨ZJ,ZK,S,T⟩:=uW (v:=z.val) (L:=z.cells) ((d.has eX:b.s.cj.pred f) z.aG (dX.2 ⟨z,D,rfl⟩));injection S with U _ V;subst U V;exact AU f b.r (d.bo ae) R _ z.A z.cells.length z.c z.cells z.cont T (λk W X=>d.apart ae (c:=b.s.cj) hL k (e3.2 ⟨z.aG,dX.2 ⟨z,D,rfl⟩,by show k∈z.val.ownBlock.toList;rw[W];simp⟩) X) (oM I D).1) (λi o=>?_);refine al ?_;refine eW gP rfl rfl ns o.2.2.2.2.1 o.2.2.2.2.2 (by (rw[o.2.2.2.2.1];exact dY rfl)) ?_;refine bV (λ_=>True) (λ_ h=> .inr ⟨.inl rfl,cz⟩) (λ_ h=>aT) ?_;refine ah ?_;refine dw i.2 ⟨o.2.2.1,o.2.1,o.2.2.2.1⟩ (cw rfl rfl rfl rfl) (λP m=>?_);have Y:=m.aw (l:=[i.2.an,i.2.s.au,i.2.s.cj,b.an,b.s.au,b.s.cj,b.be.au,aE t [.int .i64 an,.int .i64 aM] 86]) ae
 have Z:af w (aA (bD p)) (aU (cd i.2)::[b.an,b.s.au,b.s.cj,b.be.au,aE t [.int .i64 an,.int .i64 aM] 86]) P:=af.close' (l:=cd i.2) Y
 have J:bD (iq b i.2)=[b.an,aU (cd i.2),b.s.au,b.s.cj,b.be.au]:=by simp only[bD,iq,bq.an,nx,o.1]
 rw[J];exact Z.aw ae;rintro j ⟨Zj,ZO,ZP⟩;have Za: (iq b j).abs=nE b.abs:=by
  have F:b.abs.cJ.headD ([],false)=z.fo:=by
   cases Zb:b.s.l with
   | nil=>rw[Zb] at B;simp at B
   | cons a l=>rw[Zb] at B;simp at B;simp[bq.abs,b0,Zb,B]
  have G:b.abs.jH=b.r.rows:=rfl
  have H:b.abs.room=b.r.room:=rfl
  simp only[nE,F,G,H,←ZP];simp only[bq.abs,iq,ZO]
 have Zab:c7 (iq b j).abs:=by rw[Za];exact xC I
 have Zk: (b.r.n=b.r.room)↔fN p.abs=p.abs.room:=by rw[Zy,Zz,←O];exact Iff.rfl
 have ZQ:b.abs=fF p.abs 0 (fN p.abs+(y:Int)+1) 1:=by rw[C,O]
 obtain⟨Zc,K⟩ : ∃Zc,Zc=(if fN p.abs=p.abs.room then fF (nE b.abs) 2 0 1 else nE b.abs):=⟨_,rfl⟩;refine al ?_;refine hK (λ_:bq=>[(0,ptr b.g),(2,.int .i64 (y:Int)),(7,ptr t)]) (λq=>af w (aA (bD p)) (aE t [.int .i64 an,.int .i64 aM] 86::bD q)) (λq=>q.g=b.g∧cU q.r∧q.abs=Zc) ?_ ?_;refine aj (λZd=>?_) (λZd=>?_);refine aq ?_;refine aY (l0:=bD (iq b j)) ae rfl pJ rfl (λf d=>by have m:=p3 f (iq b j) (d.bo ae) Zj (by show b.be.l.length≤_;omega) 2 0 1;exact m) (λZR ZS=>?_);refine ar ?_;obtain⟨ZT,ZU,ZV⟩:=ZS;exact dw ZR ⟨ZT,ZU,by rw[ZV,K,ay (Zk.1 Zd),Za]⟩ bR (λ_ h=>h.aw ae);refine ar ?_;exact dw (iq b j) ⟨rfl,Zj,by rw[K,ag (λh=>Zd (Zk.2 h)),Za]⟩ bR (λ_ h=>h);rintro q ⟨Zl,ZW,Ze⟩;have Zm:c7 q.abs:=by
  rw[Ze,K];split
  exact p7 (xC I) _ _ _;exact xC I
 have Zac:q.s.l.length=p.s.l.length:=by
  have ZX:q.abs.cJ=b.abs.cJ:=by
   rw[Ze,K];split <;> rfl
  have ZY:=aV List.length ZX
  simp only[bq.abs,b0,cT] at ZY
  omega
 rw[←Zl];refine al ?_;refine aY (l0:=bD q) ae rfl Ab rfl (λf d=>by have m:=AY f q (d.bo ae) ZW Zm 0 y aa aa an aM;exact m) (λZf ZZ=>?_);obtain⟨c1,Z0,Zn⟩:=ZZ;have Z1:c7 Zf.abs:=by rw[Zn];exact xB Zm (by simp[bq.abs];omega) (by simp[bq.abs];omega) _ _
 refine al ?_;refine aY (l0:=bD Zf) ae rfl pN rfl (λf d=>by have m:=p2 f Zf (d.bo ae) Z0 Z1 ((y:Int)+1);rw[c1] at m;exact m) (λZ2 Z3=>?_);refine aq ?_;intro Zw Q;obtain⟨F,G,H⟩:=Z3;refine aN Z2 ⟨by rw[F,c1,Zl,Zg],G,?_⟩ Q;rw[H,Zn,Ze,mH,ag (by omega: ¬0<0),K,ZQ];done
def iter (f:b4→b4):Nat→b4→b4
 | 0,p=>p
 | n+1,p=>f (iter f n p)
def hS (p:b4) (x y n:Int) (f:b4→Nat→Nat→b4):b4:=
 if (0≤x∧x<p.cJ.length)∧(0≤y∧y<p.cJ.length)∧x≤y then iter (λq=>f q x.toNat y.toNat) (min (max 0 n) (y - x+1)).toNat p else p
structure Kept (k:Nat) (p q:b4):Prop where
 wf:c7 p→c7 q
 rows:q.cJ.length=p.cJ.length
 cols:q.cols=p.cols
 room:q.room=p.room
 be:q.gd.length≤p.gd.length+k
theorem Kept.refl (p:b4):Kept 0 p p:=⟨id,rfl,rfl,rfl,aa⟩
theorem Kept.trans {a b:Nat} {p q r:b4} (h:Kept a p q) (k:Kept b q r):Kept (a+b) p r:=⟨λx=>k.wf (h.wf x),k.rows.trans h.rows,k.cols.trans h.cols,k.room.trans h.room,by have:=h.be;have:=k.be;omega⟩
theorem Kept.mono {a b:Nat} {p q:b4} (h:Kept a p q) (c:a≤b):Kept b p q:=⟨h.wf,h.rows,h.cols,h.room,by have:=h.be;omega⟩
theorem p8 (p:b4) (k a n:Int):Kept 1 p (fF p k a n):=⟨λh=>p7 h k a n,rfl,rfl,rfl,by simp[fF]⟩
theorem Gs (p:b4) (y:Int) {f:bS→bS} (b:c7 p→ ∀r:bS,((r.1.length:Int)=p.cols∧ ∀c∈r.1,c.more.length≤32)→(((f r).1.length:Int)=p.cols∧ ∀c∈(f r).1,c.more.length≤32)):Kept 0 p (nA p y f):=by
 unfold nA;split
 refine⟨λh=>⟨h.cols,by simpa using h.rows,λr a=>?_,h.nC,h.room⟩,by simp,rfl,rfl,by simp⟩;rcases mem_modify a with a | ⟨r',d,rfl⟩
 exact h.wide r a;exact b h r' (h.wide r' d);exact Kept.refl p
theorem lW (p:b4) (y:Int) (b:Bool):Kept 0 p (iL p y b):=Gs p y (λ_ _ h=>h)
theorem xD (p:b4) {a b:Nat} (c:a<p.cJ.length) (d:b<p.cJ.length) (k v:Int):Kept 0 p (nD p a b k v):=⟨λh=>xB h c d k v,AV c d,rfl,rfl,ch _⟩
theorem Gt (p:b4):Kept 0 p (nE p):=⟨xC,rfl,rfl,rfl,ch _⟩
theorem xE (p:b4) {a b:Nat} (c:a<p.cJ.length) (d:b<p.cJ.length) (k v:Int):Kept 2 p (sU p a b k v):=
 (((((p8 p 1 (fN p+a) 1).trans (p8 _ 0 (fN p+b) 1)).trans (xD (fF (fF p 1 (fN p+a) 1) 0 (fN p+b) 1) (a:=a) (b:=b) c d k v)).trans (lW _ a false)).trans (lW _ (b+1) false)).mono (ch 2)
theorem rf (p:b4) {a b:Nat} (c:a<p.cJ.length) (d:b<p.cJ.length) (k v:Int):Kept 2 p (oO p a b k v):=
 (((((p8 p 1 (fN p+b) 1).trans (p8 _ 0 (fN p+a) 1)).trans (xD (fF (fF p 1 (fN p+b) 1) 0 (fN p+a) 1) (a:=b) (b:=a) d c k v)).trans (lW _ (a+1) false)).trans (lW _ (b+1) false)).mono (ch 2)
theorem u2 (p:b4) {a b:Nat} (d:a<p.cJ.length) (c:b<p.cJ.length) (k v:Int):Kept 2 p (mH p a b k v):=by
 unfold mH;split
 exact xE p d c k v;dsimp only;split
 exact (((((p8 p 0 (fN p+b+1) 1).trans (Gt _)).trans (p8 _ 2 0 1)).trans (xD (fF (nE (fF p 0 (fN p+b+1) 1)) 2 0 1) (a:=0) (b:=b) (by show 0<p.cJ.length;omega) c k v)).trans (lW _ (b+1) false)).mono (ch 2);exact ((((p8 p 0 (fN p+b+1) 1).trans (Gt _)).trans (xD (nE (fF p 0 (fN p+b+1) 1)) (a:=0) (b:=b) (by show 0<p.cJ.length;omega) c k v)).trans (lW _ (b+1) false)).mono aZ
theorem u3 {f:b4→b4} {p:b4} (a: ∀q,q.cJ.length=p.cJ.length→Kept 2 q (f q)): ∀n,Kept (2*n) p (iter f n p)
 | 0=>Kept.refl p
 | n+1=>((u3 a n).trans (a _ (u3 a n).rows)).mono aa
theorem p9 (p:b4) (x y n:Int) {f:b4→Nat→Nat→b4} (c: ∀q a b,a<q.cJ.length→b<q.cJ.length→Kept 2 q (f q a b)):Kept (2*p.cJ.length) p (hS p x y n f):=by
 unfold hS;split
 rename_i h;obtain⟨⟨d,e⟩,⟨g,i⟩,j⟩:=h;exact (u3 (λq k=>c q _ _ aa aa) _).mono aa;exact (Kept.refl p).mono aa
theorem AZ (w:World) (p:bq) (F:a8 w (bD p)) (z:cU p.r) (A:c7 p.abs) (Zb:p.be.l.length≤1152921500000) (x y n an aM:Int) (f:b4→Nat→Nat→b4) (G: ∀q a b,a<q.cJ.length→b<q.cJ.length→Kept 2 q (f q a b)) (j:FuncId) (H:ad prog j)
 (I: ∀w' (q:bq) (a b:Nat),a8 w' (bD q)→cU q.r→c7 q.abs→q.be.l.length≤1152921504600→a<q.s.l.length→b<q.s.l.length→Calls prog j [ptr q.g,.int .i64 (a:Int),.int .i64 (b:Int),.agg [.int .i64 an,.int .i64 aM].toArray].toArray w' (hQ q (f q.abs a b) w')):
 Calls prog 395 [ptr p.g,.int .i64 x,.int .i64 y,.int .i64 n,.func (.func j) [ptr p.g].toArray [].toArray,.agg [.int .i64 an,.int .i64 aM].toArray].toArray w (hQ p (hS p.abs x y n f) w):=by
 have J:=A.rows
 have o:p.abs.cJ.length=p.s.l.length:=by simp[bq.abs,b0]
 rw[o] at J
 refine bC func395 ntmps395 F ?_;refine ah ?_;intro t Zc Zd;refine aS ?_;refine hK (λb:Bool=>[(0,ptr p.g),(1,.int .i64 x),(2,.int .i64 y),(3,.int .i64 n),(4,.func (.func j) [ptr p.g].toArray [].toArray),(11,ptr t),(26,.bool b)]) (λ_=>af w (aA (bD p)) (aE t [.int .i64 an,.int .i64 aM] 86::bD p)) (λb=>(b=true)= ¬((0≤x∧x<p.s.l.length)∧(0≤y∧y<p.s.l.length)∧x≤y)) ?_ ?_;refine ah ?_;refine ao rfl ss rfl (λk m=>sL k p (m.has bH) x) ?_;refine aq ?_;refine aX 16 rfl (λK=>?_) (λK=>?_);refine bp ?_;refine dw _ ?_ (hq rfl rfl rfl rfl rfl rfl rfl) (λ_ h=>h);simp at *
 omega
 refine ax ?_;refine ao rfl ss rfl (λk m=>sL k p (m.has bH) y) ?_;refine aS ?_;refine aX 22 rfl (λaK=>?_) (λaK=>?_);refine ax ?_;refine dw _ ?_ (hq rfl rfl rfl rfl rfl rfl rfl) (λ_ h=>h);simp at *
 omega
 refine aL ?_;refine dw _ ?_ (hq rfl rfl rfl rfl rfl rfl rfl) (λ_ h=>h);simp at *
 omega
 intro b B;refine ar ?_;refine b6 rfl (λe=>?_) (λe=>?_);rw[B] at e
 refine ah ?_;intro L u;exact aN p ⟨rfl,z,by rw[hS,ag (by rw[o];exact e)]⟩ u;have C: ¬(b=true):=by rw[e];decide
 rw[B,Classical.not_not] at C
 have e:=C
 obtain⟨⟨M,O⟩,⟨P,Q⟩,R⟩:=e;obtain⟨a,rfl⟩ : ∃a:Nat,x=(a:Int):=⟨x.toNat,aa⟩;obtain⟨d,rfl⟩ : ∃d:Nat,y=(d:Int):=⟨y.toNat,aa⟩;refine cI ?_;obtain⟨N,D⟩ : ∃N:Nat,min (max 0 n) ((d:Int) - (a:Int)+1)=(N:Int):=⟨(min (max 0 n) ((d:Int) - (a:Int)+1)).toNat,aa⟩;refine b1 (ι:=Nat × bq) (λi=>[(0,ptr p.g),(1,.int .i64 (a:Int)),(2,.int .i64 (d:Int)),(4,.func (.func j) [ptr p.g].toArray [].toArray),(11,ptr t),(33,.int .i64 (N:Int)),(34,.int .i64 (i.1 :Int))]) (λi=>af w (aA (bD p)) (aE t [.int .i64 an,.int .i64 aM] 86::bD i.2)) (λi=>i.1≤N∧QN p.g (iter (λq=>f q a d) i.1 p.abs) i.2) (λi=>N - i.1) ?_ ?_;exact λw' S=>⟨(0,p),⟨bP _,⟨rfl,z,rfl⟩⟩,by rw[D];exact (hq rfl rfl rfl rfl rfl rfl rfl),S⟩
 rintro⟨i,q⟩ ⟨hi,c⟩;dsimp only at hi c ⊢
 have v:=u3 (p:=p.abs) (f:=λq=>f q a d) (λq c=>G q a d aa aa) i
 have Ze:q.s.l.length=p.s.l.length:=by have:=v.rows;rw[←c.abs,o] at this;simpa [bq.abs,b0] using this
 have Zf:q.be.l.length≤p.be.l.length+2*i:=by have:=v.be;rw[←c.abs] at this;exact this
 have T:c7 q.abs:=by rw[c.abs];exact v.wf A
 refine al ?_;refine aj (λU=>?_) (λU=>?_);refine aJ ?_;refine lQ (l0:=bD q) (first:=[ptr p.g]) (cap:=[]) ae rfl rfl H rfl (λk m=>by have E:=I k q a d (m.bo ae) c.r T aa aa aa;rw[c.g] at E;exact E) (λV W=>?_);refine aD ?_;obtain⟨X,Y,Z⟩:=W;exact bg (i+1,V) ⟨by show i+1≤N;omega,⟨X.trans c.g,Y,by rw[Z,c.abs];rfl⟩⟩ (by show N - (i+1)<N - i;omega) bR (λ_ h=>h.aw ae);refine ax ?_;intro L u;have Za:i=N:=by omega
 subst Za;refine aN q ⟨c.g,c.r,?_⟩ u;rw[hS,ay (by rw[o];exact⟨⟨M,O⟩,⟨P,Q⟩,R⟩),D];exact c.abs
theorem Gu (w:World) (p:bq) (c:a8 w (bD p)) (d:cU p.r) (e:c7 p.abs) (f:p.be.l.length≤1152921500000) (x y n an aM:Int):
 Calls prog 327 [ptr p.g,.int .i64 x,.int .i64 y,.int .i64 n,.agg [.int .i64 an,.int .i64 aM].toArray].toArray w (hQ p (hS p.abs x y n (λq a b=>mH q a b an aM)) w):=by
 refine bC func327 ntmps327 c ?_;refine ah ?_;intro C D E;refine aR ?_;refine aY (l0:=bD p) ae rfl z8 rfl (λh i=>AZ h p (i.bo ae) d e f x y n an aM (λq a b=>mH q a b an aM) (λq a b j k=>u2 q j k an aM) _ OL (λw' q a b m o s t u v=>QR w' q m o s t a b u v an aM)) (λz A=>?_);refine aq ?_;intro F B;exact aN z A B
theorem QS (w:World) (p:bq) (c:a8 w (bD p)) (d:cU p.r) (e:c7 p.abs) (f:p.be.l.length≤1152921500000) (x y n an aM:Int):
 Calls prog 348 [ptr p.g,.int .i64 x,.int .i64 y,.int .i64 n,.agg [.int .i64 an,.int .i64 aM].toArray].toArray w (hQ p (hS p.abs x y n (λq a b=>sU q a b an aM)) w):=by
 refine bC func348 ntmps348 c ?_;refine ah ?_;intro C D E;refine aR ?_;refine aY (l0:=bD p) ae rfl z8 rfl (λh i=>AZ h p (i.bo ae) d e f x y n an aM (λq a b=>sU q a b an aM) (λq a b j k=>xE q j k an aM) _ Fa (λw' q a b m o s t u v=>Gq w' q m o s t a b u v an aM)) (λz A=>?_);refine aq ?_;intro F B;exact aN z A B
theorem A0 (w:World) (p:bq) (c:a8 w (bD p)) (d:cU p.r) (e:c7 p.abs) (f:p.be.l.length≤1152921500000) (x y n an aM:Int):
 Calls prog 329 [ptr p.g,.int .i64 x,.int .i64 y,.int .i64 n,.agg [.int .i64 an,.int .i64 aM].toArray].toArray w (hQ p (hS p.abs x y n (λq a b=>oO q a b an aM)) w):=by
 refine bC func329 ntmps329 c ?_;refine ah ?_;intro C D E;refine aR ?_;refine aY (l0:=bD p) ae rfl z8 rfl (λh i=>AZ h p (i.bo ae) d e f x y n an aM (λq a b=>oO q a b an aM) (λq a b j k=>rf q j k an aM) _ OM (λw' q a b m o s t u v=>QO w' q m o s t a b u v an aM)) (λz A=>?_);refine aq ?_;intro F B;exact aN z A B
def u4 (p:b4):b4:={ p with jH:=[] }
theorem Gv (p:b4):Kept 0 p (u4 p):=⟨λh=>⟨h.cols,h.rows,h.wide,by simp[u4],by have:=h.room;simp[u4];omega⟩,rfl,rfl,rfl,ch _⟩
theorem Gw (p:b4):Kept 1 p (sV p):=by
 unfold sV;split
 exact (Kept.refl p).mono aa;exact (((Gv p).trans (p8 _ 2 0 p.jH.length)).trans (lW _ 0 false)).mono aa
theorem Gx {f:List bj→List bj} (h: ∀L,(f L).length=L.length) (b: ∀L,(∀c∈L,c.more.length≤32)→ ∀c∈f L,c.more.length≤32) {L:List bj} (d: ∀c∈L,c.more.length≤32): ∀c∈cV f L,c.more.length≤32:=by
 have a: ∀c:bj,c.more.length≤32→(gR c.at_).more.length≤32:=λ_ _=>bP _
 exact xw a (b _ (xw a d))
theorem sW (p:b4) (y:Int) {f:List bj→List bj} (h: ∀L,(f L).length=L.length) (b: ∀L,(∀c∈L,c.more.length≤32)→ ∀c∈f L,c.more.length≤32):Kept 0 p (nB p y (cV f)):=
 Gs p y (λ_ r a=>⟨by simp only[AK h];exact a.1,Gx h b a.2⟩)
theorem A1 {L:List bj} {p k:Nat} {an aM:Int} (h: ∀c∈L,c.more.length≤32): ∀c∈fp L p k an aM,c.more.length≤32:=by
 intro c a;unfold fp at a
 simp only[db] at a
 rcases a with (a | a) | a
 exact h c (iD a);rw[m7 a];exact bP _
 exact h c (lK a)
theorem Gy {L:List bj} {p q m:Nat} (h: ∀c∈L,c.more.length≤32): ∀c∈lV L p q m,c.more.length≤32:=by
 intro c a;unfold lV at a
 simp only[db] at a
 rcases a with (a | a) | a
 exact h c (iD a);exact h c (lK (iD a));exact h c (lK a)
theorem u5 {α:Type} {l:List α} {k:Nat} {a x:α} (h:x∈l.set k a):x∈l∨x=a:=by
 rcases rX h with h | h
 exact .inl h;exact .inr h
theorem u6 (p:b4) (y x r:Int) (a:hM):Kept 0 p (u0 p y x r a):=sW p y (λL=>q8 L x r a) (λL h c b=>by
 unfold jG at b
 split at b
 exact h c b;split at b
 rcases u5 b with b | rfl
 rcases u5 b with b | rfl
 exact h c b;exact bP _;exact bP _;rcases u5 b with b | rfl
 exact h c b;exact bP _)
theorem A2 {L:List bj} {q:Nat} {m:List UInt8} (b:m.length≤32) (h: ∀c∈L,c.more.length≤32): ∀c∈ht L q m,c.more.length≤32:=by
 intro c a;unfold ht at a
 split at a
 rcases u5 a with a | rfl
 exact h c a;exact b;exact h c a
theorem Gz (p:b4) (y x r:Int):Kept 0 p (xx p y x r):=sW p y (λL=>fE L x r) (λL h c a=>by
 unfold eB at a
 split at a
 exact h c a;split at a
 exact h c a;split at a
 exact h c a;split at a
 exact h c a;rename_i b;refine A2 aa (λd ak=>?_) c a;split at ak
 exact A2 aa h d ak;split at ak
 exact A2 aa h d ak;exact h d ak)
theorem GA (p:b4) (y:Int):Kept 0 p (xy p y):=sW p y xu (λL h c a=>by
 unfold mG at a
 split at a
 rcases u5 a with a | rfl
 exact h c a;exact bP _;exact h c a)
theorem xF (p:b4) (y x n k v:Int):Kept 0 p (u1 p y x n k v):=sW p y (λL=>sO L x n k v) (λL h c a=>by
 unfold insertC at a
 split at a
 exact h c a;exact A1 (Gy h) c a)
theorem GB (p:b4) (y x n k v:Int):Kept 0 p (AO p y x n k v):=sW p y (λL=>sP L x n k v) (λL h c a=>by
 unfold jZ at a
 split at a
 exact h c a;exact A1 (Gy h) c a)
theorem u7 (p:b4) (y a b k v:Int):Kept 0 p (nB p y (cV (λL=>kz L a b k v))):=sW p y (λL=>xv L a b k v) (λL h c d=>by
 unfold kz at d
 split at d
 exact A1 h c d;exact h c d)
theorem oP (p:b4) (y a b k v:Int):Kept 0 p (eraseP p y a b k v):=by
 unfold eraseP;split
 dsimp only;split
 split
 exact ((u7 p y a b k v).trans (lW _ (y+1) false)).trans (lW _ y false);exact (u7 p y a b k v).trans (lW _ (y+1) false);exact u7 p y a b k v;exact Kept.refl p
theorem QT (w:World) (p:bq) (q:a8 w (bD p)) (c:cU p.r) (s:c7 p.abs) (K:p.be.l.length≤1152921504600):
 Calls prog 342 [ptr p.g].toArray w (hQ p (sV p.abs) w):=by
 have e:=re c
 have L:=c.n
 refine bC func342 ntmps342 q ?_;refine aS ?_;refine ao rfl oz rfl (λa b=>oK a p (b.has aQ) ((b.has bH: (aU (cd p.r)).pred a) p.r.an av)) ?_;refine ah ?_;refine aj (λf=>?_) (λf=>?_);refine ah ?_;intro t h;exact aO.bQ p ⟨rfl,c,by rw[sV,ay (by rw[e,fN] at f;omega)]⟩ rfl h;refine aJ ?_;refine ku (lc:=cd p.r) cB ?_;refine cE (λa b=>Gj a p.r b c) (λj u=>?_);obtain⟨v,y,z,A⟩:=u;refine hg (H':=af w (aA (bD p)) (bD (iq p j))) ?_ (Sub.refl _) (λx B=>QQ v B ae);have k: (iq p j).abs=u4 p.abs:=by simp only[bq.abs,iq,u4,A,y]
 refine aY (l0:=bD (iq p j)) ae rfl pJ rfl (λa b=>by have d:=p3 a (iq p j) (b.bo ae) z (by show p.be.l.length≤_;omega) 2 0 p.r.n;exact d) (λi C=>?_);obtain⟨m,D,o⟩:=C;have E:c7 i.abs:=by rw[o,k];exact p7 ((Gv p.abs).wf s) _ _ _
 refine aS ?_;refine aY (l0:=bD i) ae rfl pN rfl (λa b=>by have d:=p2 a i (b.bo ae) D E 0;rw[m] at d;exact d) (λF G=>?_);refine aq ?_;intro t h;obtain⟨H,I,J⟩:=G;exact aN F ⟨H.trans m,I,by rw[J,o,k,e,sV,ag (by rw[e,fN] at f;omega)];rfl⟩ h
theorem u9 (w:World) (p:bq) (E:a8 w (bD p)) (B:cU p.r) (q:c7 p.abs) (y a b an aM:Int) (Q: -1000000≤y∧y≤1000000):
 Calls prog 239 [ptr p.g,.int .i64 y,.int .i64 a,.int .i64 b,.agg [.int .i64 an,.int .i64 aM].toArray].toArray w (hQ p (eraseP p.abs y a b an aM) w):=by
 have i:p.abs.cJ.length=p.s.l.length:=by simp[bq.abs,b0]
 have k:p.abs.cols=p.cols:=rfl
 refine bC func239 ntmps239 E ?_;refine ah ?_;intro R S T;refine ar ?_;intro U V W;refine ar ?_;intro X Y Z;refine aD ?_;refine ao rfl ss rfl (λe c=>sL e p (c.has hL) y) ?_;refine ah ?_;refine b6 rfl (λt=>?_) (λt=>?_);simp only[b3] at t
 refine ah ?_;intro m d;exact aN p ⟨rfl,B,by rw[eraseP,ag (by rw[i];omega)]⟩ d;simp only[b3] at t
 refine aD ?_;refine aY (ι:=bq) (l0:=bD p) ae rfl su rfl (λe c=>sS e p (c.bo ae) B q y (cV (λL=>kz L a b an aM)) _ [ptr _,ptr _,ptr _] Od (λw' g F u G H=>Qr w' _ _ _ a b an aM (u.dK (c.has cu) (c.apart ae cu)) (u.dK (c.has bH) (c.apart ae bH)) (u.dK (c.has aQ) (c.apart ae aQ)) F _ _ _ _ H (oM q G).1)) (λf I=>?_);refine ah ?_;obtain⟨j,v,h⟩:=I;have C:c7 f.abs:=by rw[h];exact (u7 p.abs y a b an aM).wf q
 have Za:f.cols=p.cols:=by have:=aV b4.cols h;rw[(u7 p.abs y a b an aM).cols] at this;exact this
 rw[←j];refine bF [0,1,2,3,4,5,6,7,8,9,10,11,12,13] 0 [[]] ?_;refine aD ?_;refine no 24 rfl (λaK=>?_) (λaK=>?_);have J:=a1 aK
 refine aR ?_;refine aj (λK=>?_) (λK=>?_);refine ax ?_;refine aY (l0:=bD f) ae rfl pN rfl (λe c=>by have n:=p2 e f (c.bo ae) v C (y+1);exact n) (λo M=>?_);obtain⟨x,D,z⟩:=M;have N:c7 o.abs:=by rw[z];exact AX C _ _
 refine aL ?_;refine aj (λO=>?_) (λO=>?_);refine ah ?_;refine aY (l0:=bD o) ae rfl pN rfl (λe c=>by have n:=p2 e o (c.bo ae) D N y;rw[x] at n;exact n) (λP A=>?_);refine aq ?_;intro m d;exact aN P ⟨(A.1.trans x).trans j,A.2.1,by rw[A.2.2,z,h,eraseP,ay (by rw[i];omega)];dsimp only;rw[ay (by rw[k];omega),ay aa]⟩ d;refine aq ?_;intro m d;exact aN o ⟨x.trans j,D,by rw[z,h,eraseP,ay (by rw[i];omega)];dsimp only;rw[ay (by rw[k];omega),ag aa]⟩ d;refine aq ?_;intro m d;exact aN f ⟨j,v,by rw[h,eraseP,ay (by rw[i];omega)];dsimp only;rw[ag (by rw[k];omega)]⟩ d;have J:=bc aK
 refine bI ?_;intro m d;exact aN f ⟨j,v,by rw[h,eraseP,ay (by rw[i];omega)];dsimp only;rw[ag (by rw[k];omega)]⟩ d
end Go.Proofs.YtoghoobfpcadbaaGreatDoor.Mq
namespace Go.Proofs.YtoghoobfpcadbaaGreatDoor.Mq.cO
open Go Go.RowKit Go.Proofs
def lX (ws:List Nat) (x:Nat):Bool:=(ws.getD (x/64) 0).testBit (x%64)
def ce (bs:List Bool) (x:Nat):Bool:=bs.getD x false
def mI (bs:List Bool) (x:Int) (a:Bool):List Bool:=if 0≤x∧x<(bs.length:Int) then bs.set x.toNat a else bs
def jj (bs:List Bool) (n:Nat):List Bool:=(List.range n).map (λx=>if x<bs.length then ce bs x else decide (x%8=0))
def jk (bs:List Bool) (x:Nat):Nat:=((List.range bs.length).find? (λy=>decide (x<y) && ce bs y)).getD (bs.length - 1)
def iO (bs:List Bool) (x:Nat):Nat:=((List.range x).reverse.find? (ce bs)).getD 0
def iter (f:Nat→Nat):Nat→Nat→Nat
 | 0,x=>x
 | k+1,x=>f (iter f k x)
def xG (n:Nat) (x:Int):Nat:=(max 0 (min x ((n:Int) - 1))).toNat
def nF (f:Nat→Nat) (len:Nat) (x n:Int):Nat:=iter f (min (max 0 n) (len:Int)).toNat (xG len x)
theorem p_ {bs:List Bool} {x:Nat} (h:bs.length≤x):ce bs x=false:=by rw[ce,fB,km h];rfl
theorem A3 {bs:List Bool} {x:Nat} (h:ce bs x=true):x<bs.length:=by
 unfold ce at h
 rcases e0 x bs.length with a | a
 exact a;have:=p_ a;unfold ce at this;rw[this] at h;cases h
theorem GC {bs:List Bool} {x:Nat} (h:x<bs.length):bs[x]? = some (ce bs x):=by
 rw[ce,fB,bG h];rfl
theorem sX {a b:List Bool} (d:a.length=b.length) (h: ∀x,x<a.length→ce a x=ce b x):a=b:=by
 apply ms
 intro i;rcases e0 i a.length with c | c
 rw[GC c,GC (d▸c),h i c];rw[km c,km (d▸c)]
theorem mJ (bs:List Bool) (x:Int) (a:Bool): (mI bs x a).length=bs.length:=by unfold mI;split <;> simp
theorem qa (bs:List Bool) (n:Nat): (jj bs n).length=n:=by simp[jj]
theorem xH (bs:List Bool) (x:Int) (a:Bool) (y:Nat) (c:y<bs.length):ce (mI bs x a) y=if x=(y:Int) then a else ce bs y:=by
 unfold mI;split
 rename_i h;unfold ce;rw[fB,oa];by_cases b:x=(y:Int)
 subst b;simp[c]
 rw[ag b,ag aa,fB];rename_i h;rw[ag aa]
theorem QU (bs:List Bool) (n y:Nat) (a:y<n):ce (jj bs n) y=if y<bs.length then ce bs y else decide (y%8=0):=by
 unfold jj ce;rw[fB,eJ,rT a];rfl
theorem GD {bs:List Bool} {x y:Nat} (c:x<y) (a:ce bs y=true) (d: ∀z,x<z→z<y→ce bs z=false):jk bs x=y:=by
 have e:=A3 a
 unfold jk;have: (List.range bs.length).find? (λy=>decide (x<y) && ce bs y)=some y:=by
  rw[List.find?_range_eq_some];refine⟨by simp[c,a],by simpa using e,λz f=>?_⟩;by_cases b:x<z
  simp[d z b f]
  simp[b]
 rw[this];rfl
theorem GE {bs:List Bool} {x:Nat} (b: ∀z,x<z→z<bs.length→ce bs z=false):jk bs x=bs.length - 1:=by
 unfold jk;have: (List.range bs.length).find? (λy=>decide (x<y) && ce bs y)=none:=by
  rw[List.find?_eq_none];intro z c;by_cases a:x<z
  simp[b z a (by simpa using c)]
  simp[a]
 rw[this];rfl
theorem least {p:Nat→Bool} {n:Nat} (h:p n=true): ∃m,m≤n∧p m=true∧ ∀z,z<m→p z=false:=by
 induction n using Nat.strongRecOn with
 | _ n e=>
  by_cases d: ∃z,z<n∧p z=true
  obtain⟨z,f,g⟩:=d;obtain⟨m,a,b,c⟩:=e z f g;exact⟨m,aa,b,c⟩;exact⟨n,ch _,h,λz i=>by
   cases ai:p z with
   | false=>rfl
   | true=>exact absurd ⟨z,i,ai⟩ d⟩
theorem QV (bs:List Bool) (x:Nat): (x<jk bs x∧ce bs (jk bs x)=true∧ ∀z,x<z→z<jk bs x→ce bs z=false)∨((∀z,x<z→ce bs z=false)∧jk bs x=bs.length - 1):=by
 by_cases h: ∃z,x<z∧ce bs z=true
 obtain⟨z,d,e⟩:=h;obtain⟨m,_,b,f⟩:=least (p:=λz=>decide (x<z) && ce bs z) (n:=z) (by simp[d,e]);simp only[d_,e2] at b
 have a: ∀z,x<z→z<m→ce bs z=false:=λz a g=>by
  have:=f z g
  simpa [a] using this
 have:=GD b.1 b.2 a
 left
 rw[this];exact⟨b.1,b.2,a⟩;right
 have a: ∀z,x<z→ce bs z=false:=λz c=>by
  cases ai:ce bs z with
  | false=>rfl
  | true=>exact absurd ⟨z,c,ai⟩ h
 exact⟨a,GE λz c _=>a z c⟩
theorem QW {bs:List Bool} {x y:Nat} (d:y<x) (e:ce bs y=true) (c: ∀z,y<z→z<x→ce bs z=false):iO bs x=y:=by
 unfold iO;have f: ∀x,y<x→(∀z,y<z→z<x→ce bs z=false)→(List.range x).reverse.find? (ce bs)=some y:=by
  intro x;induction x with
  | zero=>intro h;omega
  | succ x g=>
   intro d c;rw[List.range_succ,uj,List.reverse_singleton,rZ,List.find?_cons];rcases e0 y x with h | h
   rw[c x h aa];exact g h λz a b=>c z a aa
   obtain rfl:y=x:=by omega
   rw[e]
 rw[f x d c];rfl
theorem QX {bs:List Bool} {x:Nat} (b: ∀z,z<x→ce bs z=false):iO bs x=0:=by
 unfold iO;have: (List.range x).reverse.find? (ce bs)=none:=by
  rw[List.find?_eq_none];intro z a;simp only[List.mem_reverse,List.mem_range] at a
  simp[b z a]
 rw[this];rfl
theorem QY (bs:List Bool) (x:Nat):iO bs (x+1)=if ce bs x then x else iO bs x:=by
 unfold iO;rw[List.range_succ,uj,List.reverse_singleton,rZ,List.find?_cons];cases ce bs x <;> simp
theorem A4 (bs:List Bool): ∀x,iO bs x≤x - 1
 | 0=>by simp[iO]
 | x+1=>by
  rw[QY];have:=A4 bs x
  split <;> omega
theorem GF {bs:List Bool} (x:Nat) (h:0<bs.length):jk bs x<bs.length:=by
 rcases QV bs x with a | a
 exact A3 a.2.1;omega
theorem u_ {f:Nat→Nat} {len:Nat} (a: ∀x,x<len→f x<len): ∀(k x:Nat),x<len→iter f k x<len
 | 0,_,h=>h
 | k+1,x,h=>a _ (u_ a k x h)
structure cW (ws:List Nat) (bs:List Bool):Prop where
 lt: ∀w∈ws,w<2 ^ 64
 ei:bs.length≤64*ws.length
 bits: ∀x,lX ws x=ce bs x
theorem xI {ws:List Nat} {q w s:Nat} (h:ws[q]? = some w) (c:s<64):lX ws (64*q+s)=w.testBit s:=by
 have a: (64*q+s)/64=q:=by omega
 have b: (64*q+s)%64=s:=by omega
 rw[lX,a,b,fB,h];rfl
theorem GG {w s:Nat} (h:w<2 ^ 64) (k:s<64): (w/2 ^ s=0→ ∀i,s≤i→w.testBit i=false)∧
 (w/2 ^ s≠0→s+Lib.ctz 64 (w/2 ^ s)<64∧w.testBit (s+Lib.ctz 64 (w/2 ^ s))=true∧ ∀i,s≤i→i<s+Lib.ctz 64 (w/2 ^ s)→w.testBit i=false):=by
 have ak: ∀j,(w/2 ^ s).testBit j=w.testBit (s+j):=λj=>by rw[Nat.testBit_div_two_pow,Nat.add_comm]
 constructor
 intro a i hi;have:=ak (i - s)
 rw[a,Nat.zero_testBit,show s+(i - s)=i by omega] at this
 exact this.symm;intro a;have e:w/2 ^ s<2 ^ 64:=qH (Nat.div_le_self _ _) h
 obtain⟨m,f,_⟩:=Lib.ctzFrom_spec 64 (w/2 ^ s) (Nat.pos_of_ne_zero a) e;have g:Lib.ctz 64 (w/2 ^ s)=Lib.ctzFrom 64 (w/2 ^ s):=by
  unfold Lib.ctz;rw[ag a]
 rw[g];generalize Lib.ctzFrom 64 (w/2 ^ s)=t at *
 have d: ∀j,(w/2 ^ s).testBit j=(decide (t≤j) && (2*m+1).testBit (j - t)):=λj=>by
  rw[f,Nat.testBit_two_pow_mul]
 have c:w.testBit (s+t)=true:=by
  rw[←ak,d];simp[Nat.testBit_zero]
 refine⟨?_,c,λi b l=>?_⟩;rcases e0 (s+t) 64 with b | b
 exact b;rw[un (ps h (qJ aZ b))] at c
 cases c
 have:=ak (i - s)
 rw[d,show s+(i - s)=i by omega] at this
 rw[←this];simp;omega
theorem GH {w s:Nat} (h:w<2 ^ 64) (l:s<64): (w*2 ^ (63 - s)%2 ^ 64=0→ ∀i,i≤s→w.testBit i=false)∧
 (w*2 ^ (63 - s)%2 ^ 64≠0→64≤s+Lib.bitLen (w*2 ^ (63 - s)%2 ^ 64)∧Lib.bitLen (w*2 ^ (63 - s)%2 ^ 64)≤64∧w.testBit (s+Lib.bitLen (w*2 ^ (63 - s)%2 ^ 64) - 64)=true∧
  ∀i,s+Lib.bitLen (w*2 ^ (63 - s)%2 ^ 64) - 64<i→i≤s→w.testBit i=false):=by
 have a: ∀i,i<64→(w*2 ^ (63 - s)%2 ^ 64).testBit i=(decide (63 - s≤i) && w.testBit (i - (63 - s))):=λi hi=>by
  rw[Nat.testBit_mod_two_pow,qI,Nat.testBit_two_pow_mul];simp[hi]
 have c:w*2 ^ (63 - s)%2 ^ 64<2 ^ 64:=iF _ aZ
 constructor
 intro b i hi;have:=a (i+(63 - s)) aa
 rw[b,Nat.zero_testBit,show i+(63 - s) - (63 - s)=i by omega] at this
 simpa using this.symm
 intro b;obtain⟨m,g,j⟩:=Lib.bitLenAux_bounds 64 _ c b;have d:=Lib.bitLen_le _ 64 aZ c
 unfold Lib.bitLen at d ⊢
 generalize Lib.bitLenAux 64 (w*2 ^ (63 - s)%2 ^ 64)=L at *
 generalize w*2 ^ (63 - s)%2 ^ 64=v at *
 have k:v.testBit (L - 1)=true:=by
  rw[Nat.testBit_eq_decide_div_mod_eq];have:v/2 ^ (L - 1)=1:=by
   apply Nat.div_eq_of_lt_le
   simpa using g
   have:2 ^ L=2*2 ^ (L - 1):=by rw[←Nat.pow_succ'];congr 1;omega
   omega
  rw[this];rfl
 have e:=a (L - 1) aa
 rw[k] at e
 have f:=e.symm
 simp only[d_,e2] at f
 refine⟨aa,d,?_,λi n o=>?_⟩;rw[show s+L - 64=L - 1 - (63 - s) by omega];exact f.2
 have:=a (i+(63 - s)) aa
 rw[show i+(63 - s) - (63 - s)=i by omega,un (ps j (qJ aZ aa))] at this
 simpa using this.symm
theorem GI {w s:Nat} (h:w<2 ^ 64) (a:s<64):w ||| 2 ^ s<2 ^ 64:=oi h (qK aZ a)
theorem cW.set {ws:List Nat} {bs:List Bool} (h:cW ws bs) {x w:Nat} (c:ws[x/64]? = some w) (j:x<bs.length):cW (ws.set (x/64) (w ||| 2 ^ (x%64))) (mI bs (x:Int) true):=by
 have f:=h.lt w (dc c)
 have g:x/64<ws.length:=(cY.1 c).1
 refine⟨λu d=>?_,by rw[mJ,fL];exact h.ei,λy=>?_⟩;rcases rX d with d | rfl
 exact h.lt u d;exact GI f (iF _ aZ);have i:lX (ws.set (x/64) (w ||| 2 ^ (x%64))) y=(lX ws y || decide (x=y)):=by
  unfold lX;rw[fB,oa];by_cases a:x/64=y/64
  rw[ay a,ay g,r1,Nat.testBit_or,Nat.testBit_two_pow,fB,←a,c,r1];congr 1
  rw[hf];omega
  rw[ag a,fB,bO (by rintro rfl;exact a rfl),Bool.or_false]
 rw[i,h.bits];rcases e0 y bs.length with b | b
 rw[xH bs x true y b];by_cases e:x=y
 subst e;simp
 rw[bO e,ag aa,Bool.or_false];rw[p_ b,p_ (by rw[mJ];exact b),bO aa];rfl
theorem cW.QZ {ws:List Nat} {bs:List Bool} (h:cW ws bs) {x w:Nat} (c:ws[x/64]? = some w) (l:x<bs.length):cW (ws.set (x/64) (w &&& (18446744073709551615 - 2 ^ (x%64)))) (mI bs (x:Int) false):=by
 have f:=h.lt w (dc c)
 have g:x/64<ws.length:=(cY.1 c).1
 have ai:2 ^ (x%64)<2 ^ 64:=qK aZ (iF _ aZ)
 refine⟨λu d=>?_,by rw[mJ,fL];exact h.ei,λy=>?_⟩;rcases rX d with d | rfl
 exact h.lt u d;exact qH Nat.and_le_left f;have i:lX (ws.set (x/64) (w &&& (18446744073709551615 - 2 ^ (x%64)))) y=(lX ws y && !decide (x=y)):=by
  unfold lX;rw[fB,oa];by_cases a:x/64=y/64
  have j:18446744073709551615 - 2 ^ (x%64)=2 ^ 64 - (2 ^ (x%64)+1):=by omega
  have k:y%64<64:=iF _ aZ
  rw[ay a,ay g,r1,Nat.testBit_and,j,Nat.testBit_two_pow_sub_succ ai,Nat.testBit_two_pow,fB,←a,c,r1,b5 k,Bool.true_and];congr 2
  rw[hf];omega
  rw[ag a,fB,bO (by rintro rfl;exact a rfl),Bool.not_false,qA]
 rw[i,h.bits];rcases e0 y bs.length with b | b
 rw[xH bs x false y b];by_cases e:x=y
 subst e;simp
 rw[bO e,ag aa,Bool.not_false,qA];rw[p_ b,p_ (by rw[mJ];exact b)];rfl
theorem cW.fa (m n:Nat) (h:n≤64*m):cW (List.replicate m 0) (List.replicate n false):=by
 refine⟨λw a=>by rw[m7 a];decide,by simpa using h,λx=>?_⟩;have b: (List.replicate m 0).getD (x/64) 0=0:=by
  rw[fB,rU];split <;> rfl
 have c:ce (List.replicate n false) x=false:=by
  rw[ce,fB,rU];split <;> rfl
 rw[lX,b,c,Nat.zero_testBit]
theorem cW.oB {ws:List Nat} {bs:List Bool} (h:cW ws bs):cW (ws++[0]) bs:=by
 refine⟨λw hw=>?_,by have:=h.ei;simp;omega,λx=>?_⟩;rcases db.1 hw with hw | hw
 exact h.lt w hw;obtain rfl:w=0:=by simpa using hw
 decide
 rw[←h.bits];unfold lX;rw[fB,fB];rcases e0 (x/64) ws.length with a | a
 rw[m8 a];rw[kY a,km a];rcases gM (x/64 - ws.length) with b | b
 rw[b];rfl
 rw[km (by simp only[iC];omega)]
theorem cW.cut {ws:List Nat} {bs:List Bool} (h:cW ws bs) (n:Nat) (b:n≤64*ws.length) (c: ∀y,n≤y→ce bs y=false):cW ws ((List.range n).map (ce bs)):=by
 refine⟨h.lt,by simpa using b,λx=>?_⟩;rw[h.bits];rcases e0 x n with a | a
 rw[ce,ce,fB (l:=List.map _ _),eJ,rT a];rfl
 rw[c x a,p_ (by simpa using a)]
theorem cW.Q0 {ws:List Nat} {bs:List Bool} (h:cW ws bs) {a x w:Nat} (b:ws[x/64]? = some w) (q:a<x) (g: ∀z,a<z→z<x→ce bs z=false) (j:w/2 ^ (x%64)≠0):
 jk bs a=x+Lib.ctz 64 (w/2 ^ (x%64))∧x+Lib.ctz 64 (w/2 ^ (x%64))<bs.length∧Lib.ctz 64 (w/2 ^ (x%64))<64:=by
 have k:=h.lt w (dc b)
 have l:x%64<64:=iF _ aZ
 obtain⟨m,n,o⟩:=(GG k l).2 j;generalize Lib.ctz 64 (w/2 ^ (x%64))=t at *
 have c: ∀i,i<64→ce bs (64*(x/64)+i)=w.testBit i:=λi hi=>by rw[←h.bits,xI b hi]
 have e:x+t=64*(x/64)+(x%64+t):=by omega
 have d:ce bs (x+t)=true:=by rw[e,c _ m];exact n
 refine⟨GD aa d λz p r=>?_,A3 d,aa⟩;rcases e0 z x with f | f
 exact g z p f;rw[show z=64*(x/64)+(z - 64*(x/64)) by omega,c _ aa];exact o _ aa aa
theorem cW.Q1 {ws:List Nat} {bs:List Bool} (h:cW ws bs) {a x w:Nat} (b:ws[x/64]? = some w) (d: ∀z,a<z→z<x→ce bs z=false) (e:w/2 ^ (x%64)=0):
 ∀z,a<z→z<(x/64+1)*64→ce bs z=false:=by
 have f:=h.lt w (dc b)
 have g:x%64<64:=iF _ aZ
 have i:=(GG f g).1 e
 intro z j k;rcases e0 z x with c | c
 exact d z j c;rw[show z=64*(x/64)+(z - 64*(x/64)) by omega,←h.bits,xI b aa];exact i _ aa
theorem cW.Q2 {ws:List Nat} {bs:List Bool} (h:cW ws bs) {a x w:Nat} (b:ws[x/64]? = some w) (n:x<a) (e: ∀z,x<z→z<a→ce bs z=false) (f:w*2 ^ (63 - x%64)%2 ^ 64≠0):
 (iO bs a:Int)=x - (64 - (Lib.bitLen (w*2 ^ (63 - x%64)%2 ^ 64):Int)):=by
 have g:=h.lt w (dc b)
 have j:x%64<64:=iF _ aZ
 obtain⟨o,p,k,l⟩:=(GH g j).2 f;generalize Lib.bitLen (w*2 ^ (63 - x%64)%2 ^ 64)=L at *
 have c: ∀i,i<64→ce bs (64*(x/64)+i)=w.testBit i:=λi hi=>by rw[←h.bits,xI b hi]
 have:iO bs a=64*(x/64)+(x%64+L - 64):=by
  refine QW aa (by rw[c _ aa];exact k) λz q m=>?_
  rcases e0 x z with d | d
  exact e z d m;rw[show z=64*(x/64)+(z - 64*(x/64)) by omega,c _ aa];exact l _ aa aa
 omega
theorem cW.Q3 {ws:List Nat} {bs:List Bool} (h:cW ws bs) {a x w:Nat} (b:ws[x/64]? = some w) (d: ∀z,x<z→z<a→ce bs z=false) (e:w*2 ^ (63 - x%64)%2 ^ 64=0):
 ∀z,64*(x/64)≤z→z<a→ce bs z=false:=by
 have f:=h.lt w (dc b)
 have g:x%64<64:=iF _ aZ
 have i:=(GH f g).1 e
 intro z k j;rcases e0 x z with c | c
 exact d z c j;rw[show z=64*(x/64)+(z - 64*(x/64)) by omega,←h.bits,xI b aa];exact i _ aa
end Go.Proofs.YtoghoobfpcadbaaGreatDoor.Mq.cO
