/- part 16 of the proof -/
import Derived.Test.YtlgnfdodnhokjaaGreatDoorQ15
import Derived.Lib.ItoaNum
import Derived.Lib.TrailingZeros
namespace Go.Proofs.YtlgnfdodnhokjaaGreatDoor.Mq
open Go Go.RowKit Go.Proofs Tryz
def iter (f:b0→b0):Nat→b0→b0
 | 0,p=>p
 | n+1,p=>f (iter f n p)
def hV (p:b0) (x y n:Int) (f:b0→Nat→Nat→b0):b0:=
 if (0≤x∧x<p.cG.length)∧(0≤y∧y<p.cG.length)∧x≤y then iter (λq=>f q x.toNat y.toNat) (min (max 0 n) (y - x+1)).toNat p else p
structure Kept (k:Nat) (p q:b0):Prop where
 wf:c7 p→c7 q
 rows:q.cG.length=p.cG.length
 cols:q.cols=p.cols
 room:q.room=p.room
 bf:q.gi.length≤p.gi.length+k
theorem Kept.refl (p:b0):Kept 0 p p:=⟨id,rfl,rfl,rfl,aa⟩
theorem Kept.trans {a b:Nat} {p q r:b0} (h:Kept a p q) (k:Kept b q r):Kept (a+b) p r:=⟨λx=>k.wf (h.wf x),k.rows.trans h.rows,k.cols.trans h.cols,k.room.trans h.room,by have:=h.bf;have:=k.bf;omega⟩
theorem Kept.mono {a b:Nat} {p q:b0} (h:Kept a p q) (c:a≤b):Kept b p q:=⟨h.wf,h.rows,h.cols,h.room,by have:=h.bf;omega⟩
theorem qd (p:b0) (k a n:Int):Kept 1 p (fM p k a n):=⟨λh=>qc h k a n,rfl,rfl,rfl,by simp[fM]⟩
theorem G7 (p:b0) (y:Int) {f:bG→bG} (b:c7 p→ ∀r:bG,((r.1.length:Int)=p.cols∧ ∀c∈r.1,c.more.length≤32)→(((f r).1.length:Int)=p.cols∧ ∀c∈(f r).1,c.more.length≤32)):Kept 0 p (nK p y f):=by
 unfold nK;split
 refine⟨λh=>⟨h.cols,by simpa using h.rows,λr a=>?_,h.nM,h.room⟩,by simp,rfl,rfl,by simp⟩;rcases mem_modify a with a | ⟨r',d,rfl⟩
 exact h.wide r a;exact b h r' (h.wide r' d);exact Kept.refl p
theorem l4 (p:b0) (y:Int) (b:Bool):Kept 0 p (iN p y b):=G7 p y (λ_ _ h=>h)
theorem xQ (p:b0) {a b:Nat} (c:a<p.cG.length) (d:b<p.cG.length) (k v:Int):Kept 0 p (nN p a b k v):=⟨λh=>xO h c d k v,A_ c d,rfl,rfl,bW _⟩
theorem G8 (p:b0):Kept 0 p (nO p):=⟨xP,rfl,rfl,rfl,bW _⟩
theorem xR (p:b0) {a b:Nat} (c:a<p.cG.length) (d:b<p.cG.length) (k v:Int):Kept 2 p (s8 p a b k v):=
 (((((qd p 1 (fU p+a) 1).trans (qd _ 0 (fU p+b) 1)).trans (xQ (fM (fM p 1 (fU p+a) 1) 0 (fU p+b) 1) (a:=a) (b:=b) c d k v)).trans (l4 _ a false)).trans (l4 _ (b+1) false)).mono (bW 2)
theorem rq (p:b0) {a b:Nat} (c:a<p.cG.length) (d:b<p.cG.length) (k v:Int):Kept 2 p (o1 p a b k v):=
 (((((qd p 1 (fU p+b) 1).trans (qd _ 0 (fU p+a) 1)).trans (xQ (fM (fM p 1 (fU p+b) 1) 0 (fU p+a) 1) (a:=b) (b:=a) d c k v)).trans (l4 _ (a+1) false)).trans (l4 _ (b+1) false)).mono (bW 2)
theorem vd (p:b0) {a b:Nat} (d:a<p.cG.length) (c:b<p.cG.length) (k v:Int):Kept 2 p (mS p a b k v):=by
 unfold mS;split
 exact xR p d c k v;dsimp only;split
 exact (((((qd p 0 (fU p+b+1) 1).trans (G8 _)).trans (qd _ 2 0 1)).trans (xQ (fM (nO (fM p 0 (fU p+b+1) 1)) 2 0 1) (a:=0) (b:=b) (by show 0<p.cG.length;omega) c k v)).trans (l4 _ (b+1) false)).mono (bW 2);exact ((((qd p 0 (fU p+b+1) 1).trans (G8 _)).trans (xQ (nO (fM p 0 (fU p+b+1) 1)) (a:=0) (b:=b) (by show 0<p.cG.length;omega) c k v)).trans (l4 _ (b+1) false)).mono aZ
theorem ve {f:b0→b0} {p:b0} (a: ∀q,q.cG.length=p.cG.length→Kept 2 q (f q)): ∀n,Kept (2*n) p (iter f n p)
 | 0=>Kept.refl p
 | n+1=>((ve a n).trans (a _ (ve a n).rows)).mono aa
theorem qe (p:b0) (x y n:Int) {f:b0→Nat→Nat→b0} (c: ∀q a b,a<q.cG.length→b<q.cG.length→Kept 2 q (f q a b)):Kept (2*p.cG.length) p (hV p x y n f):=by
 unfold hV;split
 rename_i h;obtain⟨⟨d,e⟩,⟨g,i⟩,j⟩:=h;exact (ve (λq k=>c q _ _ aa aa) _).mono aa;exact (Kept.refl p).mono aa
theorem Bd (w:World) (p:bq) (F:a8 w (bB p)) (z:cX p.r) (A:c7 p.abs) (Zb:p.bf.l.length≤1152921500000) (x y n an aM:Int) (f:b0→Nat→Nat→b0) (G: ∀q a b,a<q.cG.length→b<q.cG.length→Kept 2 q (f q a b)) (j:FuncId) (H:ad prog j)
 (I: ∀w' (q:bq) (a b:Nat),a8 w' (bB q)→cX q.r→c7 q.abs→q.bf.l.length≤1152921504600→a<q.s.l.length→b<q.s.l.length→Calls prog j [ptr q.g,.int .i64 (a:Int),.int .i64 (b:Int),.agg [.int .i64 an,.int .i64 aM].toArray].toArray w' (hT q (f q.abs a b) w')):
 Calls prog 381 [ptr p.g,.int .i64 x,.int .i64 y,.int .i64 n,.func (.func j) [ptr p.g].toArray [].toArray,.agg [.int .i64 an,.int .i64 aM].toArray].toArray w (hT p (hV p.abs x y n f) w):=by
 have J:=A.rows
 have o:p.abs.cG.length=p.s.l.length:=by simp[bq.abs,b5]
 rw[o] at J
 refine bI func381 ntmps381 F ?_;refine ah ?_;intro t Zc Zd;refine aS ?_;refine hL (λb:Bool=>[(0,ptr p.g),(1,.int .i64 x),(2,.int .i64 y),(3,.int .i64 n),(4,.func (.func j) [ptr p.g].toArray [].toArray),(11,ptr t),(26,.bool b)]) (λ_=>af w (aB (bB p)) (aD t [.int .i64 an,.int .i64 aM] 123::bB p)) (λb=>(b=true)= ¬((0≤x∧x<p.s.l.length)∧(0≤y∧y<p.s.l.length)∧x≤y)) ?_ ?_;refine ah ?_;refine ao rfl sG rfl (λk m=>sX k p (m.has bJ) x) ?_;refine aq ?_;refine aW 16 rfl (λK=>?_) (λK=>?_);refine bp ?_;refine dr _ ?_ (gX rfl rfl rfl rfl rfl rfl rfl) (λ_ h=>h);simp at *
 omega
 refine ay ?_;refine ao rfl sG rfl (λk m=>sX k p (m.has bJ) y) ?_;refine aS ?_;refine aW 22 rfl (λaH=>?_) (λaH=>?_);refine ay ?_;refine dr _ ?_ (gX rfl rfl rfl rfl rfl rfl rfl) (λ_ h=>h);simp at *
 omega
 refine aK ?_;refine dr _ ?_ (gX rfl rfl rfl rfl rfl rfl rfl) (λ_ h=>h);simp at *
 omega
 intro b B;refine ar ?_;refine b1 rfl (λe=>?_) (λe=>?_);rw[B] at e
 refine ah ?_;intro L u;exact aN p ⟨rfl,z,by rw[hV,ag (by rw[o];exact e)]⟩ u;have C: ¬(b=true):=by rw[e];decide
 rw[B,Classical.not_not] at C
 have e:=C
 obtain⟨⟨M,O⟩,⟨P,Q⟩,R⟩:=e;obtain⟨a,rfl⟩ : ∃a:Nat,x=(a:Int):=⟨x.toNat,aa⟩;obtain⟨d,rfl⟩ : ∃d:Nat,y=(d:Int):=⟨y.toNat,aa⟩;refine cF ?_;obtain⟨N,D⟩ : ∃N:Nat,min (max 0 n) ((d:Int) - (a:Int)+1)=(N:Int):=⟨(min (max 0 n) ((d:Int) - (a:Int)+1)).toNat,aa⟩;refine b2 (ι:=Nat × bq) (λi=>[(0,ptr p.g),(1,.int .i64 (a:Int)),(2,.int .i64 (d:Int)),(4,.func (.func j) [ptr p.g].toArray [].toArray),(11,ptr t),(33,.int .i64 (N:Int)),(34,.int .i64 (i.1 :Int))]) (λi=>af w (aB (bB p)) (aD t [.int .i64 an,.int .i64 aM] 123::bB i.2)) (λi=>i.1≤N∧Ru p.g (iter (λq=>f q a d) i.1 p.abs) i.2) (λi=>N - i.1) ?_ ?_;exact λw' S=>⟨(0,p),⟨bP _,⟨rfl,z,rfl⟩⟩,by rw[D];exact (gX rfl rfl rfl rfl rfl rfl rfl),S⟩
 rintro⟨i,q⟩ ⟨hi,c⟩;dsimp only at hi c ⊢
 have v:=ve (p:=p.abs) (f:=λq=>f q a d) (λq c=>G q a d aa aa) i
 have Ze:q.s.l.length=p.s.l.length:=by have:=v.rows;rw[←c.abs,o] at this;simpa [bq.abs,b5] using this
 have Zf:q.bf.l.length≤p.bf.l.length+2*i:=by have:=v.bf;rw[←c.abs] at this;exact this
 have T:c7 q.abs:=by rw[c.abs];exact v.wf A
 refine al ?_;refine aj (λU=>?_) (λU=>?_);refine aJ ?_;refine lU (l0:=bB q) (first:=[ptr p.g]) (cap:=[]) ae rfl rfl H rfl (λk m=>by have E:=I k q a d (m.bo ae) c.r T aa aa aa;rw[c.g] at E;exact E) (λV W=>?_);refine aC ?_;obtain⟨X,Y,Z⟩:=W;exact bi (i+1,V) ⟨by show i+1≤N;omega,⟨X.trans c.g,Y,by rw[Z,c.abs];rfl⟩⟩ (by show N - (i+1)<N - i;omega) bR (λ_ h=>h.ax ae);refine ay ?_;intro L u;have Za:i=N:=by omega
 subst Za;refine aN q ⟨c.g,c.r,?_⟩ u;rw[hV,aw (by rw[o];exact⟨⟨M,O⟩,⟨P,Q⟩,R⟩),D];exact c.abs
theorem G9 (w:World) (p:bq) (c:a8 w (bB p)) (d:cX p.r) (e:c7 p.abs) (f:p.bf.l.length≤1152921500000) (x y n an aM:Int):
 Calls prog 314 [ptr p.g,.int .i64 x,.int .i64 y,.int .i64 n,.agg [.int .i64 an,.int .i64 aM].toArray].toArray w (hT p (hV p.abs x y n (λq a b=>mS q a b an aM)) w):=by
 refine bI func314 ntmps314 c ?_;refine ah ?_;intro C D E;refine aQ ?_;refine a6 (l0:=bB p) ae rfl Ak rfl (λh i=>Bd h p (i.bo ae) d e f x y n an aM (λq a b=>mS q a b an aM) (λq a b j k=>vd q j k an aM) _ Pi (λw' q a b m o s t u v=>Ry w' q m o s t a b u v an aM)) (λz A=>?_);refine aq ?_;intro F B;exact aN z A B
theorem Rz (w:World) (p:bq) (c:a8 w (bB p)) (d:cX p.r) (e:c7 p.abs) (f:p.bf.l.length≤1152921500000) (x y n an aM:Int):
 Calls prog 335 [ptr p.g,.int .i64 x,.int .i64 y,.int .i64 n,.agg [.int .i64 an,.int .i64 aM].toArray].toArray w (hT p (hV p.abs x y n (λq a b=>s8 q a b an aM)) w):=by
 refine bI func335 ntmps335 c ?_;refine ah ?_;intro C D E;refine aQ ?_;refine a6 (l0:=bB p) ae rfl Ak rfl (λh i=>Bd h p (i.bo ae) d e f x y n an aM (λq a b=>s8 q a b an aM) (λq a b j k=>xR q j k an aM) _ Fv (λw' q a b m o s t u v=>G5 w' q m o s t a b u v an aM)) (λz A=>?_);refine aq ?_;intro F B;exact aN z A B
theorem Be (w:World) (p:bq) (c:a8 w (bB p)) (d:cX p.r) (e:c7 p.abs) (f:p.bf.l.length≤1152921500000) (x y n an aM:Int):
 Calls prog 316 [ptr p.g,.int .i64 x,.int .i64 y,.int .i64 n,.agg [.int .i64 an,.int .i64 aM].toArray].toArray w (hT p (hV p.abs x y n (λq a b=>o1 q a b an aM)) w):=by
 refine bI func316 ntmps316 c ?_;refine ah ?_;intro C D E;refine aQ ?_;refine a6 (l0:=bB p) ae rfl Ak rfl (λh i=>Bd h p (i.bo ae) d e f x y n an aM (λq a b=>o1 q a b an aM) (λq a b j k=>rq q j k an aM) _ Pj (λw' q a b m o s t u v=>Rv w' q m o s t a b u v an aM)) (λz A=>?_);refine aq ?_;intro F B;exact aN z A B
def vf (p:b0):b0:={ p with jL:=[] }
theorem G_ (p:b0):Kept 0 p (vf p):=⟨λh=>⟨h.cols,h.rows,h.wide,by simp[vf],by have:=h.room;simp[vf];omega⟩,rfl,rfl,rfl,bW _⟩
theorem Ha (p:b0):Kept 1 p (s9 p):=by
 unfold s9;split
 exact (Kept.refl p).mono aa;exact (((G_ p).trans (qd _ 2 0 p.jL.length)).trans (l4 _ 0 false)).mono aa
theorem Hb {f:List bh→List bh} (h: ∀L,(f L).length=L.length) (b: ∀L,(∀c∈L,c.more.length≤32)→ ∀c∈f L,c.more.length≤32) {L:List bh} (d: ∀c∈L,c.more.length≤32): ∀c∈cT f L,c.more.length≤32:=by
 have a: ∀c:bh,c.more.length≤32→(gY c.at_).more.length≤32:=λ_ _=>bP _
 exact xJ a (b _ (xJ a d))
theorem s_ (p:b0) (y:Int) {f:List bh→List bh} (h: ∀L,(f L).length=L.length) (b: ∀L,(∀c∈L,c.more.length≤32)→ ∀c∈f L,c.more.length≤32):Kept 0 p (nL p y (cT f)):=
 G7 p y (λ_ r a=>⟨by simp only[AZ h];exact a.1,Hb h b a.2⟩)
theorem Bf {L:List bh} {p k:Nat} {an aM:Int} (h: ∀c∈L,c.more.length≤32): ∀c∈fx L p k an aM,c.more.length≤32:=by
 intro c a;unfold fx at a
 simp only[cZ] at a
 rcases a with (a | a) | a
 exact h c (iE a);rw[ng a];exact bP _
 exact h c (lN a)
theorem Hc {L:List bh} {p q m:Nat} (h: ∀c∈L,c.more.length≤32): ∀c∈l3 L p q m,c.more.length≤32:=by
 intro c a;unfold l3 at a
 simp only[cZ] at a
 rcases a with (a | a) | a
 exact h c (iE a);exact h c (lN (iE a));exact h c (lN a)
theorem vg {α:Type} {l:List α} {k:Nat} {a x:α} (h:x∈l.set k a):x∈l∨x=a:=by
 rcases r_ h with h | h
 exact .inl h;exact .inr h
theorem vh (p:b0) (y x r:Int) (a:hO):Kept 0 p (vb p y x r a):=s_ p y (λL=>rj L x r a) (λL h c b=>by
 unfold jK at b
 split at b
 exact h c b;split at b
 rcases vg b with b | rfl
 rcases vg b with b | rfl
 exact h c b;exact bP _;exact bP _;rcases vg b with b | rfl
 exact h c b;exact bP _)
theorem Bg {L:List bh} {q:Nat} {m:List UInt8} (b:m.length≤32) (h: ∀c∈L,c.more.length≤32): ∀c∈hs L q m,c.more.length≤32:=by
 intro c a;unfold hs at a
 split at a
 rcases vg a with a | rfl
 exact h c a;exact b;exact h c a
theorem Hd (p:b0) (y x r:Int):Kept 0 p (xK p y x r):=s_ p y (λL=>fL L x r) (λL h c a=>by
 unfold eG at a
 split at a
 exact h c a;split at a
 exact h c a;split at a
 exact h c a;split at a
 exact h c a;rename_i b;refine Bg aa (λd ak=>?_) c a;split at ak
 exact Bg aa h d ak;split at ak
 exact Bg aa h d ak;exact h d ak)
theorem He (p:b0) (y:Int):Kept 0 p (xL p y):=s_ p y xH (λL h c a=>by
 unfold mR at a
 split at a
 rcases vg a with a | rfl
 exact h c a;exact bP _;exact h c a)
theorem xS (p:b0) (y x n k v:Int):Kept 0 p (vc p y x n k v):=s_ p y (λL=>s0 L x n k v) (λL h c a=>by
 unfold insertC at a
 split at a
 exact h c a;exact Bf (Hc h) c a)
theorem Hf (p:b0) (y x n k v:Int):Kept 0 p (A3 p y x n k v):=s_ p y (λL=>s3 L x n k v) (λL h c a=>by
 unfold j5 at a
 split at a
 exact h c a;exact Bf (Hc h) c a)
theorem vi (p:b0) (y a b k v:Int):Kept 0 p (nL p y (cT (λL=>kD L a b k v))):=s_ p y (λL=>xI L a b k v) (λL h c d=>by
 unfold kD at d
 split at d
 exact Bf h c d;exact h c d)
theorem o2 (p:b0) (y a b k v:Int):Kept 0 p (eraseP p y a b k v):=by
 unfold eraseP;split
 dsimp only;split
 split
 exact ((vi p y a b k v).trans (l4 _ (y+1) false)).trans (l4 _ y false);exact (vi p y a b k v).trans (l4 _ (y+1) false);exact vi p y a b k v;exact Kept.refl p
theorem RA (w:World) (p:bq) (q:a8 w (bB p)) (c:cX p.r) (s:c7 p.abs) (K:p.bf.l.length≤1152921504600):
 Calls prog 329 [ptr p.g].toArray w (hT p (s9 p.abs) w):=by
 have e:=rp c
 have L:=c.n
 refine bI func329 ntmps329 q ?_;refine aS ?_;refine ao rfl oL rfl (λa b=>oX a p (b.has aT) ((b.has bJ: (aR (cc p.r)).pred a) p.r.an av)) ?_;refine ah ?_;refine aj (λf=>?_) (λf=>?_);refine ah ?_;intro t h;exact aP.bQ p ⟨rfl,c,by rw[s9,aw (by rw[e,fU] at f;omega)]⟩ rfl h;refine aJ ?_;refine ld (lc:=cc p.r) cw ?_;refine cJ (λa b=>GZ a p.r b c) (λj u=>?_);obtain⟨v,y,z,A⟩:=u;refine gR (H':=af w (aB (bB p)) (bB (iq p j))) ?_ (Sub.refl _) (λx B=>Rx v B ae);have k: (iq p j).abs=vf p.abs:=by simp only[bq.abs,iq,vf,A,y]
 refine a6 (l0:=bB (iq p j)) ae rfl pO rfl (λa b=>by have d:=p9 a (iq p j) (b.bo ae) z (by show p.bf.l.length≤_;omega) 2 0 p.r.n;exact d) (λi C=>?_);obtain⟨m,D,o⟩:=C;have E:c7 i.abs:=by rw[o,k];exact qc ((G_ p.abs).wf s) _ _ _
 refine aS ?_;refine a6 (l0:=bB i) ae rfl pS rfl (λa b=>by have d:=p8 a i (b.bo ae) D E 0;rw[m] at d;exact d) (λF G=>?_);refine aq ?_;intro t h;obtain⟨H,I,J⟩:=G;exact aN F ⟨H.trans m,I,by rw[J,o,k,e,s9,ag (by rw[e,fU] at f;omega)];rfl⟩ h
theorem vj (w:World) (p:bq) (E:a8 w (bB p)) (B:cX p.r) (q:c7 p.abs) (y a b an aM:Int) (Q: -1000000≤y∧y≤1000000):
 Calls prog 230 [ptr p.g,.int .i64 y,.int .i64 a,.int .i64 b,.agg [.int .i64 an,.int .i64 aM].toArray].toArray w (hT p (eraseP p.abs y a b an aM) w):=by
 have i:p.abs.cG.length=p.s.l.length:=by simp[bq.abs,b5]
 have k:p.abs.cols=p.cols:=rfl
 refine bI func230 ntmps230 E ?_;refine ah ?_;intro R S T;refine ar ?_;intro U V W;refine ar ?_;intro X Y Z;refine aC ?_;refine ao rfl sG rfl (λe c=>sX e p (c.has gD) y) ?_;refine ah ?_;refine b1 rfl (λt=>?_) (λt=>?_);simp only[bZ] at t
 refine ah ?_;intro m d;exact aN p ⟨rfl,B,by rw[eraseP,ag (by rw[i];omega)]⟩ d;simp only[bZ] at t
 refine aC ?_;refine a6 (ι:=bq) (l0:=bB p) ae rfl sH rfl (λe c=>s6 e p (c.bo ae) B q y (cT (λL=>kD L a b an aM)) _ [ptr _,ptr _,ptr _] OO (λw' g F u G H=>Q8 w' _ _ _ a b an aM (u.dF (c.has cr) (c.apart ae cr)) (u.dF (c.has bJ) (c.apart ae bJ)) (u.dF (c.has aT) (c.apart ae aT)) F _ _ _ _ H (oZ q G).1)) (λf I=>?_);refine ah ?_;obtain⟨j,v,h⟩:=I;have C:c7 f.abs:=by rw[h];exact (vi p.abs y a b an aM).wf q
 have Za:f.cols=p.cols:=by have:=aU b0.cols h;rw[(vi p.abs y a b an aM).cols] at this;exact this
 rw[←j];refine bF [0,1,2,3,4,5,6,7,8,9,10,11,12,13] 0 [[]] ?_;refine aC ?_;refine ny 24 rfl (λaH=>?_) (λaH=>?_);have J:=aX aH
 refine aQ ?_;refine aj (λK=>?_) (λK=>?_);refine ay ?_;refine a6 (l0:=bB f) ae rfl pS rfl (λe c=>by have n:=p8 e f (c.bo ae) v C (y+1);exact n) (λo M=>?_);obtain⟨x,D,z⟩:=M;have N:c7 o.abs:=by rw[z];exact Bb C _ _
 refine aK ?_;refine aj (λO=>?_) (λO=>?_);refine ah ?_;refine a6 (l0:=bB o) ae rfl pS rfl (λe c=>by have n:=p8 e o (c.bo ae) D N y;rw[x] at n;exact n) (λP A=>?_);refine aq ?_;intro m d;exact aN P ⟨(A.1.trans x).trans j,A.2.1,by rw[A.2.2,z,h,eraseP,aw (by rw[i];omega)];dsimp only;rw[aw (by rw[k];omega),aw aa]⟩ d;refine aq ?_;intro m d;exact aN o ⟨x.trans j,D,by rw[z,h,eraseP,aw (by rw[i];omega)];dsimp only;rw[aw (by rw[k];omega),ag aa]⟩ d;refine aq ?_;intro m d;exact aN f ⟨j,v,by rw[h,eraseP,aw (by rw[i];omega)];dsimp only;rw[ag (by rw[k];omega)]⟩ d;have J:=bd aH
 refine bH ?_;intro m d;exact aN f ⟨j,v,by rw[h,eraseP,aw (by rw[i];omega)];dsimp only;rw[ag (by rw[k];omega)]⟩ d
end Go.Proofs.YtlgnfdodnhokjaaGreatDoor.Mq
namespace Go.Proofs.YtlgnfdodnhokjaaGreatDoor.Mq.cN
open Go Go.RowKit Go.Proofs
def l5 (ws:List Nat) (x:Nat):Bool:=(ws.getD (x/64) 0).testBit (x%64)
def cd (bs:List Bool) (x:Nat):Bool:=bs.getD x false
def mT (bs:List Bool) (x:Int) (a:Bool):List Bool:=if 0≤x∧x<(bs.length:Int) then bs.set x.toNat a else bs
def jo (bs:List Bool) (n:Nat):List Bool:=(List.range n).map (λx=>if x<bs.length then cd bs x else decide (x%8=0))
def jp (bs:List Bool) (x:Nat):Nat:=((List.range bs.length).find? (λy=>decide (x<y) && cd bs y)).getD (bs.length - 1)
def iQ (bs:List Bool) (x:Nat):Nat:=((List.range x).reverse.find? (cd bs)).getD 0
def iter (f:Nat→Nat):Nat→Nat→Nat
 | 0,x=>x
 | k+1,x=>f (iter f k x)
def xT (n:Nat) (x:Int):Nat:=(max 0 (min x ((n:Int) - 1))).toNat
def nP (f:Nat→Nat) (len:Nat) (x n:Int):Nat:=iter f (min (max 0 n) (len:Int)).toNat (xT len x)
theorem qf {bs:List Bool} {x:Nat} (h:bs.length≤x):cd bs x=false:=by rw[cd,fI,kq h];rfl
theorem Bh {bs:List Bool} {x:Nat} (h:cd bs x=true):x<bs.length:=by
 unfold cd at h
 rcases ej x bs.length with a | a
 exact a;have:=qf a;unfold cd at this;rw[this] at h;cases h
theorem Hg {bs:List Bool} {x:Nat} (h:x<bs.length):bs[x]? = some (cd bs x):=by
 rw[cd,fI,bE h];rfl
theorem ta {a b:List Bool} (d:a.length=b.length) (h: ∀x,x<a.length→cd a x=cd b x):a=b:=by
 apply mz
 intro i;rcases ej i a.length with c | c
 rw[Hg c,Hg (d▸c),h i c];rw[kq c,kq (d▸c)]
theorem mU (bs:List Bool) (x:Int) (a:Bool): (mT bs x a).length=bs.length:=by unfold mT;split <;> simp
theorem qg (bs:List Bool) (n:Nat): (jo bs n).length=n:=by simp[jo]
theorem xU (bs:List Bool) (x:Int) (a:Bool) (y:Nat) (c:y<bs.length):cd (mT bs x a) y=if x=(y:Int) then a else cd bs y:=by
 unfold mT;split
 rename_i h;unfold cd;rw[fI,om];by_cases b:x=(y:Int)
 subst b;simp[c]
 rw[ag b,ag aa,fI];rename_i h;rw[ag aa]
theorem RB (bs:List Bool) (n y:Nat) (a:y<n):cd (jo bs n) y=if y<bs.length then cd bs y else decide (y%8=0):=by
 unfold jo cd;rw[fI,eD,r7 a];rfl
theorem Hh {bs:List Bool} {x y:Nat} (c:x<y) (a:cd bs y=true) (d: ∀z,x<z→z<y→cd bs z=false):jp bs x=y:=by
 have e:=Bh a
 unfold jp;have: (List.range bs.length).find? (λy=>decide (x<y) && cd bs y)=some y:=by
  rw[List.find?_range_eq_some];refine⟨by simp[c,a],by simpa using e,λz f=>?_⟩;by_cases b:x<z
  simp[d z b f]
  simp[b]
 rw[this];rfl
theorem Hi {bs:List Bool} {x:Nat} (b: ∀z,x<z→z<bs.length→cd bs z=false):jp bs x=bs.length - 1:=by
 unfold jp;have: (List.range bs.length).find? (λy=>decide (x<y) && cd bs y)=none:=by
  rw[List.find?_eq_none];intro z c;by_cases a:x<z
  simp[b z a (by simpa using c)]
  simp[a]
 rw[this];rfl
theorem least {p:Nat→Bool} {n:Nat} (h:p n=true): ∃m,m≤n∧p m=true∧ ∀z,z<m→p z=false:=by
 induction n using Nat.strongRecOn with
 | _ n e=>
  by_cases d: ∃z,z<n∧p z=true
  obtain⟨z,f,g⟩:=d;obtain⟨m,a,b,c⟩:=e z f g;exact⟨m,aa,b,c⟩;exact⟨n,bW _,h,λz i=>by
   cases ai:p z with
   | false=>rfl
   | true=>exact absurd ⟨z,i,ai⟩ d⟩
theorem RC (bs:List Bool) (x:Nat): (x<jp bs x∧cd bs (jp bs x)=true∧ ∀z,x<z→z<jp bs x→cd bs z=false)∨((∀z,x<z→cd bs z=false)∧jp bs x=bs.length - 1):=by
 by_cases h: ∃z,x<z∧cd bs z=true
 obtain⟨z,d,e⟩:=h;obtain⟨m,_,b,f⟩:=least (p:=λz=>decide (x<z) && cd bs z) (n:=z) (by simp[d,e]);simp only[d4,e9] at b
 have a: ∀z,x<z→z<m→cd bs z=false:=λz a g=>by
  have:=f z g
  simpa [a] using this
 have:=Hh b.1 b.2 a
 left
 rw[this];exact⟨b.1,b.2,a⟩;right
 have a: ∀z,x<z→cd bs z=false:=λz c=>by
  cases ai:cd bs z with
  | false=>rfl
  | true=>exact absurd ⟨z,c,ai⟩ h
 exact⟨a,Hi λz c _=>a z c⟩
theorem RD {bs:List Bool} {x y:Nat} (d:y<x) (e:cd bs y=true) (c: ∀z,y<z→z<x→cd bs z=false):iQ bs x=y:=by
 unfold iQ;have f: ∀x,y<x→(∀z,y<z→z<x→cd bs z=false)→(List.range x).reverse.find? (cd bs)=some y:=by
  intro x;induction x with
  | zero=>intro h;omega
  | succ x g=>
   intro d c;rw[List.range_succ,uv,List.reverse_singleton,sb,List.find?_cons];rcases ej y x with h | h
   rw[c x h aa];exact g h λz a b=>c z a aa
   obtain rfl:y=x:=by omega
   rw[e]
 rw[f x d c];rfl
theorem RE {bs:List Bool} {x:Nat} (b: ∀z,z<x→cd bs z=false):iQ bs x=0:=by
 unfold iQ;have: (List.range x).reverse.find? (cd bs)=none:=by
  rw[List.find?_eq_none];intro z a;simp only[List.mem_reverse,List.mem_range] at a
  simp[b z a]
 rw[this];rfl
theorem RF (bs:List Bool) (x:Nat):iQ bs (x+1)=if cd bs x then x else iQ bs x:=by
 unfold iQ;rw[List.range_succ,uv,List.reverse_singleton,sb,List.find?_cons];cases cd bs x <;> simp
theorem Bi (bs:List Bool): ∀x,iQ bs x≤x - 1
 | 0=>by simp[iQ]
 | x+1=>by
  rw[RF];have:=Bi bs x
  split <;> omega
theorem Hj {bs:List Bool} (x:Nat) (h:0<bs.length):jp bs x<bs.length:=by
 rcases RC bs x with a | a
 exact Bh a.2.1;omega
theorem vk {f:Nat→Nat} {len:Nat} (a: ∀x,x<len→f x<len): ∀(k x:Nat),x<len→iter f k x<len
 | 0,_,h=>h
 | k+1,x,h=>a _ (vk a k x h)
structure cU (ws:List Nat) (bs:List Bool):Prop where
 lt: ∀w∈ws,w<2 ^ 64
 ek:bs.length≤64*ws.length
 bits: ∀x,l5 ws x=cd bs x
theorem xV {ws:List Nat} {q w s:Nat} (h:ws[q]? = some w) (c:s<64):l5 ws (64*q+s)=w.testBit s:=by
 have a: (64*q+s)/64=q:=by omega
 have b: (64*q+s)%64=s:=by omega
 rw[l5,a,b,fI,h];rfl
theorem Hk {w s:Nat} (h:w<2 ^ 64) (k:s<64): (w/2 ^ s=0→ ∀i,s≤i→w.testBit i=false)∧
 (w/2 ^ s≠0→s+Lib.ctz 64 (w/2 ^ s)<64∧w.testBit (s+Lib.ctz 64 (w/2 ^ s))=true∧ ∀i,s≤i→i<s+Lib.ctz 64 (w/2 ^ s)→w.testBit i=false):=by
 have ak: ∀j,(w/2 ^ s).testBit j=w.testBit (s+j):=λj=>by rw[Nat.testBit_div_two_pow,Nat.add_comm]
 constructor
 intro a i hi;have:=ak (i - s)
 rw[a,Nat.zero_testBit,show s+(i - s)=i by omega] at this
 exact this.symm;intro a;have e:w/2 ^ s<2 ^ 64:=qP (Nat.div_le_self _ _) h
 obtain⟨m,f,_⟩:=Lib.ctzFrom_spec 64 (w/2 ^ s) (Nat.pos_of_ne_zero a) e;have g:Lib.ctz 64 (w/2 ^ s)=Lib.ctzFrom 64 (w/2 ^ s):=by
  unfold Lib.ctz;rw[ag a]
 rw[g];generalize Lib.ctzFrom 64 (w/2 ^ s)=t at *
 have d: ∀j,(w/2 ^ s).testBit j=(decide (t≤j) && (2*m+1).testBit (j - t)):=λj=>by
  rw[f,Nat.testBit_two_pow_mul]
 have c:w.testBit (s+t)=true:=by
  rw[←ak,d];simp[Nat.testBit_zero]
 refine⟨?_,c,λi b l=>?_⟩;rcases ej (s+t) 64 with b | b
 exact b;rw[uy (pA h (qR aZ b))] at c
 cases c
 have:=ak (i - s)
 rw[d,show s+(i - s)=i by omega] at this
 rw[←this];simp;omega
theorem Hl {w s:Nat} (h:w<2 ^ 64) (l:s<64): (w*2 ^ (63 - s)%2 ^ 64=0→ ∀i,i≤s→w.testBit i=false)∧
 (w*2 ^ (63 - s)%2 ^ 64≠0→64≤s+Lib.bitLen (w*2 ^ (63 - s)%2 ^ 64)∧Lib.bitLen (w*2 ^ (63 - s)%2 ^ 64)≤64∧w.testBit (s+Lib.bitLen (w*2 ^ (63 - s)%2 ^ 64) - 64)=true∧
  ∀i,s+Lib.bitLen (w*2 ^ (63 - s)%2 ^ 64) - 64<i→i≤s→w.testBit i=false):=by
 have a: ∀i,i<64→(w*2 ^ (63 - s)%2 ^ 64).testBit i=(decide (63 - s≤i) && w.testBit (i - (63 - s))):=λi hi=>by
  rw[Nat.testBit_mod_two_pow,qQ,Nat.testBit_two_pow_mul];simp[hi]
 have c:w*2 ^ (63 - s)%2 ^ 64<2 ^ 64:=iH _ aZ
 constructor
 intro b i hi;have:=a (i+(63 - s)) aa
 rw[b,Nat.zero_testBit,show i+(63 - s) - (63 - s)=i by omega] at this
 simpa using this.symm
 intro b;obtain⟨m,g,j⟩:=Lib.bitLenAux_bounds 64 _ c b;have d:=Lib.bitLen_le _ 64 aZ c
 unfold Lib.bitLen at d ⊢
 generalize Lib.bitLenAux 64 (w*2 ^ (63 - s)%2 ^ 64)=L at *
 generalize w*2 ^ (63 - s)%2 ^ 64=v at *
 have k:v.testBit (L - 1)=true:=by
  rw[Nat.testBit_eq_decide_div_mod_eq];have:v/2 ^ (L - 1)=1:=by
   apply Nat.div_eq_of_lt_le
   simpa using g
   have:2 ^ L=2*2 ^ (L - 1):=by rw[←Nat.pow_succ'];congr 1;omega
   omega
  rw[this];rfl
 have e:=a (L - 1) aa
 rw[k] at e
 have f:=e.symm
 simp only[d4,e9] at f
 refine⟨aa,d,?_,λi n o=>?_⟩;rw[show s+L - 64=L - 1 - (63 - s) by omega];exact f.2
 have:=a (i+(63 - s)) aa
 rw[show i+(63 - s) - (63 - s)=i by omega,uy (pA j (qR aZ aa))] at this
 simpa using this.symm
theorem Hm {w s:Nat} (h:w<2 ^ 64) (a:s<64):w ||| 2 ^ s<2 ^ 64:=ox h (qS aZ a)
theorem cU.set {ws:List Nat} {bs:List Bool} (h:cU ws bs) {x w:Nat} (c:ws[x/64]? = some w) (j:x<bs.length):cU (ws.set (x/64) (w ||| 2 ^ (x%64))) (mT bs (x:Int) true):=by
 have f:=h.lt w (da c)
 have g:x/64<ws.length:=(cK.1 c).1
 refine⟨λu d=>?_,by rw[mU,gc];exact h.ek,λy=>?_⟩;rcases r_ d with d | rfl
 exact h.lt u d;exact Hm f (iH _ aZ);have i:l5 (ws.set (x/64) (w ||| 2 ^ (x%64))) y=(l5 ws y || decide (x=y)):=by
  unfold l5;rw[fI,om];by_cases a:x/64=y/64
  rw[aw a,aw g,sd,Nat.testBit_or,Nat.testBit_two_pow,fI,←a,c,sd];congr 1
  rw[gQ];omega
  rw[ag a,fI,cg (by rintro rfl;exact a rfl),Bool.or_false]
 rw[i,h.bits];rcases ej y bs.length with b | b
 rw[xU bs x true y b];by_cases e:x=y
 subst e;simp
 rw[cg e,ag aa,Bool.or_false];rw[qf b,qf (by rw[mU];exact b),cg aa];rfl
theorem cU.RG {ws:List Nat} {bs:List Bool} (h:cU ws bs) {x w:Nat} (c:ws[x/64]? = some w) (l:x<bs.length):cU (ws.set (x/64) (w &&& (18446744073709551615 - 2 ^ (x%64)))) (mT bs (x:Int) false):=by
 have f:=h.lt w (da c)
 have g:x/64<ws.length:=(cK.1 c).1
 have ai:2 ^ (x%64)<2 ^ 64:=qS aZ (iH _ aZ)
 refine⟨λu d=>?_,by rw[mU,gc];exact h.ek,λy=>?_⟩;rcases r_ d with d | rfl
 exact h.lt u d;exact qP Nat.and_le_left f;have i:l5 (ws.set (x/64) (w &&& (18446744073709551615 - 2 ^ (x%64)))) y=(l5 ws y && !decide (x=y)):=by
  unfold l5;rw[fI,om];by_cases a:x/64=y/64
  have j:18446744073709551615 - 2 ^ (x%64)=2 ^ 64 - (2 ^ (x%64)+1):=by omega
  have k:y%64<64:=iH _ aZ
  rw[aw a,aw g,sd,Nat.testBit_and,j,Nat.testBit_two_pow_sub_succ ai,Nat.testBit_two_pow,fI,←a,c,sd,bX k,Bool.true_and];congr 2
  rw[gQ];omega
  rw[ag a,fI,cg (by rintro rfl;exact a rfl),Bool.not_false,qH]
 rw[i,h.bits];rcases ej y bs.length with b | b
 rw[xU bs x false y b];by_cases e:x=y
 subst e;simp
 rw[cg e,ag aa,Bool.not_false,qH];rw[qf b,qf (by rw[mU];exact b)];rfl
theorem cU.ff (m n:Nat) (h:n≤64*m):cU (List.replicate m 0) (List.replicate n false):=by
 refine⟨λw a=>by rw[ng a];decide,by simpa using h,λx=>?_⟩;have b: (List.replicate m 0).getD (x/64) 0=0:=by
  rw[fI,r8];split <;> rfl
 have c:cd (List.replicate n false) x=false:=by
  rw[cd,fI,r8];split <;> rfl
 rw[l5,b,c,Nat.zero_testBit]
theorem cU.hK {ws:List Nat} {bs:List Bool} (h:cU ws bs):cU (ws++[0]) bs:=by
 refine⟨λw hw=>?_,by have:=h.ek;simp;omega,λx=>?_⟩;rcases cZ.1 hw with hw | hw
 exact h.lt w hw;obtain rfl:w=0:=by simpa using hw
 decide
 rw[←h.bits];unfold l5;rw[fI,fI];rcases ej (x/64) ws.length with a | a
 rw[mA a];rw[kp a,kq a];rcases gw (x/64 - ws.length) with b | b
 rw[b];rfl
 rw[kq (by simp only[jY];omega)]
theorem cU.cut {ws:List Nat} {bs:List Bool} (h:cU ws bs) (n:Nat) (b:n≤64*ws.length) (c: ∀y,n≤y→cd bs y=false):cU ws ((List.range n).map (cd bs)):=by
 refine⟨h.lt,by simpa using b,λx=>?_⟩;rw[h.bits];rcases ej x n with a | a
 rw[cd,cd,fI (l:=List.map _ _),eD,r7 a];rfl
 rw[c x a,qf (by simpa using a)]
theorem cU.RH {ws:List Nat} {bs:List Bool} (h:cU ws bs) {a x w:Nat} (b:ws[x/64]? = some w) (q:a<x) (g: ∀z,a<z→z<x→cd bs z=false) (j:w/2 ^ (x%64)≠0):
 jp bs a=x+Lib.ctz 64 (w/2 ^ (x%64))∧x+Lib.ctz 64 (w/2 ^ (x%64))<bs.length∧Lib.ctz 64 (w/2 ^ (x%64))<64:=by
 have k:=h.lt w (da b)
 have l:x%64<64:=iH _ aZ
 obtain⟨m,n,o⟩:=(Hk k l).2 j;generalize Lib.ctz 64 (w/2 ^ (x%64))=t at *
 have c: ∀i,i<64→cd bs (64*(x/64)+i)=w.testBit i:=λi hi=>by rw[←h.bits,xV b hi]
 have e:x+t=64*(x/64)+(x%64+t):=by omega
 have d:cd bs (x+t)=true:=by rw[e,c _ m];exact n
 refine⟨Hh aa d λz p r=>?_,Bh d,aa⟩;rcases ej z x with f | f
 exact g z p f;rw[show z=64*(x/64)+(z - 64*(x/64)) by omega,c _ aa];exact o _ aa aa
theorem cU.RI {ws:List Nat} {bs:List Bool} (h:cU ws bs) {a x w:Nat} (b:ws[x/64]? = some w) (d: ∀z,a<z→z<x→cd bs z=false) (e:w/2 ^ (x%64)=0):
 ∀z,a<z→z<(x/64+1)*64→cd bs z=false:=by
 have f:=h.lt w (da b)
 have g:x%64<64:=iH _ aZ
 have i:=(Hk f g).1 e
 intro z j k;rcases ej z x with c | c
 exact d z j c;rw[show z=64*(x/64)+(z - 64*(x/64)) by omega,←h.bits,xV b aa];exact i _ aa
theorem cU.RJ {ws:List Nat} {bs:List Bool} (h:cU ws bs) {a x w:Nat} (b:ws[x/64]? = some w) (n:x<a) (e: ∀z,x<z→z<a→cd bs z=false) (f:w*2 ^ (63 - x%64)%2 ^ 64≠0):
 (iQ bs a:Int)=x - (64 - (Lib.bitLen (w*2 ^ (63 - x%64)%2 ^ 64):Int)):=by
 have g:=h.lt w (da b)
 have j:x%64<64:=iH _ aZ
 obtain⟨o,p,k,l⟩:=(Hl g j).2 f;generalize Lib.bitLen (w*2 ^ (63 - x%64)%2 ^ 64)=L at *
 have c: ∀i,i<64→cd bs (64*(x/64)+i)=w.testBit i:=λi hi=>by rw[←h.bits,xV b hi]
 have:iQ bs a=64*(x/64)+(x%64+L - 64):=by
  refine RD aa (by rw[c _ aa];exact k) λz q m=>?_
  rcases ej x z with d | d
  exact e z d m;rw[show z=64*(x/64)+(z - 64*(x/64)) by omega,c _ aa];exact l _ aa aa
 omega
theorem cU.RK {ws:List Nat} {bs:List Bool} (h:cU ws bs) {a x w:Nat} (b:ws[x/64]? = some w) (d: ∀z,x<z→z<a→cd bs z=false) (e:w*2 ^ (63 - x%64)%2 ^ 64=0):
 ∀z,64*(x/64)≤z→z<a→cd bs z=false:=by
 have f:=h.lt w (da b)
 have g:x%64<64:=iH _ aZ
 have i:=(Hl f g).1 e
 intro z k j;rcases ej x z with c | c
 exact d z c j;rw[show z=64*(x/64)+(z - 64*(x/64)) by omega,←h.bits,xV b aa];exact i _ aa
end Go.Proofs.YtlgnfdodnhokjaaGreatDoor.Mq.cN
