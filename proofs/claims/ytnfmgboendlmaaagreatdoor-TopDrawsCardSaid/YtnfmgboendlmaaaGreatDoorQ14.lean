/- part 14 of the proof -/
import Derived.Test.YtnfmgboendlmaaaGreatDoorQ13
import Derived.Lib.ItoaNum
import Derived.Lib.TrailingZeros
set_option linter.all false
namespace Go.Proofs.YtnfmgboendlmaaaGreatDoor.Mq
open RowKit Tryz
variable {s:Int}{G:List Bool}{u:List Chunk}{c:List Nat}{D:List UInt8}{h:List aL}{l:List aL->List aL}{n:List bq}{a g o:Nat}{H:Nat->Nat}{B:Type}{t:World}{m:b8}{A:b8->Nat->Nat->b8}{v:bQ}{r:bq}{y:bq->bq}(b:b8)(e:World)(E:List Nat)(F:Nat->Nat)(i:Nat)(f:bQ)(d:Int)(z:Bool)(j k p:Int)(x:b8->Nat->Nat->b8)(C:dH)(q:Int)
def PQ{room:Int}(a: (n.length:Int)<=room): ((pu n room r).length:Int)<=room:=by
 unfold pu;split
 exact a;split <;> simp <;> omega
def Hp{r b:bq}(a:b∈pu n s r):b∈n\/b=r:=by
 unfold pu at a
 split at a
 exact .inl a;rcases dq.1 a with a | a
 split at a
 exact .inl<|List.mem_of_mem_tail a;exact .inl a;exact .inr<|e0.1 a
def zr(a:dF m):dF (nO m):=by
 refine⟨a.al,a.rows,a.wide,λd b=>?_,PQ a.room.1,a.room.2⟩;rcases Hp b with b | rfl
 exact a.oM d b;cases c:m.cY with
 | nil=>have:=a.rows.1;rw[c] at this;simp at this
 | cons e f=>exact a.wide e (by rw[c];simp)
def kN(r:dQ):bQ:={ f with r:=r }
def PR{w:World}{b:List Chunk}{a:dQ}(d:a.g=v.r.g)(e:ag t c u w)(f:aP u [a.aq,a.s.aD,a.s.cw,v.aq,v.s.aD,v.s.cw,v.bu.aD] b):ag t c (b9<|kN v a) w:=by
 have h:=e.aF f
 have i:ag t c (aZ (cP a)::[v.aq,v.s.aD,v.s.cw,v.bu.aD]) w:=ag.close' (l:=cP a) h
 have j:b9 (kN v a)=[v.aq,aZ<|cP a,v.s.aD,v.s.cw,v.bu.aD]:=by
  simp only[b9,kN,bQ.aq,qv,d]
 rw[j];exact i.aF ah
def PS(Zh:bc e (b9 f))(F:dx f.r)(G:dF f.abs)(Zi:f.bu.l.length<=1540000000000)(w o:Nat)(Zj:w<f.s.l.length)(Zk:o<f.s.l.length)(aq aR:Int):
 ay 426 [ptr f.g,ad (w:Int),ad (o:Int),.agg [ad aq,ad aR].toArray] e (jj f (mY f.abs w o aq aR) e):=by
 have Zl:=G.rows
 have H:=tl F
 have Z0:=G.room
 have Z1:=F.n
 have Z2: (f.abs.jK.length:Int)=f.r.n:=by rw[H];rfl
 simp only[bQ.abs,b2,c8] at Zl
 refine bX func426 ntmps426 Zh ?_;refine ap ?_;intro t Z3 Z4;refine (aE) (λZm=>aH ?_) λZm=>?_
 ·refine bK (l0:=b9 f) ah (λd b=>by have h:=Ho d f (b.cb ah) F G Zi w o Zj Zk aq aR;exact h) λZn Zo=>?_
  refine aI ?_;intro Zp I;obtain⟨x,y,B⟩:=Zo;exact eV Zn ⟨x,y,by rw[B,mY,aB aa]⟩ I
 ·obtain rfl:w=0:=by omega
  refine aH ?_;refine bd (λd b=>by have h:=oL d f (b.has cz)<|(b.has cW: (aZ<|cP f.r).pred d) f.r.aq au;exact h) ?_;refine ap ?_;refine bK (l0:=b9 f) ah (λd b=>by have h:=rQ d f (b.cb ah) F aa 0 (f.r.n+(o:Int)+1) 1;exact h) λa Zq=>?_;refine a7 ?_;obtain⟨X,J,u⟩:=Zq;have Zr:a.r.n=f.r.n:=by rw[tl J,u,H];rfl
  have Zs:a.r.room=f.r.room:=a_ b8.room u
  have Zt:b2 a.s.l=b2 f.s.l:=a_ b8.cY u
  have Z5:a.s.l.length=f.s.l.length:=by have:=a_ List.length Zt;simpa [b2] using this
  have Z6:a.bu.l.length=f.bu.l.length+1:=by have:=a_ (λz=>z.g_.length) u;simpa [bQ.abs,gD] using this
  have C:dF a.abs:=by rw[u];exact rT G _ _ _
  obtain⟨z,q⟩ : ∃z,a.s.l[0]? = some z:=⟨a.s.l[0]'aa,bD _⟩;have v:=cR q
  rw[<-X];refine jd (e:=39) (sz:=2) (v:=a.s.val) cW λZ7 Z8 Zu _ _ _ Zv=>?_;injection Zu with Zw _ Zx
  subst Zw Zx;obtain⟨Zy,Y⟩:=Zv aa;have Zz:a.s.val= .slice (some ⟨Zy,0,none⟩) a.s.l.length a.s.c:=by rw[dz.val,Y]
  refine gA (λ_:dQ=>[(0,ptr a.g),(2,ad (o:Int)),(7,ptr t),(9,.bool<|decide<|a.r.n=a.r.room)]) (λj=>ag e (aK<|b9 f)<|aG t [ad aq,ad aR] 77::b9 (kN a j)) (λj=>dx j/\j.room=a.r.room/\j.rows=pu a.r.rows a.r.room z.fI) ?_ ?_
  ·refine bN [0,1,2,3,4,5,6,7,8,9] 3 [[(10,true,[11,12,13]),(14,false,[]),(15,false,[16])],[(14,false,[]),(10,true,[11,12,13]),(15,false,[16])]] ?_
   refine aY ?_;refine aO rfl (λZA Z=>(bE (q:=0) dy rfl rfl rfl Y bo aa aJ)) ?_;refine aO rfl (λZA Z=>(cE gG rfl rfl rfl (λZa K j ZB ZC=>by subst K;exact Z.zo (E:=cx) cW Zz q j ZB ZC) aJ)) ?_;refine av ?_;focus (refine wO ?_ ?_;refine la (lc:=cP a.r) c6 ?_;refine bK (l0:=cP a.r) ah (λd b=>by obtain⟨ZD,ZE,L,M⟩:=w0 (v:=z.val) (L:=z.cells)<|(b.has kG:a.s.cw.pred d) z.aQ<|ei.2 ⟨z,v,rfl⟩;injection L with N _ O;subst N O;exact Cs d a.r (b.cb ah) J _ z.A z.cells.length z.c z.cells z.cont M (λD P Q=>b.apart ah (c:=a.s.cw) cW D (er.2 ⟨z.aQ,ei.2 ⟨z,v,rfl⟩,by show D∈z.val.ownBlock.toList;rw[P];simp⟩) Q) (qx C v).1) λp k=>?_;refine aU ?_;intro ZF ZG ZH;refine cv (λ_=>True) (λ_ i=> .inr ⟨.inl rfl,dC⟩) (λ_ i=>bh)<|aA ?_;refine fR gG rfl rfl cJ k.2.2.2.2.1 k.2.2.2.2.2 (by (rw[k.2.2.2.2.1];exact ej rfl)) ?_;refine cv (λ_=>True) (λ_ i=> .inr ⟨.inr ⟨.inl rfl,dC⟩,dC⟩) (λ_ i=>bh) ?_;rotate_left;refine av ?_;intro ZF ZG ZH;refine cv (λ_=>True) (λ_ i=> .inr<|i.rem bH.head) (λ_ i=>bh)<|aA ?_;refine la (lc:=cP a.r) pm ?_;refine bK (l0:=cP a.r) ah (λd b=>by obtain⟨ZD,ZE,L,M⟩:=w0 (v:=z.val) (L:=z.cells)<|(b.has hM:a.s.cw.pred d) z.aQ<|ei.2 ⟨z,v,rfl⟩;injection L with N _ O;subst N O;exact Cs d a.r (b.cb ah) J _ z.A z.cells.length z.c z.cells z.cont M (λD P Q=>b.apart ah (c:=a.s.cw) hL D (er.2 ⟨z.aQ,ei.2 ⟨z,v,rfl⟩,by show D∈z.val.ownBlock.toList;rw[P];simp⟩) Q) (qx C v).1) λp k=>?_;refine aH ?_;refine fR gG rfl rfl oH k.2.2.2.2.1 k.2.2.2.2.2 (by (rw[k.2.2.2.2.1];exact ej rfl)) ?_;refine cv (λ_=>True) (λ_ i=> .inr ⟨.inl rfl,dC⟩) (λ_ i=>bh) ?_;all_goals (refine ap ?_;refine dN p.2 ⟨k.2.2.1,k.2.1,k.2.2.2.1⟩ (da rfl rfl rfl rfl) λZa h=>?_;have ZI:=h.aF (l:=[p.2.aq,p.2.s.aD,p.2.s.cw,a.aq,a.s.aD,a.s.cw,a.bu.aD,aG t [ad aq,ad aR] 77]) ah;have ZJ:ag e (aK<|b9 f) (aZ (cP p.2)::[a.aq,a.s.aD,a.s.cw,a.bu.aD,aG t [ad aq,ad aR] 77]) Za:=ag.close' (l:=cP p.2) ZI;(have K:b9 (kN a p.2)=[a.aq,aZ<|cP p.2,a.s.aD,a.s.cw,a.bu.aD]:=by simp only[b9,kN,bQ.aq,qv,k.1]);rw[K];exact ZJ.aF ah))
  ·rintro j ⟨Zb,ZK,ZL⟩
   have R: (kN a j).abs=nO a.abs:=by
    have x:a.abs.cY.headD ([],false)=z.fI:=by
     cases S:a.s.l with
     | nil=>rw[S] at q;simp at q
     | cons Z9 l=>rw[S] at q;simp at q;simp[bQ.abs,b2,S,q]
    have y:a.abs.jK=a.r.rows:=rfl
    have B:a.abs.room=a.r.room:=rfl
    simp only[nO,x,y,B,<-ZL];simp only[bQ.abs,kN,ZK]
   have Zaa:dF (kN a j).abs:=by rw[R];exact zr C
   have Zc: (a.r.n=a.r.room)↔ha f.abs=f.abs.room:=by rw[Zr,Zs,<-H];exact Iff.rfl
   have ZM:a.abs=gD f.abs 0 (ha f.abs+(o:Int)+1) 1:=by rw[u,H]
   obtain⟨T,E⟩ : ∃T,T=(if ha f.abs=f.abs.room then gD (nO a.abs) 2 0 1 else nO a.abs):=⟨_,rfl⟩;refine aH ?_;refine gA (λ_:bQ=>[(0,ptr a.g),(2,ad (o:Int)),(7,ptr t)]) (λm=>ag e (aK<|b9 f)<|aG t [ad aq,ad aR] 77::b9 m) (λm=>m.g=a.g/\dx m.r/\m.abs=T) ?_ ?_
   ·refine (cj) (λU=>aA ?_) λU=>av ?_
    ·refine bK (l0:=b9<|kN a j) ah (λd b=>by have h:=rQ d (kN a j) (b.cb ah) Zb (by show a.bu.l.length<=_;omega) 2 0 1;exact h) λZN ZO=>?_
     refine av ?_;obtain⟨ZP,ZQ,ZR⟩:=ZO;exact dN ZN ⟨ZP,ZQ,by rw[ZR,E,aB<|Zc.1 U,R]⟩ b5 λ_ i=>i.aF ah
    ·exact dN (kN a j) ⟨rfl,Zb,by rw[E,ai λi=>U<|Zc.2 i,R]⟩ b5 λ_ i=>i
   ·rintro m ⟨Zd,ZS,V⟩
    have Ze:dF m.abs:=by
     rw[V,E];split
     ·exact rT (zr C) _ _ _
     ·exact zr C
    have Zab:m.s.l.length=f.s.l.length:=by
     have ZT:m.abs.cY=a.abs.cY:=by
      rw[V,E];split <;> rfl
     have ZU:=a_ List.length ZT
     simp only[bQ.abs,b2,c8] at ZU
     omega
    rw[<-Zd];refine aH ?_;refine bK (l0:=b9 m) ah (λd b=>by have h:=Cw d m (b.cb ah) ZS Ze 0 o aa aa aq aR;exact h) λW ZV=>?_;obtain⟨Zf,ZW,Zg⟩:=ZV;have ZX:dF W.abs:=by rw[Zg];exact zq Ze (by simp[bQ.abs];omega) (by simp[bQ.abs];omega) _ _
    refine aH ?_;refine bK (l0:=b9 W) ah (λd b=>by have h:=rP d W (b.cb ah) ZW ZX<|(o:Int)+1;rw[Zf] at h;exact h) λZY ZZ=>?_;refine aA ?_;intro Zp I;obtain⟨x,y,B⟩:=ZZ;refine eV ZY ⟨by rw[x,Zf,Zd,X],y,?_⟩ I;rw[B,Zg,V,mY,ai (by omega: ¬0<0),E,ZM];done
def iter(b:b8->b8):Nat->b8->b8
 | 0,a=>a
 | n+1,a=>b<|iter b n a
def iE :b8:=
 if (0<=d/\d<b.cY.length)/\(0<=j/\j<b.cY.length)/\d<=j then iter (x · d.toNat j.toNat) (min (max 0 k)<|j - d+1).toNat b else b
structure Kept (k:Nat) (p q:b8):Prop where
 wf:dF p->dF q
 rows:q.cY.length=p.cY.length
 al:q.al=p.al
 room:q.room=p.room
 bu:q.g_.length<=p.g_.length+k
def Kept.refl(p:b8):Kept 0 p p:=⟨id,rfl,rfl,rfl,aa⟩
def Kept.trans{a b:Nat}{e r:b8}(c:Kept a m e)(d:Kept b e r):Kept (a+b) m r:=⟨λf=>d.wf<|c.wf f,d.rows.trans c.rows,d.al.trans c.al,d.room.trans c.room,by have:=c.bu;have:=d.bu;omega⟩
def Kept.mono{q:b8}(b:Kept a m q)(c:a<=g):Kept g m q:=⟨b.wf,b.rows,b.al,b.room,by have:=b.bu;omega⟩
def rU :Kept 1 b (gD b d j k):=⟨λa=>rT a d j k,rfl,rfl,rfl,by simp[gD]⟩
def Hq(h:dF b-> ∀c:bq,((c.1.length:Int)=b.al/\ ∀e∈c.1,e.more.length<=32)->(((y c).1.length:Int)=b.al/\ ∀e∈(y c).1,e.more.length<=32)):Kept 0 b (l7 b d y):=by
 unfold l7;split
 refine⟨λa=>⟨a.al,by simpa using a.rows,λc f=>?_,a.oM,a.room⟩,by simp,rfl,rfl,by simp⟩;rcases mem_modify f with f | ⟨g,i,rfl⟩
 exact a.wide c f;exact h a g<|a.wide g i;exact Kept.refl b
def nP :Kept 0 b (iS b d z):=Hq b d λ_ _ a=>a
def zs(c:b8){a b:Nat}(d:a<c.cY.length)(e:b<c.cY.length)(f g:Int):Kept 0 c (oN c a b f g):=⟨λh=>zq h d e f g,Ct d e,rfl,rfl,cC _⟩
def Hr :Kept 0 b (nO b):=⟨zr,rfl,rfl,rfl,cC _⟩
def zt(e:a<b.cY.length)(f:g<b.cY.length)(c d:Int):Kept 2 b (tk b a g c d):=
 (((((rU b 1 (ha b+a) 1).trans<|rU _ 0 (ha b+g) 1).trans<|zs (gD (gD b 1 (ha b+a) 1) 0 (ha b+g) 1) (a:=a) (b:=g) e f c d).trans<|nP _ a false).trans<|nP _ (g+1) false).mono (cC 2)
def tm(e:a<b.cY.length)(f:g<b.cY.length)(c d:Int):Kept 2 b (pv b a g c d):=
 (((((rU b 1 (ha b+g) 1).trans<|rU _ 0 (ha b+a) 1).trans<|zs (gD (gD b 1 (ha b+g) 1) 0 (ha b+a) 1) (a:=g) (b:=a) f e c d).trans<|nP _ (a+1) false).trans<|nP _ (g+1) false).mono (cC 2)
def w8(f:a<b.cY.length)(e:g<b.cY.length)(c d:Int):Kept 2 b (mY b a g c d):=by
 unfold mY;split
 exact zt b f e c d;dsimp only;split
 exact (((((rU b 0 (ha b+g+1) 1).trans<|Hr _).trans<|rU _ 2 0 1).trans<|zs (gD (nO<|gD b 0 (ha b+g+1) 1) 2 0 1) (a:=0) (b:=g) (by show 0<b.cY.length;omega) e c d).trans<|nP _ (g+1) false).mono<|cC 2;exact ((((rU b 0 (ha b+g+1) 1).trans<|Hr _).trans<|zs (nO<|gD b 0 (ha b+g+1) 1) (a:=0) (b:=g) (by show 0<b.cY.length;omega) e c d).trans<|nP _ (g+1) false).mono aW
def w9{f:b8->b8}{p:b8}(a: ∀b,b.cY.length=p.cY.length->Kept 2 b (f b)): ∀n,Kept (2*n) p (iter f n p)
 | 0=>Kept.refl p
 | n+1=>((w9 a n).trans<|a _ (w9 a n).rows).mono aa
def rV(f: ∀a c e,c<a.cY.length->e<a.cY.length->Kept 2 a (A a c e)):Kept (2*b.cY.length) b (iE b d j k A):=by
 unfold iE;split
 rename_i g;obtain⟨⟨h,i⟩,⟨l,m⟩,n⟩:=g;exact (w9 (λa o=>f a _ _ aa aa) _).mono aa;exact (Kept.refl b).mono aa
def Cx(D:bc e (b9 f))(x:dx f.r)(y:dF f.abs)(Zd:f.bu.l.length<=1530000000000)(h j n aq aR:Int)(o:b8->Nat->Nat->b8)(E: ∀a b c,b<a.cY.length->c<a.cY.length->Kept 2 a (o a b c))(p:FuncId)(F:dX prog p)
 (G: ∀q (a:bQ) (b c:Nat),bc q (b9 a)->dx a.r->dF a.abs->a.bu.l.length<=1540000000000->b<a.s.l.length->c<a.s.l.length->Calls prog p [ptr a.g,ad (b:Int),ad (c:Int),.agg [ad aq,ad aR].toArray].toArray q (jj a (o a.abs b c) q)):
 ay 425 [ptr f.g,ad h,ad j,ad n,.func (.func p) [ptr f.g].toArray [].toArray,.agg [ad aq,ad aR].toArray] e (jj f (iE f.abs h j n o) e):=by
 have H:=y.rows
 have t:f.abs.cY.length=f.s.l.length:=by simp[bQ.abs,b2]
 rw[t] at H
 refine bX func425 ntmps425 D ?_;refine ap ?_;intro u Ze Zf;refine a7 ?_;refine gA (λc:Bool=>[(0,ptr f.g),(1,ad h),(2,ad j),(3,ad n),(4,.func (.func p) [ptr f.g].toArray [].toArray),(11,ptr u),(26,.bool c)]) (λ_=>ag e (aK<|b9 f)<|aG u [ad aq,ad aR] 77::b9 f) (λc=>(c=true)= ¬((0<=h/\h<f.s.l.length)/\(0<=j/\j<f.s.l.length)/\h<=j)) (ap ?_) ?_
 ·refine cU (uS · f · h)<|aA ?_
  focus (refine bl 16 rfl (λI=>?_) λI=>?_;refine bP ?_;rotate_left;refine aI ?_;refine cU (uS · f · j)<|a7 ?_;refine bl 22 rfl (λJ=>?_) λJ=>?_;refine aI ?_;rotate_left;refine aY ?_;all_goals (refine dN _ ?_ (jg rfl rfl rfl rfl rfl rfl rfl) λ_ v=>v;(simp at *);omega))
 ·intro c z
  refine av ?_;refine cD rfl (λm=>?_) λm=>?_
  ·rw[z] at m
   refine ap ?_;exact bT f ⟨rfl,x,by rw[iE,ai<|by rw[t];exact m]⟩
  ·have A: ¬(c=true):=by rw[m];decide
   rw[z,Classical.not_not] at A
   have m:=A
   obtain⟨⟨K,L⟩,⟨M,O⟩,P⟩:=m;obtain⟨b,rfl⟩ : ∃b:Nat,h=(b:Int):=⟨h.toNat,aa⟩;obtain⟨k,rfl⟩ : ∃k:Nat,j=(k:Int):=⟨j.toNat,aa⟩;refine dO ?_;obtain⟨N,B⟩ : ∃N:Nat,min (max 0 n) ((k:Int) - (b:Int)+1)=(N:Int):=⟨(min (max 0 n)<|(k:Int) - (b:Int)+1).toNat,aa⟩;refine cd (ι:=Nat × bQ) (λi=>[(0,ptr f.g),(1,ad (b:Int)),(2,ad (k:Int)),(4,.func (.func p) [ptr f.g].toArray [].toArray),(11,ptr u),(33,ad (N:Int)),(34,ad (i.1 :Int))]) (λi=>ag e (aK<|b9 f)<|aG u [ad aq,ad aR] 77::b9 i.2) (λi=>i.1<=N/\PO f.g (iter (o · b k) i.1 f.abs) i.2) (λi=>N - i.1) ?_ ?_
   ·exact λq Q=>⟨(0,f),⟨b4 _,⟨rfl,x,rfl⟩⟩,by rw[B];exact (jg rfl rfl rfl rfl rfl rfl rfl),Q⟩
   ·rintro⟨i,a⟩ ⟨R,d⟩
    dsimp only at R d ⊢
    have w:=w9 (p:=f.abs) (f:=λa=>o a b k) (λa d=>E a b k aa aa) i
    have Zg:a.s.l.length=f.s.l.length:=by have:=w.rows;rw[<-d.abs,t] at this;simpa [bQ.abs,b2] using this
    have Zh:a.bu.l.length<=f.bu.l.length+2*i:=by have:=w.bu;rw[<-d.abs] at this;exact this
    have S:dF a.abs:=by rw[d.abs];exact w.wf y
    refine (aE) (λT=>a6 ?_) λT=>aI ?_
    ·refine k_ (l0:=b9 a) (first:=[ptr f.g]) (cap:=[]) ah rfl rfl F rfl (λU V=>by have C:=G U a b k (V.cb ah) d.r S aa aa aa;rw[d.g] at C;exact C) λW X=>?_
     refine aU ?_;obtain⟨Y,Z,Za⟩:=X;exact bv (i+1,W) ⟨by show i+1<=N;omega,⟨Y.trans d.g,Z,by rw[Za,d.abs];rfl⟩⟩ (by show N - (i+1)<N - i;omega) b5 λ_ v=>v.aF ah
    ·intro Zi Zb
     have Zc:i=N:=by omega
     subst Zc;refine eV a ⟨d.g,d.r,?_⟩ Zb;rw[iE,aB<|by rw[t];exact⟨⟨K,L⟩,⟨M,O⟩,P⟩,B];exact d.abs
def Hs(j:bc e (b9 f))(k:dx f.r)(m:dF f.abs)(n:f.bu.l.length<=1530000000000)(a b c aq aR:Int):
 ay 350 [ptr f.g,ad a,ad b,ad c,.agg [ad aq,ad aR].toArray] e (jj f (iE f.abs a b c (mY · · · aq aR)) e):=by
 refine bX func350 ntmps350 j ?_;refine ap ?_;intro A B C;refine be ?_;refine (dg) (Cx · f · k m n a b c aq aR (mY · · · aq aR) (λd h i o p=>w8 d o p aq aR) _ cL λq d h i s t u v w x=>PS q d s t u v h i w x aq aR) λy z=>?_;refine aA ?_;exact bT y z
def PT(j:bc e (b9 f))(k:dx f.r)(m:dF f.abs)(n:f.bu.l.length<=1530000000000)(a b c aq aR:Int):
 ay 369 [ptr f.g,ad a,ad b,ad c,.agg [ad aq,ad aR].toArray] e (jj f (iE f.abs a b c (tk · · · aq aR)) e):=by
 refine bX func369 ntmps369 j ?_;refine ap ?_;intro A B C;refine be ?_;refine (dg) (Cx · f · k m n a b c aq aR (tk · · · aq aR) (λd h i o p=>zt d o p aq aR) _ cL λq d h i s t u v w x=>Ho q d s t u v h i w x aq aR) λy z=>?_;refine aA ?_;exact bT y z
def Cy(j:bc e (b9 f))(k:dx f.r)(m:dF f.abs)(n:f.bu.l.length<=1530000000000)(a b c aq aR:Int):
 ay 352 [ptr f.g,ad a,ad b,ad c,.agg [ad aq,ad aR].toArray] e (jj f (iE f.abs a b c (pv · · · aq aR)) e):=by
 refine bX func352 ntmps352 j ?_;refine ap ?_;intro A B C;refine be ?_;refine (dg) (Cx · f · k m n a b c aq aR (pv · · · aq aR) (λd h i o p=>tm d o p aq aR) _ cL λq d h i s t u v w x=>PP q d s t u v h i w x aq aR) λy z=>?_;refine aA ?_;exact bT y z
def w_ :b8:={ b with jK:=[] }
def Ht :Kept 0 b (w_ b):=⟨λa=>⟨a.al,a.rows,a.wide,by simp[w_],by have:=a.room;simp[w_];omega⟩,rfl,rfl,rfl,cC _⟩
def Hu :Kept 1 b (rS b):=by
 unfold rS;split
 exact (Kept.refl b).mono aa;exact (((Ht b).trans<|rU _ 2 0 b.jK.length).trans<|nP _ 0 false).mono aa
def PU(e: ∀h,(l h).length=h.length)(c: ∀h,(∀a∈h,a.more.length<=32)-> ∀a∈l h,a.more.length<=32)(d: ∀a∈h,a.more.length<=32): ∀a∈cX l h,a.more.length<=32:=by
 have b: ∀a:aL,a.more.length<=32->(hp a.at_).more.length<=32:=λ_ _=>b4 _
 exact zm b<|c _<|zm b d
def u3(e: ∀a,(l a).length=a.length)(g: ∀a,(∀c∈a,c.more.length<=32)-> ∀c∈l a,c.more.length<=32):Kept 0 b (l8 b d<|cX l):=
 Hq b d λ_ h f=>⟨by simp only[Ci e];exact f.1,PU e g f.2⟩
def Cz{aq aR:Int}(d: ∀c∈h,c.more.length<=32): ∀c∈f_ h a g aq aR,c.more.length<=32:=by
 intro c b;unfold f_ at b
 simp only[dq] at b
 rcases b with (b | b) | b
 exact d c<|hz b;rw[k6 b];exact b4 _
 exact d c<|kv b
def Hv(d: ∀c∈h,c.more.length<=32): ∀c∈l6 h a g o,c.more.length<=32:=by
 intro c b;unfold l6 at b
 simp only[dq] at b
 rcases b with (b | b) | b
 exact d c<|hz b;exact d c<|kv<|hz b;exact d c<|kv b
def u4{c:List B}{d:Nat}{a b:B}(h:b∈c.set d a):b∈c\/b=a:=by
 rcases sF h with h | h
 exact .inl h;exact .inr h
def xa :Kept 0 b (th b d j k C):=u3 b d (tf · j k C) (λf c e a=>by
 unfold gZ at a
 split at a
 exact c e a;split at a
 rcases u4 a with a | rfl
 rcases u4 a with a | rfl
 exact c e a;exact b4 _;exact b4 _;rcases u4 a with a | rfl
 exact c e a;exact b4 _)
def CA(e:D.length<=32)(d: ∀b∈h,b.more.length<=32): ∀b∈gH h a D,b.more.length<=32:=by
 intro b c;unfold gH at c
 split at c
 rcases u4 c with c | rfl
 exact d b c;exact e;exact d b c
def Hw :Kept 0 b (uZ b d j k):=u3 b d (gS · j k) (λh c e a=>by
 unfold eq at a
 split at a
 exact c e a;split at a
 exact c e a;split at a
 exact c e a;split at a
 exact c e a;rename_i i;refine CA aa (λg f=>?_) e a;split at f
 exact CA aa c g f;split at f
 exact CA aa c g f;exact c g f)
def Hx :Kept 0 b (w7 b d):=u3 b d zj (λf c e a=>by
 unfold mW at a
 split at a
 rcases u4 a with a | rfl
 exact c e a;exact b4 _;exact c e a)
def zu :Kept 0 b (u0 b d j k p q):=u3 b d (uV · j k p q) (λf c e a=>by
 unfold insertC at a
 split at a
 exact c e a;exact Cz (Hv c) e a)
def Hy :Kept 0 b (zn b d j k p q):=u3 b d (uW · j k p q) (λf c e a=>by
 unfold kL at a
 split at a
 exact c e a;exact Cz (Hv c) e a)
def xb :Kept 0 b (l8 b d<|cX (hE · j k p q)):=u3 b d (zk · j k p q) (λf c e a=>by
 unfold hE at a
 split at a
 exact Cz c e a;exact c e a)
def qA :Kept 0 b (eraseP b d j k p q):=by
 unfold eraseP;split
 dsimp only;split
 split
 exact ((xb b d j k p q).trans<|nP _ (d+1) false).trans<|nP _ d false;exact (xb b d j k p q).trans<|nP _ (d+1) false;exact xb b d j k p q;exact Kept.refl b
def PV(s:bc e (b9 f))(c:dx f.r)(t:dF f.abs)(J:f.bu.l.length<=1540000000000):
 ay 365 [ptr f.g] e (jj f (rS f.abs) e):=by
 have i:=tl c
 have K:=c.n
 refine bX func365 ntmps365 s ?_;refine a7 ?_;refine bd (λa b=>oL a f (b.has bw)<|(b.has cz: (aZ<|cP f.r).pred a) f.r.aq au) ?_;refine (aE) (λj=>ap ?_) λj=>a6 ?_;exact λu k=>aX.cf f ⟨rfl,c,by rw[rS,aB<|by rw[i,ha] at j;omega]⟩ rfl k
 refine la (lc:=cP f.r) c6 ?_;refine dE (Hh · f.r · c) λd v=>?_;obtain⟨w,x,y,z⟩:=v;refine iL (H':=ag e (aK<|b9 f)<|b9<|kN f d) ?_ (Sub.refl _) λL A=>PR w A ah;have o: (kN f d).abs=w_ f.abs:=by simp only[bQ.abs,kN,w_,z,x]
 refine bK (l0:=b9<|kN f d) ah (λa b=>by have h:=rQ a (kN f d) (b.cb ah) y (by show f.bu.l.length<=_;omega) 2 0 f.r.n;exact h) λm B=>?_;obtain⟨p,C,q⟩:=B;have D:dF m.abs:=by rw[q,o];exact rT ((Ht f.abs).wf t) _ _ _
 refine a7 ?_;refine bK (l0:=b9 m) ah (λa b=>by have h:=rP a m (b.cb ah) C D 0;rw[p] at h;exact h) λE F=>?_;refine aA ?_;intro u k;obtain⟨G,H,I⟩:=F;exact eV E ⟨G.trans p,H,by rw[I,q,o,i,rS,ai<|by rw[i,ha] at j;omega];rfl⟩ k
def xc(D:bc e (b9 f))(A:dx f.r)(q:dF f.abs)(b c d aq aR:Int)(P: -1000000<=b/\b<=1000000):
 ay 267 [ptr f.g,ad b,ad c,ad d,.agg [ad aq,ad aR].toArray] e (jj f (eraseP f.abs b c d aq aR) e):=by
 have j:f.abs.cY.length=f.s.l.length:=by simp[bQ.abs,b2]
 have n:f.abs.al=f.al:=rfl
 refine bX func267 ntmps267 D ?_;refine ap ?_;intro Q R S;refine av ?_;intro T U V;refine av ?_;intro W X Y;refine aU ?_;refine cU (uS · f · b)<|ap ?_;refine cD rfl (λt=>?_) λt=>?_;simp only[cq] at t
 refine ap ?_;exact bT f ⟨rfl,A,by rw[eraseP,ai<|by rw[j];omega]⟩;simp only[cq] at t
 refine aU ?_;refine bK (ι:=bQ) (l0:=b9 f) ah (λk a=>u1 k f (a.cb ah) A q b (cX (hE · c d aq aR)) _ [ptr _,ptr _,ptr _] cL λE Z F u G H=>Pu E _ _ _ c d aq aR (u.ew (a.has cW)<|a.apart ah cW) (u.ew (a.has cz)<|a.apart ah cz) (u.ew (a.has bw)<|a.apart ah bw) F _ _ _ _ H (qx q G).1) λh I=>?_;refine ap ?_;obtain⟨m,v,i⟩:=I;have B:dF h.abs:=by rw[i];exact (xb f.abs b c d aq aR).wf q
 have Za:h.al=f.al:=by have:=a_ b8.al i;rw[(xb f.abs b c d aq aR).al] at this;exact this
 rw[<-m];refine bN [0,1,2,3,4,5,6,7,8,9,10,11,12,13] 0 [[]] ?_;refine aU ?_;refine qm 24 rfl (λw=>?_) λw=>?_;have J:=bg w
 refine (aE) (λK=>aI ?_) λK=>aA ?_;refine bK (l0:=b9 h) ah (λk a=>by have o:=rP k h (a.cb ah) v B<|b+1;exact o) λp L=>?_;obtain⟨x,C,y⟩:=L;have M:dF p.abs:=by rw[y];exact Cv B _ _
 refine (aE) (λN=>ap ?_) λN=>aA ?_;refine bK (l0:=b9 p) ah (λk a=>by have o:=rP k p (a.cb ah) C M b;rw[x] at o;exact o) λO z=>?_;refine aA ?_;exact bT O ⟨(z.1.trans x).trans m,z.2.1,by rw[z.2.2,y,i,eraseP,aB<|by rw[j];omega];dsimp only;rw[aB (by rw[n];omega),aB aa]⟩;exact bT p ⟨x.trans m,C,by rw[y,i,eraseP,aB<|by rw[j];omega];dsimp only;rw[aB (by rw[n];omega),ai aa]⟩;exact bT h ⟨m,v,by rw[i,eraseP,aB<|by rw[j];omega];dsimp only;rw[ai (by rw[n];omega)]⟩;have J:=bm w
 refine cn ?_;exact bT h ⟨m,v,by rw[i,eraseP,aB<|by rw[j];omega];dsimp only;rw[ai (by rw[n];omega)]⟩
namespace dw
def nQ :Bool:=(E.getD (i/64) 0).testBit<|i%64
def cu(bs:List Bool)(a:Nat):Bool:=bs.getD a false
def oO(bs:List Bool)(a:Int)(b:Bool):List Bool:=if 0<=a/\a<(bs.length:Int) then bs.set a.toNat b else bs
def kO(bs:List Bool)(b:Nat):List Bool:=(List.range b).map λa=>if a<bs.length then cu bs a else decide (a%8=0)
def kP(bs:List Bool)(b:Nat):Nat:=((List.range bs.length).find? λa=>decide (b<a) && cu bs a).getD<|bs.length - 1
def j_(bs:List Bool)(a:Nat):Nat:=((List.range a).reverse.find?<|cu bs).getD 0
def iter(b:Nat->Nat):Nat->Nat->Nat
 | 0,a=>a
 | k+1,a=>b<|iter b k a
def zv :Nat:=(max 0<|min d<|(i:Int) - 1).toNat
def pw :Nat:=iter F (min (max 0 j) (i:Int)).toNat<|zv i d
def rW{bs:List Bool}(b:bs.length<=a):cu bs a=false:=by rw[cu,fY,hK b];rfl
def CB{bs:List Bool}(b:cu bs a=true):a<bs.length:=by
 unfold cu at b
 rcases fd a bs.length with ab | ab
 exact ab;have:=rW ab;unfold cu at this;rw[this] at b;cases b
def Hz{bs:List Bool}(b:a<bs.length):bs[a]? = some (cu bs a):=by
 rw[cu,fY,bD b];rfl
def u5{b:List Bool}(c:G.length=b.length)(e: ∀a,a<G.length->cu G a=cu b a):G=b:=by
 apply jY
 intro d;rcases fd d G.length with ab | ab
 rw[Hz ab,Hz<|c▸ab,e d ab];rw[hK ab,hK<|c▸ab]
def oP(bs:List Bool)(a:Int)(b:Bool): (oO bs a b).length=bs.length:=by unfold oO;split <;> simp
def tn(bs:List Bool)(n:Nat): (kO bs n).length=n:=by simp[kO]
def zw(bs:List Bool)(a:Int)(b:Bool)(y:Nat)(d:y<bs.length):cu (oO bs a b) y=if a=(y:Int) then b else cu bs y:=by
 unfold oO;split
 rename_i e;unfold cu;rw[fY,nB];by_cases c:a=(y:Int)
 subst c;simp[d]
 rw[ai c,ai aa,fY];rename_i e;rw[ai aa]
def PW(bs:List Bool)(b a:Nat)(c:a<b):cu (kO bs b) a=if a<bs.length then cu bs a else decide (a%8=0):=by
 unfold kO cu;rw[fY,fw,uj c];rfl
def HA{bs:List Bool}{y:Nat}(e:a<y)(c:cu bs y=true)(f: ∀b,a<b->b<y->cu bs b=false):kP bs a=y:=by
 have g:=CB c
 unfold kP;have: (List.range bs.length).find? (λy=>decide (a<y) && cu bs y)=some y:=by
  rw[List.find?_range_eq_some];refine⟨by simp[e,c],by simpa using g,λb h=>?_⟩;by_cases d:a<b
  simp[f b d h]
  simp[d]
 rw[this];rfl
def HB{bs:List Bool}(e: ∀b,a<b->b<bs.length->cu bs b=false):kP bs a=bs.length - 1:=by
 unfold kP;have: (List.range bs.length).find? (λc=>decide (a<c) && cu bs c)=none:=by
  rw[List.find?_eq_none];intro b f;by_cases d:a<b
  simp[e b d (by simpa using f)]
  simp[d]
 rw[this];rfl
def least{p:Nat->Bool}{n:Nat}(d:p n=true): ∃b,b<=n/\p b=true/\ ∀a,a<b->p a=false:=by
 induction n using Nat.strongRecOn with
 | _ n e=>
  by_cases c: ∃a,a<n/\p a=true
  obtain⟨a,f,g⟩:=c;obtain⟨b,l,h,i⟩:=e a f g;exact⟨b,aa,h,i⟩;exact⟨n,cC _,d,λa j=>by
   cases k:p a with
   | false=>rfl
   | true=>exact absurd ⟨a,j,k⟩ c⟩
def PX(bs:List Bool)(b:Nat): (b<kP bs b/\cu bs (kP bs b)=true/\ ∀a,b<a->a<kP bs b->cu bs a=false)\/((∀a,b<a->cu bs a=false)/\kP bs b=bs.length - 1):=by
 by_cases f: ∃a,b<a/\cu bs a=true
 obtain⟨a,g,h⟩:=f;obtain⟨i,_,d,j⟩:=least (p:=λa=>decide (b<a) && cu bs a) (n:=a) (by simp[g,h]);simp only[dK,eQ] at d
 have c: ∀a,b<a->a<i->cu bs a=false:=λa c k=>by
  have:=j a k
  simpa [c] using this
 have:=HA d.1 d.2 c
 left
 rw[this];exact⟨d.1,d.2,c⟩;right
 have c: ∀a,b<a->cu bs a=false:=λa e=>by
  cases l:cu bs a with
  | false=>rfl
  | true=>exact absurd ⟨a,e,l⟩ f
 exact⟨c,HB λa e _=>c a e⟩
def PY{bs:List Bool}{x y:Nat}(c:y<x)(d:cu bs y=true)(b: ∀a,y<a->a<x->cu bs a=false):j_ bs x=y:=by
 unfold j_;have e: ∀x,y<x->(∀a,y<a->a<x->cu bs a=false)->(List.range x).reverse.find? (cu bs)=some y:=by
  intro x;induction x with
  | zero=>intro h;omega
  | succ x f=>
   intro c b;rw[List.range_succ,wu,List.reverse_singleton,ul,List.find?_cons];rcases fd y x with h | h
   rw[b x h aa];exact f h λa g i=>b a g aa
   obtain rfl:y=x:=by omega
   rw[d]
 rw[e x c b];rfl
def PZ{bs:List Bool}(d: ∀b,b<a->cu bs b=false):j_ bs a=0:=by
 unfold j_;have: (List.range a).reverse.find? (cu bs)=none:=by
  rw[List.find?_eq_none];intro b c;simp only[List.mem_reverse,List.mem_range] at c
  simp[d b c]
 rw[this];rfl
def P0(bs:List Bool)(x:Nat):j_ bs (x+1)=if cu bs x then x else j_ bs x:=by
 unfold j_;rw[List.range_succ,wu,List.reverse_singleton,ul,List.find?_cons];cases cu bs x <;> simp
def CC(bs:List Bool): ∀x,j_ bs x<=x - 1
 | 0=>by simp[j_]
 | x+1=>by
  rw[P0];have:=CC bs x
  split <;> omega
def HC{bs:List Bool}(a:0<bs.length):kP bs i<bs.length:=by
 rcases PX bs i with ab | ab
 exact CB ab.2.1;omega
def xd(d: ∀b,b<a->H b<a): ∀(k b:Nat),b<a->iter H k b<a
 | 0,_,c=>c
 | k+1,b,c=>d _<|xd d k b c
structure bj (ws:List Nat) (bs:List Bool):Prop where
 lt: ∀w∈ws,w<2 ^ 64
 eU:bs.length<=64*ws.length
 bits: ∀x,nQ ws x=cu bs x
def zx{q s:Nat}(b:c[q]? = some a)(f:s<64):nQ c (64*q+s)=a.testBit s:=by
 have d: (64*q+s)/64=q:=by omega
 have e: (64*q+s)%64=s:=by omega
 rw[nQ,d,e,fY,b];rfl
def HD(i:a<2 ^ 64)(o:g<64): (a/2 ^ g=0-> ∀b,g<=b->a.testBit b=false)/\
 (a/2 ^ g≠0->g+Lib.ctz 64 (a/2 ^ g)<64/\a.testBit (g+Lib.ctz 64 (a/2 ^ g))=true/\ ∀b,g<=b->b<g+Lib.ctz 64 (a/2 ^ g)->a.testBit b=false):=by
 have f: ∀c,(a/2 ^ g).testBit c=a.testBit (g+c):=λc=>by rw[Nat.testBit_div_two_pow,Nat.add_comm]
 constructor
 intro d b p;have:=f<|b - g
 rw[d,Nat.zero_testBit,show g+(b - g)=b by omega] at this
 exact this.symm;intro d;have k:a/2 ^ g<2 ^ 64:=ot (Nat.div_le_self _ _) i
 obtain⟨l,m,_⟩:=Lib.ctzFrom_spec 64 (a/2 ^ g) (Nat.pos_of_ne_zero d) k;have n:Lib.ctz 64 (a/2 ^ g)=Lib.ctzFrom 64 (a/2 ^ g):=by
  unfold Lib.ctz;rw[ai d]
 rw[n];generalize Lib.ctzFrom 64 (a/2 ^ g)=e at *
 have j: ∀c,(a/2 ^ g).testBit c=(decide (e<=c) && (2*l+1).testBit (c - e)):=λc=>by
  rw[m,Nat.testBit_two_pow_mul]
 have h:a.testBit (g+e)=true:=by
  rw[<-f,j];simp[Nat.testBit_zero]
 refine⟨?_,h,λb ab q=>?_⟩;rcases fd (g+e) 64 with ab | ab
 exact ab;rw[wy (qa i<|sK aW ab)] at h
 cases h
 have:=f<|b - g
 rw[j,show g+(b - g)=b by omega] at this
 rw[<-this];simp;omega
def HE(p:a<2 ^ 64)(q:g<64): (a*2 ^ (63 - g)%2 ^ 64=0-> ∀b,b<=g->a.testBit b=false)/\
 (a*2 ^ (63 - g)%2 ^ 64≠0->64<=g+Lib.bitLen (a*2 ^ (63 - g)%2 ^ 64)/\Lib.bitLen (a*2 ^ (63 - g)%2 ^ 64)<=64/\a.testBit (g+Lib.bitLen (a*2 ^ (63 - g)%2 ^ 64) - 64)=true/\
  ∀b,g+Lib.bitLen (a*2 ^ (63 - g)%2 ^ 64) - 64<b->b<=g->a.testBit b=false):=by
 have d: ∀b,b<64->(a*2 ^ (63 - g)%2 ^ 64).testBit b=(decide (63 - g<=b) && a.testBit (b - (63 - g))):=λb f=>by
  rw[Nat.testBit_mod_two_pow,rn,Nat.testBit_two_pow_mul];simp[f]
 have h:a*2 ^ (63 - g)%2 ^ 64<2 ^ 64:=jA _ aW
 constructor
 intro e b f;have:=d (b+(63 - g)) aa
 rw[e,Nat.zero_testBit,show b+(63 - g) - (63 - g)=b by omega] at this
 simpa using this.symm
 intro e;obtain⟨r,m,n⟩:=Lib.bitLenAux_bounds 64 _ h e;have i:=Lib.bitLen_le _ 64 aW h
 unfold Lib.bitLen at i ⊢
 generalize Lib.bitLenAux 64 (a*2 ^ (63 - g)%2 ^ 64)=c at *
 generalize a*2 ^ (63 - g)%2 ^ 64=j at *
 have o:j.testBit (c - 1)=true:=by
  rw[Nat.testBit_eq_decide_div_mod_eq];have:j/2 ^ (c - 1)=1:=by
   apply Nat.div_eq_of_lt_le
   simpa using m
   have:2 ^ c=2*2 ^ (c - 1):=by rw[<-Nat.pow_succ'];congr 1;omega
   omega
  rw[this];rfl
 have k:=d (c - 1) aa
 rw[o] at k
 have l:=k.symm
 simp only[dK,eQ] at l
 refine⟨aa,i,?_,λb s t=>?_⟩;rw[show g+c - 64=c - 1 - (63 - g) by omega];exact l.2
 have:=d (b+(63 - g)) aa
 rw[show b+(63 - g) - (63 - g)=b by omega,wy<|qa n<|sK aW aa] at this
 simpa using this.symm
def HF(b:a<2 ^ 64)(c:g<64):a ||| 2 ^ g<2 ^ 64:=ou b<|sL aW c
def bj.set{bs:List Bool}(d:bj c bs)(h:c[a/64]? = some g)(o:a<bs.length):bj (c.set (a/64)<|g ||| 2 ^ (a%64)) (oO bs (a:Int) true):=by
 have k:=d.lt g<|cR h
 have l:a/64<c.length:=(cH.1 h).1
 refine⟨λm i=>?_,by rw[oP,gx];exact d.eU,λb=>?_⟩;rcases sF i with i | rfl
 exact d.lt m i;exact HF k<|jA _ aW;have n:nQ (c.set (a/64)<|g ||| 2 ^ (a%64)) b=(nQ c b || decide (a=b)):=by
  unfold nQ;rw[fY,nB];by_cases e:a/64=b/64
  rw[aB e,aB l,uq,Nat.testBit_or,Nat.testBit_two_pow,fY,<-e,h,uq];congr 1
  rw[iK];omega
  rw[ai e,fY,bJ<|by rintro rfl;exact e rfl,Bool.or_false]
 rw[n,d.bits];rcases fd b bs.length with f | f
 rw[zw bs a true b f];by_cases j:a=b
 subst j;simp
 rw[bJ j,ai aa,Bool.or_false];rw[rW f,rW<|by rw[oP];exact f,bJ aa];rfl
def bj.P1{bs:List Bool}(d:bj c bs)(h:c[a/64]? = some g)(r:a<bs.length):bj (c.set (a/64)<|g &&& (18446744073709551615 - 2 ^ (a%64))) (oO bs (a:Int) false):=by
 have k:=d.lt g<|cR h
 have l:a/64<c.length:=(cH.1 h).1
 have m:2 ^ (a%64)<2 ^ 64:=sL aW<|jA _ aW
 refine⟨λn i=>?_,by rw[oP,gx];exact d.eU,λb=>?_⟩;rcases sF i with i | rfl
 exact d.lt n i;exact ot uo k;have o:nQ (c.set (a/64)<|g &&& (18446744073709551615 - 2 ^ (a%64))) b=(nQ c b && !decide (a=b)):=by
  unfold nQ;rw[fY,nB];by_cases e:a/64=b/64
  have p:18446744073709551615 - 2 ^ (a%64)=2 ^ 64 - (2 ^ (a%64)+1):=by omega
  have q:b%64<64:=jA _ aW
  rw[aB e,aB l,uq,Nat.testBit_and,p,Nat.testBit_two_pow_sub_succ m,Nat.testBit_two_pow,fY,<-e,h,uq,bI q,Bool.true_and];congr 2
  rw[iK];omega
  rw[ai e,fY,bJ<|by rintro rfl;exact e rfl,Bool.not_false,rh]
 rw[o,d.bits];rcases fd b bs.length with f | f
 rw[zw bs a false b f];by_cases j:a=b
 subst j;simp
 rw[bJ j,ai aa,Bool.not_false,rh];rw[rW f,rW<|by rw[oP];exact f];rfl
def bj.gg(a:Nat)(c:a<=64*i):bj (List.replicate i 0) (List.replicate a false):=by
 refine⟨λg d=>by rw[k6 d];decide,by simpa using c,λb=>?_⟩;have e: (List.replicate i 0).getD (b/64) 0=0:=by
  rw[fY,sA];split <;> rfl
 have f:cu (List.replicate a false) b=false:=by
  rw[cu,fY,sA];split <;> rfl
 rw[nQ,e,f,Nat.zero_testBit]
def bj.oG{bs:List Bool}(a:bj c bs):bj (c++[0]) bs:=by
 refine⟨λb hw=>?_,by have:=a.eU;simp;omega,λd=>?_⟩;rcases dq.1 hw with hw | hw
 exact a.lt b hw;obtain rfl:b=0:=by simpa using hw
 decide
 rw[<-a.bits];unfold nQ;rw[fY,fY];rcases fd (d/64) c.length with ab | ab
 rw[om ab];rw[i_ ab,hK ab];rcases hV (d/64 - c.length) with ae | ae
 rw[ae];rfl
 rw[hK (by simp only[kt];omega)]
def bj.cut{bs:List Bool}(b:bj c bs)(a:Nat)(f:a<=64*c.length)(g: ∀d,a<=d->cu bs d=false):bj c ((List.range a).map<|cu bs):=by
 refine⟨b.lt,by simpa using f,λe=>?_⟩;rw[b.bits];rcases fd e a with ab | ab
 rw[cu,cu,fY (l:=List.map _ _),fw,uj ab];rfl
 rw[g e ab,rW<|by simpa using ab]
def bj.P2{bs:List Bool}(e:bj c bs)(f:c[g/64]? = some o)(v:a<g)(k: ∀b,a<b->b<g->cu bs b=false)(l:o/2 ^ (g%64)≠0):
 kP bs a=g+Lib.ctz 64 (o/2 ^ (g%64))/\g+Lib.ctz 64 (o/2 ^ (g%64))<bs.length/\Lib.ctz 64 (o/2 ^ (g%64))<64:=by
 have m:=e.lt o<|cR f
 have n:g%64<64:=jA _ aW
 obtain⟨p,q,r⟩:=(HD m n).2 l;generalize Lib.ctz 64 (o/2 ^ (g%64))=d at *
 have h: ∀i,i<64->cu bs (64*(g/64)+i)=o.testBit i:=λi s=>by rw[<-e.bits,zx f s]
 have t:g+d=64*(g/64)+(g%64+d):=by omega
 have j:cu bs (g+d)=true:=by rw[t,h _ p];exact q
 refine⟨HA aa j λb u w=>?_,CB j,aa⟩;rcases fd b g with aS | aS
 exact k b u aS;rw[show b=64*(g/64)+(b - 64*(g/64)) by omega,h _ aa];exact r _ aa aa
def bj.P3{bs:List Bool}(d:bj c bs)(e:c[g/64]? = some o)(f: ∀b,a<b->b<g->cu bs b=false)(h:o/2 ^ (g%64)=0):
 ∀b,a<b->b<(g/64+1)*64->cu bs b=false:=by
 have i:=d.lt o<|cR e
 have j:g%64<64:=jA _ aW
 have k:=(HD i j).1 h
 intro b l m;rcases fd b g with aS | aS
 exact f b l aS;rw[show b=64*(g/64)+(b - 64*(g/64)) by omega,<-d.bits,zx e aa];exact k _ aa
def bj.P4{bs:List Bool}(d:bj c bs)(e:c[g/64]? = some o)(s:g<a)(h: ∀b,g<b->b<a->cu bs b=false)(j:o*2 ^ (63 - g%64)%2 ^ 64≠0):
 (j_ bs a:Int)=g - (64 - (Lib.bitLen (o*2 ^ (63 - g%64)%2 ^ 64):Int)):=by
 have k:=d.lt o<|cR e
 have l:g%64<64:=jA _ aW
 obtain⟨t,u,m,n⟩:=(HE k l).2 j;generalize Lib.bitLen (o*2 ^ (63 - g%64)%2 ^ 64)=p at *
 have f: ∀i,i<64->cu bs (64*(g/64)+i)=o.testBit i:=λi q=>by rw[<-d.bits,zx e q]
 have:j_ bs a=64*(g/64)+(g%64+p - 64):=by
  refine PY aa (by rw[f _ aa];exact m) λb v r=>?_
  rcases fd g b with aS | aS
  exact h b aS r;rw[show b=64*(g/64)+(b - 64*(g/64)) by omega,f _ aa];exact n _ aa aa
 omega
def bj.P5{bs:List Bool}(d:bj c bs)(e:c[g/64]? = some o)(f: ∀b,g<b->b<a->cu bs b=false)(h:o*2 ^ (63 - g%64)%2 ^ 64=0):
 ∀b,64*(g/64)<=b->b<a->cu bs b=false:=by
 have i:=d.lt o<|cR e
 have j:g%64<64:=jA _ aW
 have k:=(HE i j).1 h
 intro b m l;rcases fd g b with aS | aS
 exact f b aS l;rw[show b=64*(g/64)+(b - 64*(g/64)) by omega,<-d.bits,zx e aa];exact k _ aa
