/- part 16 of the proof -/
import Derived.Test.YtnfmgboendlmaaaGreatDoorQ15
set_option linter.all false
namespace Go.Proofs.YtnfmgboendlmaaaGreatDoor.Mq
open RowKit Tryz
variable {g:a1}{l:b8}{f:bA}{h:bQ}(a:a1)(c:World)(d:bA)(b:Int)(i:hN)(m:Bool)(n:gE)(e j k:Int)
def oS :a1:=
 let a:={ a with x:=gb a }
 if a.y=a.top then hi a λb=>iE b a.top a.dr 1 (pv · · · (aq a) (aR a))
 else if 0<a.y then { a with y:=a.y - 1 } else a
def Qo :ds 2 a (oS a):=by
 have b:ds 0 a { a with x:=gb a }:=qC a (zB ·)
 unfold oS;dsimp only;split
 exact (b.trans<|jn { a with x:=gb a } (f:=λc=>iE c a.top a.dr 1 (pv · · · (aq a) (aR a)))<|zC a.bz _ _ λd h i e f=>tm d e f _ _).mono aa;split
 exact (b.trans<|HU _ λg=>by have:=g.y;simp only[a1.rows] at *;omega).mono aa;exact b.mono aa
def Qp(a:f.y=f.top):oS f.abs= { (iT f).abs with bz:=iE f.az.abs f.top f.dr 1 (pv · · · f.bk.at_.aq f.bk.at_.aR) }:=by
 unfold oS;exact aB a
def Qq(a: ¬f.y=f.top)(b:0<f.y):oS f.abs= { iT f with y:=f.y - 1 }.abs:=by
 unfold oS;exact (ai a).trans<|aB b
def Qr(a: ¬f.y=f.top)(b: ¬0<f.y):oS f.abs=(iT f).abs:=by
 unfold oS;exact (ai a).trans<|ai b
def Qs(j:bc c (a8 d))(a:eM d)(f:eX d.abs)(k:d.az.bu.l.length<=1530000000000):
 ay 258 [ptr d.g] c (e2 d (.tuple #[]) (oS d.abs) c):=by
 obtain⟨u,m,v,w,h⟩:=f.nums;refine bX func258 ntmps258 j ?_;refine cZ ?_;refine fh (kQ · d · · m)<|aU ?_;refine bN [0,1,2,3,4,5,6,7,8,9] 0 [[]] ?_;refine (aE) (λe=>?_) λe=>?_;refine bN [0,1,2,3,4,5,6,7,8,9,10,11,12] 2 [[(13,false,[]),(14,true,[])]] ?_;refine dO ?_;refine cU (m6 · (iT d) ·)<|ap ?_;refine dE (Cy · d.az · a.r f.bz k d.top d.dr 1 d.bk.at_.aq d.bk.at_.aR) λo p=>?_;refine aI ?_;exact λi b=>mc (iT d) o ⟨rfl,rfl,rfl⟩ ⟨a.r,a.st,a.n⟩ p (zC d.az.abs d.top d.dr λq x z s h=>tm q s h d.bk.at_.aq d.bk.at_.aR).al (by rw[Qp e]) rfl b ah
 refine (aE) (λt=>b6 ?_) λt=>ap ?_;exact λi b=>gk { iT d with y:=d.y - 1 } ⟨rfl,rfl,rfl⟩ ⟨a.r,a.st,a.n⟩ (by rw[Qq e aa]) rfl b ah
 exact λi b=>gk (iT d) ⟨rfl,rfl,rfl⟩ ⟨a.r,a.st,a.n⟩ (by rw[Qr e aa]) rfl b ah
def nS :a1:=if a.x<a.al then hi a (w7 · a.y) else a
def pA :a1:=if (jm a).2=true then hi { (jm a).1 with x:=0 } (iS · (jm a).1.y true) else { (jm a).1 with x:=0 }
def rY :kb a b=if a.x+b<=a.al then a else if a.bk.wrap=false then { a with x:=a.al - b } else pA (nS a):=rfl
def HZ :ds 0 a (nS a):=by
 unfold nS;split
 exact jn a<|Hx a.bz a.y;exact ds.refl a
def Qt :ds 2 a (pA a):=by
 have b:=(u9 a).trans<|qC (x:=0) _ (λc=>by have:=c.bz.al;simp only[a1.al] at *;omega)
 unfold pA;split
 exact (b.trans<|jn _<|nP _ _ true).mono aa;exact b.mono aa
def Qu : (pA a).x=0:=by
 unfold pA;split <;> rfl
def CD(d:0<=b/\b<=2):ds 2 a (kb a b):=by
 rw[rY];split
 exact (ds.refl a).mono aa;split
 exact (qC a λc=>by have:=c.bz.al;have:=c.x;simp only[a1.al] at *;omega).mono aa;exact ((HZ a).trans<|Qt _).mono aa
def H0(d:0<=b/\b<=2)(c:eX a): (kb a b).x+b<=a.al/\0<=(kb a b).x:=by
 have e:=c.bz.al
 have f:=c.x
 rw[rY];simp only[a1.al] at *
 split
 omega
 split
 show a.bz.al - b+b<=_/\0<=a.bz.al - b;omega
 rw[Qu];omega
def jl.fits{a:bA}{k:Nat}(c:jl f g a)(d:ds k f.abs g)(e:eX f.abs):eX a.abs/\a.az.bu.l.length<=f.az.bu.l.length+k:=by
 have b:=d.bu
 rw[<-c.abs] at b
 simp only[bA.abs,bQ.abs,c8] at b
 exact⟨by rw[c.abs];exact d.wf e,b⟩
def zD{s:bA}{b:a1}(a:d.g=s.g/\d.az.g=s.az.g/\d.st.g=s.st.g)(c:eM d)(f:h.g=d.az.g/\dx h.r/\h.abs=l)(i:l.al=d.az.al)(j: { d.abs with bz:=l } = b):jl s b { d with az:=h }:=by
 obtain⟨k,m,e⟩:=f;refine⟨a.1,k.trans a.2.1,a.2.2,⟨m,c.st,?_⟩,?_⟩;have:h.al=l.al:=by rw[<-e];rfl
 rw[c.n,<-i,<-this];rw[<-j];simp only[bA.abs,e]
def u_{t:bA}(a:h.g=t.az.g):a8 { t with az:=h } = [t.aq,h.aq,aZ<|cP h.r,h.s.aD,h.s.cw,h.bu.aD,t.st.aQ]:=by
 simp only[a8,bA.aq,ga,a]
def Qv(A:bc c (a8 d))(h:eM d)(p:eX d.abs)(F:d.az.bu.l.length<=1520000000000)(e:Int)(G:1<=e/\e<=2):
 ay 342 [ptr d.g,ad e] c (e2 d (.tuple #[]) (kb d.abs e) c):=by
 obtain⟨H,I,J,K,L⟩:=p.nums;refine bX func342 ntmps342 A ?_;refine aA ?_;refine bN [0,1,2,3,4,5,6] 1 [[(7,false,[8])]] ?_;refine a6 ?_;refine fh (lH · d d.az rfl · ·) ?_;refine (aE) (λk=>ap ?_) λk=>cZ ?_;exact λq i=>gk d ⟨rfl,rfl,rfl⟩ h (by rw[rY,aB<|by exact k]) rfl i ah
 refine cD rfl (λo=>a7 ?_) λo=>a7 ?_;refine fh (lH · d d.az rfl · ·)<|be ?_;exact λq i=>gk { d with x:=d.az.al - e } ⟨rfl,rfl,rfl⟩ ⟨h.r,h.st,h.n⟩ (by rw[rY,ai<|by exact k,aB (by have m:d.bk.wrap=false:=(by simpa using o);exact m)];rfl) rfl i ah
 refine bN [0,1,2,3,4] 1 [[(5,false,[6])]] ?_;refine aU ?_;refine fh (lH · d d.az rfl · ·)<|aI ?_;refine gA (λf:bA=>[(0,ptr f.g),(1,ad e)]) (λf=>ag c (aK<|a8 d)<|a8 f) (jl d (nS d.abs) ·) ?_ ?_;refine (cj) (λs=>?_) λs=>av ?_;refine bN [0,1,2,3,4,5,6,7] 1 [[(8,true,[])]] ?_;refine be ?_;refine dE (Pv · d.az · h.r p.bz d.y) λB z=>?_;refine ap ?_;exact dN { d with az:=B } (zD d ⟨rfl,rfl,rfl⟩ h z (Hx d.az.abs d.y).al<|by rw[nS,aB<|by exact s];rfl) b5 (λ_ t=>by rw[u_ z.1];exact t.aF ah);exact dN d ⟨rfl,rfl,rfl,h,by rw[nS,ai<|by exact s]⟩ b5 λ_ t=>t;rintro f b;obtain⟨u,M⟩:=b.fits (HZ d.abs) p;obtain⟨N,O,P,Q,R⟩:=u.nums;refine a7 ?_;refine (dg) (HY · f · b.wf u aa) λj a=>a7 ?_;obtain⟨C,S⟩:=a.fits (u9 f.abs) u;rw[<-a.g];refine b6 ?_;refine cD rfl (λv=>?_) λv=>aA ?_;refine bN [0,1,2,3,4,5,6,7] 1 [[(8,true,[])]] ?_;refine be ?_;refine dE (Pn · j.az · a.wf.r C.bz j.y) λD E=>?_;refine a7 ?_;intro q i;have w:kb d.abs e=pA f.abs:=by rw[rY,ai<|by exact k,ai (by have m: ¬d.bk.wrap=false:=(by simpa using o);exact m),b.abs]
 exact mc { j with x:=0 } D ⟨a.g.trans b.g,a.az.trans b.az,a.st.trans b.st⟩ ⟨a.wf.r,a.wf.st,a.wf.n⟩ E (nP j.az.abs j.y true).al (by rw[w,pA,aB v,<-a.abs];rfl) rfl i ah;intro q i;have w:kb d.abs e=pA f.abs:=by rw[rY,ai<|by exact k,ai (by have m: ¬d.bk.wrap=false:=(by simpa using o);exact m),b.abs]
 exact gk { j with x:=0 } ⟨a.g.trans b.g,a.az.trans b.az,a.st.trans b.st⟩ ⟨a.wf.r,a.wf.st,a.wf.n⟩ (by rw[w,pA,ai<|by rw[v];decide,<-a.abs];rfl) rfl i ah
def hO :a1:=if cO b=0 then hi a (uZ · a.y (a.x - 1) b) else a
def kd :a1:=if a.bk.put=true then hi a (u0 · a.y a.x b (aq a) (aR a)) else a
def zE :a1:={ hi a (th · a.y a.x b a.bk.at_) with x:=a.x+e,last:=b }
def to :rX a b=if cO b<1 then hO a b else zE (kd (kb (hO a b)<|cO b)<|cO b) b (cO b):=rfl
def zF :ds 0 a (hO a b):=by
 unfold hO;split
 exact jn a<|Hw a.bz _ _ _;exact ds.refl a
def CE :ds 0 a (kd a b):=by
 unfold kd;split
 exact jn a<|zu a.bz _ _ _ _ _;exact ds.refl a
def Qw : (kd a b).x=a.x:=by
 unfold kd;split <;> rfl
def Qx(f:eX a->0<=a.x+e/\a.x+e<=a.al):ds 0 a (zE a b e):=by
 have c:=jn a<|xa a.bz a.y a.x b a.bk.at_
 exact⟨λd=>⟨(c.wf d).bz,(c.wf d).y,by have:=f d;have g:=c.al;show 0<=a.x+e/\a.x+e<=(th a.bz a.y a.x b a.bk.at_).al;rw[(xa a.bz a.y a.x b a.bk.at_).al];exact this,(c.wf d).top⟩,c.rows,c.al,c.room,c.bu⟩
def H1(a: ¬cO b<1):1<=cO b/\cO b<=2:=by
 rcases w4 b with e | e | e | e <;> omega
def H2 :ds 2 a (rX a b):=by
 rw[to];split
 ·exact (zF a b).mono aa
 ·rename_i g
  have e:=H1 b g
  have h:=(zF a b).trans<|CD (hO a b) (cO b) ⟨aa,e.2⟩
  have c:=h.trans<|CE _<|cO b
  refine⟨λf=>?_,?_,?_,?_,?_⟩
  ·have i:=(zF a b).wf f
   have k:=H0 (hO a b) (cO b) ⟨aa,e.2⟩ i
   exact (Qx _ b (cO b) (λ_=>by
    rw[Qw];have j: (kd (kb (hO a b)<|cO b)<|cO b).al=(hO a b).al:=((CD (hO a b) (cO b) ⟨aa,e.2⟩).trans<|CE _<|cO b).al
    rw[j];omega)).wf<|c.wf f
  all_goals
   have d:=jn (kd (kb (hO a b)<|cO b)<|cO b)<|xa (kd (kb (hO a b)<|cO b)<|cO b).bz (kd (kb (hO a b)<|cO b)<|cO b).y (kd (kb (hO a b)<|cO b)<|cO b).x b (kd (kb (hO a b)<|cO b)<|cO b).bk.at_
  ·exact (c.trans d).rows
  ·exact (c.trans d).al
  ·exact (c.trans d).room
  ·exact ((c.trans d).mono aa).bu
def H3(C:bc c (a8 d))(p:eM d)(q:eX d.abs)(K:d.az.bu.l.length<=1510000000000)(a:Int):
 ay 251 [ptr d.g,.int .i32 a] c (e2 d (.tuple #[]) (rX d.abs a) c):=by
 obtain⟨L,M,N,O,P⟩:=q.nums;have Q:=w4 a
 refine bX func251 ntmps251 C ?_;refine ap ?_;refine bF (w5 · a)<|be ?_;refine gA (λj:bA=>[(0,ptr j.g),(1,.int .i32 a),(4,ad<|cO a)]) (λj=>ag c (aK<|a8 d)<|a8 j) (jl d (hO d.abs a) ·) ?_ ?_;refine (cj) (λs=>?_) λs=>av ?_;refine bN [0,1,2,3,4,5,6,7,8,9,10,11,12,13] 1 [[(14,true,[])]] ?_;refine fa ?_;refine dE (Pq · d.az · p.r q.bz d.y (d.x - 1) a) λD w=>?_;refine ap ?_;exact dN { d with az:=D } (zD d ⟨rfl,rfl,rfl⟩ p w (Hw d.az.abs _ _ _).al<|by rw[hO,aB s];rfl) (ed rfl rfl rfl) (λ_ k=>by rw[u_ w.1];exact k.aF ah);exact dN d ⟨rfl,rfl,rfl,p,by rw[hO,ai s]⟩ b5 λ_ k=>k;rintro j f;obtain⟨m,R⟩:=f.fits (zF d.abs a) q;obtain⟨S,T,U,V,W⟩:=m.nums;refine (aE) (λo=>ap ?_) λo=>?_;exact λE t=>aX.cf j ⟨f.g,f.az,f.st,f.wf,by rw[to,aB o,f.abs]⟩ rfl t
 have u:=H1 a o
 refine aH ?_;refine (dg) (Qv · j · f.wf m aa (cO a) u) λb h=>be ?_;obtain⟨z,X⟩:=h.fits (CD j.abs (cO a) ⟨aa,u.2⟩) m;have F:=H0 j.abs (cO a) ⟨aa,u.2⟩ m
 rw[<-h.abs] at F
 rw[<-h.g];refine ap ?_;refine gA (λe:bA=>[(0,ptr e.g),(1,.int .i32 a),(4,ad<|cO a)]) (λe=>ag c (aK<|a8 d)<|a8 e) (jl b (kd b.abs<|cO a) ·) ?_ ?_;refine cD rfl (λv=>?_) λv=>av ?_;refine bN [0,1,2,3,4,5,6,7,8,9,10,11,12,13] 2 [[(14,false,[]),(15,true,[])]] ?_;refine fa ?_;refine cU (m6 · b ·)<|ap ?_;refine dE (He · b.az · h.wf.r z.bz b.y b.x (cO a) b.bk.at_.aq b.bk.at_.aR) λG A=>?_;refine ap ?_;exact dN { b with az:=G } (zD b ⟨rfl,rfl,rfl⟩ h.wf A (zu b.az.abs _ _ _ _ _).al<|by rw[kd,aB<|by exact v];rfl) (ed rfl rfl rfl) (λ_ k=>by rw[u_ A.1];exact k.aF ah);exact dN b ⟨rfl,rfl,rfl,h.wf,by rw[kd,ai<|by rw[show b.abs.bk.put=b.bk.put from rfl,v];decide]⟩ b5 λ_ k=>k;rintro e i;obtain⟨B,Y⟩:=i.fits (CE b.abs<|cO a) z;obtain⟨Z,Za,Zb,Zc,Zd⟩:=B.nums;refine aA ?_;refine bN [0,1,2,3,4,5,6,7,8,9,10,11,12,13,14,15,16,17] 1 [[(18,true,[])]] ?_;refine gR ?_;refine dE (Hd · e.az · i.wf.r B.bz e.y e.x a e.bk.at_) λH I=>?_;refine y7 ?_;intro E t;have J:rX d.abs a=zE e.abs a (cO a):=by rw[to,ai o,i.abs,h.abs,f.abs]
 exact mc { e with x:=e.x+cO a,last:=a } H ⟨(i.g.trans h.g).trans f.g,(i.az.trans h.az).trans f.az,(i.st.trans h.st).trans f.st⟩ ⟨i.wf.r,i.wf.st,i.wf.n⟩ I (xa e.az.abs _ _ _ _).al (by rw[J];rfl) rfl t ah
def me(y x:Int):a1:=
 if a.bk.home=true then { a with y:=a.top+fU y 0 (a.dr - a.top),x:=fU x 0 (a.al - 1) }
 else { a with y:=0+fU y 0 (a.rows - 1 - 0),x:=fU x 0 (a.al - 1) }
def nT{n lo hi:Int}(a:lo<=hi):lo<=fU n lo hi/\fU n lo hi<=hi:=by unfold fU;omega
def zG{y x:Int}(c:eX a->(0<=y/\y<a.rows)/\(0<=x/\x<=a.al)):ds 0 a { a with y:=y,x:=x }:=⟨λb=>⟨b.bz,(c b).1,(c b).2,b.top⟩,rfl,rfl,rfl,by show a.bz.g_.length<=_;omega⟩
def xg :ds 0 a (me a b e):=by
 unfold me;focus (split;refine zG a λc=>?_;(have d:=c.top;have f:=c.bz.al;have g:=c.bz.rows);have h:=nT (n:=b) (lo:=0) (hi:=a.dr - a.top) aa;rotate_left;refine zG a λc=>?_;(have d:=c.top;have f:=c.bz.al;have g:=c.bz.rows);have h:=nT (n:=b) (lo:=0) (hi:=a.rows - 1 - 0) (by simp only[a1.rows];omega);all_goals (have i:=nT (n:=e) (lo:=0) (hi:=a.al - 1) (by simp only[a1.al];omega);(simp only[a1.al,a1.rows] at *);omega))
def H4 :a1:={ a with x:=max 0 (gb a - 1) }
def Qy :ds 0 a (H4 a):=qC a (λb=>by have:=zB b;have:=b.bz.al;simp only[a1.al] at *;omega)
def va :ds 0 a { a with x:=0 }:=qC a (λb=>by have:=b.bz.al;simp only[a1.al] at *;omega)
def zH(a:bc c (a8 d))(b:eM d)(e:eX d.abs)(i:d.az.bu.l.length<=1510000000000):
 ay 178 [ptr d.g] c (e2 d (.tuple #[]) (jm d.abs).1 c):=by
 refine bX func178 ntmps178 a ?_;refine a6 ?_;refine (dg) (HY · d · b e aa) λf h=>aA ?_;exact bT f h
def H5(b:bc c (a8 d))(a:eM d):
 ay 180 [ptr d.g] c (e2 d (.tuple #[]) { d.abs with x:=0 } c):=by
 refine bX func180 ntmps180 b ?_;refine cZ ?_;exact λf e=>gk { d with x:=0 } ⟨rfl,rfl,rfl⟩ ⟨a.r,a.st,a.n⟩ rfl rfl e ah
def Qz(b:bc c (a8 d))(a:eM d)(e:eX d.abs):
 ay 176 [ptr d.g] c (e2 d (.tuple #[]) (H4 d.abs) c):=by
 obtain⟨i,f,j,k,l⟩:=e.nums;refine bX func176 ntmps176 b ?_;refine be ?_;refine fh (kQ · d · · f)<|aU ?_;exact λm h=>gk { d with x:=max 0 (min d.x (d.az.al - 1) - 1) } ⟨rfl,rfl,rfl⟩ ⟨a.r,a.st,a.n⟩ rfl rfl h ah
def xh(f:bc c (a8 d))(a:eM d)(h:eX d.abs)(y x:Int):
 ay 284 [ptr d.g,ad y,ad x] c (e2 d (.tuple #[]) (me d.abs y x) c):=by
 obtain⟨k,m,o,p,q⟩:=h.nums;have i:=nR d
 have t:=nT (n:=y) (lo:=0) (hi:=d.dr - d.top) aa
 have u:=nT (n:=y) (lo:=0) (hi:=(d.az.s.l.length:Int) - 1 - 0) aa
 refine bX func284 ntmps284 f ?_;refine cn ?_;refine fh (pz · d d.az rfl · ·)<|fa ?_;refine cD rfl (λb=>?_) λb=>be ?_;refine bN [0,1,2,3,4,5,6,7,8,9] 0 [[]] ?_;refine lb ?_;refine bF (py · _ _ _) ?_;refine be ?_;refine fh (lH · { d with y:=d.top+fU y 0 (d.dr - d.top) } d.az rfl · ·)<|av ?_;refine bF (py · _ _ _) ?_;refine aI ?_;exact λj e=>gk { d with y:=d.top+fU y 0 (d.dr - d.top),x:=fU x 0 (d.az.al - 1) } ⟨rfl,rfl,rfl⟩ ⟨a.r,a.st,a.n⟩ (by rw[me,aB<|by exact b];rfl) rfl e ah
 refine bF (py · _ _ _) ?_;refine be ?_;refine fh (lH · { d with y:=0+fU y 0 ((d.az.s.l.length:Int) - 1 - 0) } d.az rfl · ·)<|av ?_;refine bF (py · _ _ _) ?_;refine aI ?_;exact λj e=>gk { d with y:=0+fU y 0 ((d.az.s.l.length:Int) - 1 - 0),x:=fU x 0 (d.az.al - 1) } ⟨rfl,rfl,rfl⟩ ⟨a.r,a.st,a.n⟩ (by rw[me,ai<|by rw[show d.abs.bk.home=d.bk.home from rfl,b];decide,a1.rows,i];rfl) rfl e ah
def dF.nums(c:dF h.abs): (1<=(h.s.l.length:Int)/\(h.s.l.length:Int)<=1000)/\(2<=h.al/\h.al<=1000):=by
 have d: (b2 h.s.l).length=h.s.l.length:=by simp[b2]
 obtain⟨a,b,-,-,-⟩:=c;simp only[bQ.abs] at a b
 rw[d] at b
 exact⟨aa,a⟩
def vb :a1:={ a with top:=0,dr:=a.rows - 1 }
def xi(y x:Int):a1:={ a with y:=fU y 0<|a.rows - 1,x:=fU x 0 (a.al - 1) }
def zI :ds 0 a (xi a b e):=by
 refine zG a λc=>?_;have d:=c.bz.al;have f:=c.bz.rows
 have g:=nT (n:=b) (lo:=0) (hi:=a.rows - 1) (by simp only[a1.rows];omega)
 have h:=nT (n:=e) (lo:=0) (hi:=a.al - 1) (by simp only[a1.al];omega)
 simp only[a1.al,a1.rows] at *
 omega
def H6 :ds 0 a (vb a):=⟨λb=>⟨b.bz,b.y,b.x,by have:=b.bz.rows;show (0 :Int)<=0/\0<=(a.bz.cY.length:Int) - 1/\(a.bz.cY.length:Int) - 1<a.bz.cY.length;omega⟩,rfl,rfl,rfl,cC _⟩
def CF :a1:=let a:={ a with x:=gb a };hi a (u0 · a.y a.x (max 1 b) (aq a) (aR a))
def CG :a1:=let a:={ a with x:=gb a };hi a (zn · a.y a.x (max 1 b) (aq a) (aR a))
def qD :a1:=let a:={ a with x:=gb a };hi a (eraseP · a.y a.x (a.x+fU b 1 1000) (aq a) (aR a))
def CH :ds 0 a { a with x:=gb a }:=qC a (zB ·)
def QA :ds 0 a (CF a b):=(CH a).trans<|jn { a with x:=gb a } (zu a.bz a.y (gb a) (max 1 b) (aq a)<|aR a)
def QB :ds 0 a (CG a b):=(CH a).trans<|jn { a with x:=gb a } (Hy a.bz a.y (gb a) (max 1 b) (aq a)<|aR a)
def QC :ds 0 a (qD a b):=(CH a).trans<|jn { a with x:=gb a } (qA a.bz a.y (gb a) (gb a+fU b 1 1000) (aq a)<|aR a)
def zJ(b:bc c (a8 d))(a:eM d)(e:dF d.az.abs):
 ay 217 [ptr d.g] c (e2 d (.tuple #[]) (vb d.abs) c):=by
 obtain⟨i,j⟩:=e.nums;have f:=nR d
 refine bX func217 ntmps217 b ?_;refine a7 ?_;refine fh (pz · d d.az rfl · ·)<|a6 ?_;exact λk h=>gk { d with top:=0,dr:=(d.az.s.l.length:Int) - 1 } ⟨rfl,rfl,rfl⟩ ⟨a.r,a.st,a.n⟩ (by rw[vb,a1.rows,f];rfl) rfl h ah
def zK(b:bc c (a8 d))(a:eM d)(e:dF d.az.abs)(y x:Int):
 ay 270 [ptr d.g,ad y,ad x] c (e2 d (.tuple #[]) (xi d.abs y x) c):=by
 obtain⟨i,j⟩:=e.nums;have f:=nR d
 refine bX func270 ntmps270 b ?_;refine aI ?_;refine fh (pz · d d.az rfl · ·)<|av ?_;refine bF (py · _ _ _) ?_;refine aA ?_;refine fh (lH · d d.az rfl · ·)<|av ?_;refine bF (py · _ _ _) ?_;refine aY ?_;exact λk h=>gk { d with y:=fU y 0<|(d.az.s.l.length:Int) - 1,x:=fU x 0 (d.az.al - 1) } ⟨rfl,rfl,rfl⟩ ⟨a.r,a.st,a.n⟩ (by rw[xi,a1.rows,f];rfl) rfl h ah
def QD(f:bc c (a8 d))(a:eM d)(e:eX d.abs)(b:Int):
 ay 285 [ptr d.g,ad b] c (e2 d (.tuple #[]) (CF d.abs b) c):=by
 obtain⟨l,h,m,o,p⟩:=e.nums;refine bX func285 ntmps285 f ?_;refine bP ?_;refine fh (kQ · d · · h)<|aI ?_;refine bN [0,1,2,3,4,5,6,7,8,9,10,11,12,13,14] 2 [[(15,false,[]),(16,true,[])]] ?_;refine ft ?_;refine cU (m6 · (iT d) ·)<|ap ?_;refine dE (He · d.az · a.r e.bz d.y (min d.x<|d.az.al - 1) (max 1 b) d.bk.at_.aq d.bk.at_.aR) λi j=>?_;refine a7 ?_;exact λq k=>mc (iT d) i ⟨rfl,rfl,rfl⟩ ⟨a.r,a.st,a.n⟩ j (zu d.az.abs _ _ _ _ _).al rfl rfl k ah
def QE(f:bc c (a8 d))(a:eM d)(e:eX d.abs)(b:Int):
 ay 288 [ptr d.g,ad b] c (e2 d (.tuple #[]) (CG d.abs b) c):=by
 obtain⟨l,h,m,o,p⟩:=e.nums;refine bX func288 ntmps288 f ?_;refine bP ?_;refine fh (kQ · d · · h)<|aI ?_;refine bN [0,1,2,3,4,5,6,7,8,9,10,11,12,13,14] 2 [[(15,false,[]),(16,true,[])]] ?_;refine ft ?_;refine cU (m6 · (iT d) ·)<|ap ?_;refine dE (Pt · d.az · a.r e.bz d.y (min d.x<|d.az.al - 1) (max 1 b) d.bk.at_.aq d.bk.at_.aR) λi j=>?_;refine a7 ?_;exact λq k=>mc (iT d) i ⟨rfl,rfl,rfl⟩ ⟨a.r,a.st,a.n⟩ j (Hy d.az.abs _ _ _ _ _).al rfl rfl k ah
def QF(f:bc c (a8 d))(a:eM d)(e:eX d.abs)(b:Int):
 ay 290 [ptr d.g,ad b] c (e2 d (.tuple #[]) (qD d.abs b) c):=by
 obtain⟨l,h,m,o,p⟩:=e.nums;have q:=nT (n:=b) (lo:=1) (hi:=1000) aa
 refine bX func290 ntmps290 f ?_;refine bP ?_;refine fh (kQ · d · · h)<|aI ?_;refine bN [0,1,2,3,4,5,6,7,8,9,10,11,12,13,14,15,16,19] 3 [[(17,false,[18]),(20,false,[]),(21,true,[])]] ?_;refine gR ?_;refine bF (py · _ _ _) ?_;refine a7 ?_;refine cU (m6 · (iT d) ·)<|ap ?_;refine (dg) (xc · d.az · a.r e.bz d.y (min d.x<|d.az.al - 1) (min d.x (d.az.al - 1)+fU b 1 1000) d.bk.at_.aq d.bk.at_.aR aa) λi j=>a7 ?_;exact λs k=>mc (iT d) i ⟨rfl,rfl,rfl⟩ ⟨a.r,a.st,a.n⟩ j (qA d.az.abs _ _ _ _ _).al rfl rfl k ah
def qE :Bool:=decide<|a.top<=a.y/\a.y<=a.dr
def tp :a1:=if qE a=true then hi { a with x:=0 } (λc=>iE c a.y a.dr (max 1 b) (pv · · · (aq a) (aR a))) else a
def tq :a1:=if qE a=true then hi { a with x:=0 } (λc=>iE c a.y a.dr (max 1 b) (tk · · · (aq a) (aR a))) else a
def rZ :a1:=
 if 0<b then hi a λc=>iE c a.top a.dr b (mY · · · (aq a) (aR a))
 else if b<0 then hi a (λc=>iE c a.top a.dr (0 - max b (-1000)) (pv · · · (aq a) (aR a))) else a
def vc(a:eX g):g.bz.cY.length<=1000:=a.bz.rows.2
def QG(f:a.bz.cY.length<=1000)(b:Int):ds 2000 a (tp a b):=by
 unfold tp;split
 exact ((va a).trans<|jn { a with x:=0 } (rV a.bz a.y a.dr (max 1 b) λc g h d e=>tm c d e (aq a)<|aR a)).mono (by show 0+2*a.bz.cY.length<=2000;omega);exact (ds.refl a).mono aa
def QH(f:a.bz.cY.length<=1000)(b:Int):ds 2000 a (tq a b):=by
 unfold tq;split
 exact ((va a).trans<|jn { a with x:=0 } (rV a.bz a.y a.dr (max 1 b) λc g h d e=>zt c d e (aq a)<|aR a)).mono (by show 0+2*a.bz.cY.length<=2000;omega);exact (ds.refl a).mono aa
def QI(h:a.bz.cY.length<=1000)(e:Int):ds 2000 a (rZ a e):=by
 unfold rZ;split
 exact (jn a<|rV a.bz a.top a.dr e λb f g c d=>w8 b c d (aq a)<|aR a).mono aa;split
 exact (jn a<|rV a.bz a.top a.dr _ λb f g c d=>tm b c d (aq a)<|aR a).mono aa;exact (ds.refl a).mono aa
abbrev zL :bA:={ d with x:=0 }
def H7(i:bc c (a8 d))(a:eM d):
 ay 368 [ptr d.g] c (e2 d (.bool<|qE d.abs) (if qE d.abs=true then (zL d).abs else d.abs) c):=by
 have b:qE d.abs=decide (d.top<=d.y/\d.y<=d.dr):=rfl
 refine bX func368 ntmps368 i ?_;refine aU ?_;refine bN [0,1,2,3,4,5,6,7,8,9,10,11,12,13,14,15,16,17,18,19,20,21,22,23] 0 [[]] ?_;refine cZ ?_;refine qm 16 rfl (λf=>?_) λf=>?_;have j:=bg f
 refine nI ?_;exact λh e=>gk d ⟨rfl,rfl,rfl⟩ ⟨a.r,a.st,a.n⟩ (by rw[b,ai<|by rw[eQ];omega]) (by rw[b,bJ aa]) e ah
 have j:=bm f
 refine (aE) (λk=>aY ?_) λk=>ft ?_;exact λh e=>gk d ⟨rfl,rfl,rfl⟩ ⟨a.r,a.st,a.n⟩ (by rw[b,ai<|by rw[eQ];omega]) (by rw[b,bJ aa]) e ah
 exact λh e=>gk (zL d) ⟨rfl,rfl,rfl⟩ ⟨a.r,a.st,a.n⟩ (by rw[b,aB<|bI aa]) (by rw[b,bI aa]) e ah
def QJ(p:bc c (a8 d))(a:eM d)(h:eX d.abs)(x:d.az.bu.l.length<=1510000000000)(e:Int):
 ay 289 [ptr d.g,ad e] c (e2 d (.tuple #[]) (rZ d.abs e) c):=by
 obtain⟨y,z,A,B,f⟩:=h.nums;refine bX func289 ntmps289 p ?_;refine (aE) (λq=>?_) λq=>?_;refine bN [0,1,2,3,4,5,6,7,8,9,10,11,12,13] 2 [[(14,false,[]),(15,true,[])]] ?_;refine fa ?_;refine cU (m6 · d ·)<|ap ?_;refine (dg) (Hs · d.az · a.r h.bz aa d.top d.dr e d.bk.at_.aq d.bk.at_.aR) λi j=>aI ?_;exact λo b=>mc d i ⟨rfl,rfl,rfl⟩ ⟨a.r,a.st,a.n⟩ j (rV d.az.abs d.top d.dr e λk s t m f=>w8 k m f d.bk.at_.aq d.bk.at_.aR).al (by rw[rZ,aB aa];rfl) rfl b ah
 refine (aE) (λu=>?_) λu=>ap ?_;refine bN [0,1,2,3,4,5,6,7,8,9,10,11,12,13,14,15] 2 [[(16,false,[]),(17,true,[])]] ?_;refine cZ ?_;refine aO rfl (λC D=>(qi rfl rfl (wrap64 aa aa) aJ))<|ap ?_;refine cU (m6 · d ·)<|ap ?_;refine bK (l0:=b9 d.az) ah (hargs:=rfl) (λv w=>Cy v d.az (w.cb ah) a.r h.bz aa d.top d.dr _ d.bk.at_.aq d.bk.at_.aR) λi j=>aI ?_;exact λo b=>mc d i ⟨rfl,rfl,rfl⟩ ⟨a.r,a.st,a.n⟩ j (rV d.az.abs d.top d.dr _ λk s t m f=>tm k m f d.bk.at_.aq d.bk.at_.aR).al (by rw[rZ,ai aa,aB aa];rfl) rfl b ah
 exact λo b=>gk d ⟨rfl,rfl,rfl⟩ a (by rw[rZ,ai aa,ai aa]) rfl b ah
def QK(n:bc c (a8 d))(o:eM d)(j:eX d.abs)(B:d.az.bu.l.length<=1510000000000)(h:Int):
 ay 286 [ptr d.g,ad h] c (e2 d (.tuple #[]) (tp d.abs h) c):=by
 obtain⟨C,D,E,F,k⟩:=j.nums;refine bX func286 ntmps286 n ?_;refine ap ?_;refine dE (H7 · d · o) λa b=>?_;refine (aE) (λe=>?_) λe=>?_;have e:qE d.abs=true:=bI e
 rw[aB e] at b
 have f:a.abs=(zL d).abs:=b.abs
 have p:a.y=d.y:=a_ a1.y f
 have q:a.dr=d.dr:=a_ a1.dr f
 have s:a.bk=d.bk:=a_ a1.bk f
 have m:a.az.abs=d.az.abs:=a_ a1.bz f
 have t:eX a.abs:=by rw[f];exact (va d.abs).wf j
 have G:a.az.bu.l.length=d.az.bu.l.length:=by have:=a_ (λu=>u.g_.length) m;simpa [bQ.abs] using this
 rw[<-b.g];refine bN [0,1,2,3,4,5,6,7,8,9,10,11,12,13,14] 2 [[(15,false,[]),(16,true,[])]] ?_;refine ft ?_;refine cU (m6 · a ·)<|ap ?_;refine (dg) (Cy · a.az · b.wf.r t.bz aa a.y a.dr (max 1 h) a.bk.at_.aq a.bk.at_.aR) λv w=>a7 ?_;exact λx i=>mc a v ⟨b.g,b.az,b.st⟩ b.wf w (rV a.az.abs _ _ _ λz H I A k=>tm z A k _ _).al (by rw[tp,aB e,m,p,q,s,f];rfl) rfl i ah
 have e:qE d.abs=false:=bJ e
 refine aA ?_;exact λx i=>aX.cf a (by rw[tp];rw[ai (by rw[e];decide)] at b ⊢;exact b) rfl i
def QL(n:bc c (a8 d))(o:eM d)(j:eX d.abs)(B:d.az.bu.l.length<=1510000000000)(h:Int):
 ay 287 [ptr d.g,ad h] c (e2 d (.tuple #[]) (tq d.abs h) c):=by
 obtain⟨C,D,E,F,k⟩:=j.nums;refine bX func287 ntmps287 n ?_;refine ap ?_;refine dE (H7 · d · o) λa b=>?_;refine (aE) (λe=>?_) λe=>?_;have e:qE d.abs=true:=bI e
 rw[aB e] at b
 have f:a.abs=(zL d).abs:=b.abs
 have p:a.y=d.y:=a_ a1.y f
 have q:a.dr=d.dr:=a_ a1.dr f
 have s:a.bk=d.bk:=a_ a1.bk f
 have m:a.az.abs=d.az.abs:=a_ a1.bz f
 have t:eX a.abs:=by rw[f];exact (va d.abs).wf j
 have G:a.az.bu.l.length=d.az.bu.l.length:=by have:=a_ (λu=>u.g_.length) m;simpa [bQ.abs] using this
 rw[<-b.g];refine bN [0,1,2,3,4,5,6,7,8,9,10,11,12,13,14] 2 [[(15,false,[]),(16,true,[])]] ?_;refine ft ?_;refine cU (m6 · a ·)<|ap ?_;refine (dg) (PT · a.az · b.wf.r t.bz aa a.y a.dr (max 1 h) a.bk.at_.aq a.bk.at_.aR) λv w=>a7 ?_;exact λx i=>mc a v ⟨b.g,b.az,b.st⟩ b.wf w (rV a.az.abs _ _ _ λz H I A k=>zt z A k _ _).al (by rw[tq,aB e,m,p,q,s,f];rfl) rfl i ah
 have e:qE d.abs=false:=bJ e
 refine aA ?_;exact λx i=>aX.cf a (by rw[tq];rw[ai (by rw[e];decide)] at b ⊢;exact b) rfl i
def qF :a1:=if 0<=b/\e<a.rows/\b<e then me { a with top:=b,dr:=e } 0 0 else a
def QM :ds 0 a (qF a b e):=by
 unfold qF;split
 rename_i f;have d:ds 0 a { a with top:=b,dr:=e }:=⟨λc=>⟨c.bz,c.y,c.x,by show 0<=b/\b<=e/\e<a.rows;omega⟩,rfl,rfl,rfl,cC _⟩
 exact d.trans<|xg _ 0 0;exact ds.refl a
def qG(b c:Bool):a1:={ a with bk:={ a.bk with put:=m,wrap:=b,home:=c } }
def QN :a1:={ a with bk:={ a.bk with aQ:=n } }
def vd :ds 0 a { a with bk:=i }:=⟨λb=>⟨b.bz,b.y,b.x,b.top⟩,rfl,rfl,rfl,cC _⟩
def QO(o:bc c (a8 d))(a:eM d)(j:eX d.abs)(b e:Int):
 ay 295 [ptr d.g,ad b,ad e] c (e2 d (.tuple #[]) (qF d.abs b e) c):=by
 obtain⟨u,v,w,z,A⟩:=j.nums;have f:=nR d
 refine bX func295 ntmps295 o ?_;refine bP ?_;refine bl 12 rfl (λk=>?_) λk=>?_;have p:=bg k
 refine aI ?_;refine fh (pz · d d.az rfl · ·)<|a7 ?_;refine bl 18 rfl (λl=>?_) λl=>?_;have q:=bg l
 refine (aE) (λs=>fa ?_) λs=>aA ?_;refine (dg) (xh · { d with top:=b,dr:=e } · ⟨a.r,a.st,a.n⟩ ⟨j.bz,j.y,j.x,by show 0<=b/\b<=e/\e<d.abs.rows;rw[a1.rows,f];omega⟩ 0 0) λt h=>?_;refine aA ?_;exact bT t ⟨h.g,h.az,h.st,h.wf,by rw[qF,aB<|by rw[a1.rows,f];omega];exact h.abs⟩;exact λm i=>gk d ⟨rfl,rfl,rfl⟩ a (by rw[qF,ai<|by rw[a1.rows,f];omega]) rfl i ah
 have q:=bm l
 refine a6 ?_;exact λm i=>gk d ⟨rfl,rfl,rfl⟩ a (by rw[qF,ai<|by rw[a1.rows,f];omega]) rfl i ah
 have p:=bm k
 refine dO ?_;exact λm i=>gk d ⟨rfl,rfl,rfl⟩ a (by rw[qF,ai<|by rw[a1.rows,f];omega]) rfl i ah
def QP(h:bc c (a8 d))(a:eM d)(b e f:Bool):
 ay 366 [ptr d.g,.agg [.bool b,.bool e,.bool f].toArray] c (e2 d (.tuple #[]) (qG d.abs b e f) c):=by
 refine bX func366 ntmps366 h ?_;refine ap ?_;intro j k l;refine gQ ?_;exact λm i=>gk { d with bk:={ d.bk with put:=b,wrap:=e,home:=f } } ⟨rfl,rfl,rfl⟩ ⟨a.r,a.st,a.n⟩ rfl rfl i ah
def CI :a1:={ a with hb:=a.bk,ma:=a.y,mb:=gb a,has:=true }
def QQ :ds 0 a (CI a):=⟨λb=>⟨b.bz,b.y,b.x,b.top⟩,rfl,rfl,rfl,cC _⟩
def jL :Int:=fU (b+fU e (-1000) 1000) j k
def ve :a1:=
 let c:=if a.top<=a.y then a.top else 0
 let d:=if a.y<=a.dr then a.dr else a.rows - 1
 { a with y:=jL a.y b (min c a.y)<|max d a.y,x:=jL (gb a) e 0 (a.al - 1) }
def QR :ds 0 a (ve a b e):=by
 refine zG a λc=>?_;have i:=c.top;have j:=c.bz.al;have k:=c.bz.rows;have l:=c.y
 have g:0<=min (if a.top<=a.y then a.top else 0) a.y/\min (if a.top<=a.y then a.top else 0) a.y<=a.y:=by split <;> omega
 have h:a.y<=max (if a.y<=a.dr then a.dr else a.rows - 1) a.y/\max (if a.y<=a.dr then a.dr else a.rows - 1) a.y<a.rows:=by split <;> omega
 have d:=nT (n:=a.y+fU b (-1000) 1000) (lo:=min (if a.top<=a.y then a.top else 0) a.y) (hi:=max (if a.y<=a.dr then a.dr else a.rows - 1) a.y) aa
 have f:=nT (n:=gb a+fU e (-1000) 1000) (lo:=0) (hi:=a.al - 1) (by simp only[a1.al];omega)
 refine⟨⟨Int.le_trans g.1 d.1,Int.lt_of_le_of_lt d.2 h.2⟩,f.1,?_⟩;exact Int.le_trans f.2 aa
abbrev r0(y:Int):bA:={ d with y:=y }
def QS(e:bc c (a8 d))(a:eM d)(b:gE):
 ay 181 [ptr d.g,.agg b.enc.toArray] c (e2 d (.tuple #[]) (QN d.abs b) c):=by
 refine bX func181 ntmps181 e ?_;refine ap ?_;intro h i j;refine gQ ?_;exact λk f=>gk { d with bk:={ d.bk with aQ:=b } } ⟨rfl,rfl,rfl⟩ ⟨a.r,a.st,a.n⟩ rfl rfl f ah
def H8(a b:Int):dJ (ga d) (0+20) [ad i.at_.cM,ad i.at_.fn,ad i.at_.aq,ad i.at_.aR,ad i.at_.bB,ad i.aQ.gj,ad i.aQ.s1,ad i.aQ.s2,ad i.aQ.lf,ad i.aQ.use,ad i.aQ.lG,.bool i.put,.bool i.wrap,.bool i.home,ad a,ad b]=ga { d with hb:=i,ma:=a,mb:=b }:=by
 simp only[dJ,ga,ev,Nat.reduceAdd,sG,nC]
def QT :dJ (ga d) (0+0) [ad i.at_.cM,ad i.at_.fn,ad i.at_.aq,ad i.at_.aR,ad i.at_.bB,ad i.aQ.gj,ad i.aQ.s1,ad i.aQ.s2,ad i.aQ.lf,ad i.aQ.use,ad i.aQ.lG,.bool i.put,.bool i.wrap,.bool i.home]=ga { d with bk:=i }:=by
 simp only[dJ,ga,ev,Nat.reduceAdd,sG,nC]
def r1(d: -100000<=b/\b<=100000):ay 367 [ad b,ad e,ad j,ad k] c (Pure (ad<|jL b e j k) c):=by
 have f:=nT (n:=e) (lo:= -1000) (hi:=1000) aa
 refine ba func367 ntmps367 ?_;refine a6 ?_;refine bF (py · _ _ _) ?_;refine ap ?_;refine bF (py · _ _ _) ?_;refine aI ?_;exact λg a=>⟨rfl,a.ext⟩
def QU(p:bc c (a8 d))(e:eM d)(q:eX d.abs)(b i:Int):
 ay 283 [ptr d.g,ad b,ad i] c (e2 d (.tuple #[]) (ve d.abs b i) c):=by
 obtain⟨u,j,v,w,z⟩:=q.nums;have k:=nR d
 refine bX func283 ntmps283 p ?_;refine cn ?_;refine fh (pz · d d.az rfl · ·)<|aU ?_;refine bN [0,1,2,3,4,5,6,7,8] 0 [[]] ?_;refine (aE) (λt=>be ?_) λt=>a7 ?_;refine bN [0,1,2,3,4,5,6,7,8] 0 [[]] ?_;refine (aE) (λm=>cZ ?_) λm=>aY ?_;refine bN [0,1,2,3,4,5,6,7,8,9,10,11,12,13,14,15,16,17,18] 2 [[(19,false,[20,21]),(22,true,[])]] ?_;refine lb ?_;refine ix (first:=[]) (cap:=[]) rfl rfl cL rfl (λa f=>r1 a d.y _ _ _ aa) ?_;refine cZ ?_;refine fh (kQ · (r0 d<|jL d.y b (min d.top d.y)<|max d.dr d.y) · · j)<|aA ?_;refine fh (lH · (r0 d<|jL d.y b (min d.top d.y)<|max d.dr d.y) d.az rfl · ·)<|av ?_;refine ix (first:=[]) (cap:=[]) rfl rfl cL rfl (λa f=>r1 a (min d.x<|d.az.al - 1) _ _ _ aa) ?_;refine aI ?_;exact λo h=>gk { d with y:=jL d.y b (min d.top d.y)<|max d.dr d.y,x:=jL (min d.x<|d.az.al - 1) i 0 (d.az.al - 1) } ⟨rfl,rfl,rfl⟩ ⟨e.r,e.st,e.n⟩ (by rw[ve,a1.rows,k,aB bR,aB bR];rfl) rfl h ah
 refine bN [0,1,2,3,4,5,6,7,8,9,10,11,12,13,14,15,16,17,18] 2 [[(19,false,[20,21]),(22,true,[])]] ?_;refine lb ?_;refine ix (first:=[]) (cap:=[]) rfl rfl cL rfl (λa f=>r1 a d.y _ _ _ aa) ?_;refine cZ ?_;refine fh (kQ · (r0 d<|jL d.y b (min d.top d.y)<|max ((d.az.s.l.length:Int) - 1) d.y) · · j)<|aA ?_;refine fh (lH · (r0 d<|jL d.y b (min d.top d.y)<|max ((d.az.s.l.length:Int) - 1) d.y) d.az rfl · ·)<|av ?_;refine ix (first:=[]) (cap:=[]) rfl rfl cL rfl (λa f=>r1 a (min d.x<|d.az.al - 1) _ _ _ aa) ?_;refine aI ?_;exact λo h=>gk { d with y:=jL d.y b (min d.top d.y)<|max ((d.az.s.l.length:Int) - 1) d.y,x:=jL (min d.x<|d.az.al - 1) i 0 (d.az.al - 1) } ⟨rfl,rfl,rfl⟩ ⟨e.r,e.st,e.n⟩ (by rw[ve,a1.rows,k,aB bR,ai bR];rfl) rfl h ah
 refine bN [0,1,2,3,4,5,6,7,8] 0 [[]] ?_;refine (aE) (λm=>cZ ?_) λm=>aY ?_;refine bN [0,1,2,3,4,5,6,7,8,9,10,11,12,13,14,15,16,17,18] 2 [[(19,false,[20,21]),(22,true,[])]] ?_;refine lb ?_;refine ix (first:=[]) (cap:=[]) rfl rfl cL rfl (λa f=>r1 a d.y _ _ _ aa) ?_;refine cZ ?_;refine fh (kQ · (r0 d<|jL d.y b (min 0 d.y)<|max d.dr d.y) · · j)<|aA ?_;refine fh (lH · (r0 d<|jL d.y b (min 0 d.y)<|max d.dr d.y) d.az rfl · ·)<|av ?_;refine ix (first:=[]) (cap:=[]) rfl rfl cL rfl (λa f=>r1 a (min d.x<|d.az.al - 1) _ _ _ aa) ?_;refine aI ?_;exact λo h=>gk { d with y:=jL d.y b (min 0 d.y)<|max d.dr d.y,x:=jL (min d.x<|d.az.al - 1) i 0 (d.az.al - 1) } ⟨rfl,rfl,rfl⟩ ⟨e.r,e.st,e.n⟩ (by rw[ve,a1.rows,k,ai bR,aB bR];rfl) rfl h ah
 refine bN [0,1,2,3,4,5,6,7,8,9,10,11,12,13,14,15,16,17,18] 2 [[(19,false,[20,21]),(22,true,[])]] ?_;refine lb ?_;refine ix (first:=[]) (cap:=[]) rfl rfl cL rfl (λa f=>r1 a d.y _ _ _ aa) ?_;refine cZ ?_;refine fh (kQ · (r0 d<|jL d.y b (min 0 d.y)<|max ((d.az.s.l.length:Int) - 1) d.y) · · j)<|aA ?_;refine fh (lH · (r0 d<|jL d.y b (min 0 d.y)<|max ((d.az.s.l.length:Int) - 1) d.y) d.az rfl · ·)<|av ?_;refine ix (first:=[]) (cap:=[]) rfl rfl cL rfl (λa f=>r1 a (min d.x<|d.az.al - 1) _ _ _ aa) ?_;refine aI ?_;exact λo h=>gk { d with y:=jL d.y b (min 0 d.y)<|max ((d.az.s.l.length:Int) - 1) d.y,x:=jL (min d.x<|d.az.al - 1) i 0 (d.az.al - 1) } ⟨rfl,rfl,rfl⟩ ⟨e.r,e.st,e.n⟩ (by rw[ve,a1.rows,k,ai bR,ai bR];rfl) rfl h ah
def H9 :a1:=hi a (eraseP · b 0 a.al (aq a) (aR a))
def vf(a:a1)(b:Int):Nat->a1
 | 0=>a
 | n+1=>H9 (vf a b n)<|b+n
def vg :a1:=vf a b (e - b).toNat
def vh(a:a1)(b:Int): ∀n,ds 0 a (vf a b n)
 | 0=>ds.refl a
 | n+1=>(vh a b n).trans<|jn _<|qA _ _ _ _ _ _
def jl.refl{s:bA}(a:eM s):jl s s.abs s:=⟨rfl,rfl,rfl,a,rfl⟩
def zM(l:bc c (a8 d))(m:eM d)(n:eX d.abs)(b e:Int)(x:0<=b/\b<=100000)(y:0<=e/\e<=100000):
 ay 364 [ptr d.g,ad b,ad e] c (e2 d (.tuple #[]) (vg d.abs b e) c):=by
 refine bX func364 ntmps364 l ?_;refine aU ?_;refine cd (ι:=Nat × bA) (λa=>[(0,ptr d.g),(2,ad e),(6,ad<|b+(a.1 :Int))]) (λa=>ag c (aK<|a8 d)<|a8 a.2) (λa=>a.1<=(e - b).toNat/\jl d (vf d.abs b a.1) a.2) (λa=>(e - b).toNat - a.1) ?_ ?_;exact λz o=>⟨(0,d),⟨b4 _,jl.refl m⟩,by simp only[Int.natCast_zero,Int.add_zero];exact (ed rfl rfl rfl),o⟩
 rintro⟨a,f⟩ ⟨p,h⟩;dsimp only at p h ⊢
 obtain⟨j,A⟩:=h.fits (vh d.abs b a) n;obtain⟨B,C,D,E,F⟩:=j.nums;rw[<-h.g];refine (aE) (λq=>a7 ?_) λq=>aI ?_;refine bN [0,1,2,3,4,5,7] 3 [[(6,false,[]),(8,false,[]),(9,true,[])]] ?_;refine a6 ?_;refine fh (lH · f f.az rfl · ·)<|ap ?_;refine cU (m6 · f ·)<|ap ?_;refine (dg) (xc · f.az · h.wf.r j.bz (b+a) 0 f.az.al f.bk.at_.aq f.bk.at_.aR aa) λs k=>be ?_;have i:=zD (s:=d) f ⟨h.g,h.az,h.st⟩ h.wf k (qA f.az.abs _ _ _ _ _).al rfl
 have t:b+(a:Int)+1=b+((a+1 :Nat):Int):=by omega
 rw[t];exact bv (a+1,{ f with az:=s }) ⟨by show a+1<=(e - b).toNat;omega,⟨i.g,i.az,i.st,i.wf,by rw[i.abs,vf,<-h.abs];rfl⟩⟩ (by show (e - b).toNat - (a+1)<(e - b).toNat - a;omega) b5 (λ_ u=>by rw[u_ k.1];exact u.aF ah);intro G v;have w:a=(e - b).toNat:=by omega
 subst w;exact aX.cf f h rfl v
def mf :a1:=
 if b=0 then hi a (eraseP · a.y (gb a) a.al (aq a) (aR a)) else
 if b=1 then hi a (eraseP · a.y 0 (gb a+1) (aq a) (aR a)) else
 if b=2 then vg a a.y (a.y+1) else a
def xj :ds 0 a (mf a b):=by
 unfold mf;split
 exact jn a<|qA _ _ _ _ _ _;split
 exact jn a<|qA _ _ _ _ _ _;split
 exact vh a _ _;exact ds.refl a
def pB :a1:=
 if b=0 then vg (mf a 0) ((mf a 0).y+1) (mf a 0).rows else
 if b=1 then vg (mf a 1) 0 (mf a 1).y else
 if b=2 then vg a 0 a.rows else
 if b=3 then hi a rS else a
def QV :ds 1 a (pB a b):=by
 unfold pB;split
 exact ((xj a 0).trans<|vh _ _ _).mono aa;split
 exact ((xj a 1).trans<|vh _ _ _).mono aa;split
 exact (vh _ _ _).mono aa;split
 exact (jn a<|Hu _).mono aa;exact (ds.refl a).mono aa
def jl.trans{z u:bA}{d c:a1}(b:jl f d z)(a:jl z c u):jl f c u:=⟨a.g.trans b.g,a.az.trans b.az,a.st.trans b.st,a.wf,a.abs⟩
def CJ(m:bc c (a8 d))(a:eM d)(e:eX d.abs)(i:Int):
 ay 276 [ptr d.g,ad i] c (e2 d (.tuple #[]) (mf d.abs i) c):=by
 obtain⟨u,j,v,w,z⟩:=e.nums;refine bX func276 ntmps276 m ?_;refine (aE) (λo=>?_) λo=>?_;refine bN [0,1,2,3,4,5,6,7,8,10,12] 4 [[(9,false,[]),(11,false,[]),(13,false,[]),(14,true,[])]] ?_;refine cn ?_;refine fh (kQ · d · · j)<|ap ?_;refine fh (lH · d d.az rfl · ·)<|ap ?_;refine cU (m6 · d ·)<|cv (λ_=>True) (λ_ k=> .inr ⟨.inr ⟨.inr k,dC⟩,dC⟩) (λ_ k=>bh) ?_;refine aA ?_;refine (dg) (xc · d.az · a.r e.bz d.y (min d.x<|d.az.al - 1) d.az.al d.bk.at_.aq d.bk.at_.aR aa) λf h=>aI ?_;exact λl b=>mc d f ⟨rfl,rfl,rfl⟩ ⟨a.r,a.st,a.n⟩ h (qA d.az.abs _ _ _ _ _).al (by rw[mf,aB aa];rfl) rfl b ah
 refine (aE) (λp=>?_) λp=>?_;refine bN [0,1,2,3,4,5,6,7,8,11] 3 [[(9,false,[10]),(12,false,[]),(13,true,[])]] ?_;refine b6 ?_;refine fh (kQ · d · · j)<|a7 ?_;refine cU (m6 · d ·)<|ap ?_;refine (dg) (xc · d.az · a.r e.bz d.y 0 (min d.x (d.az.al - 1)+1) d.bk.at_.aq d.bk.at_.aR aa) λf h=>aI ?_;exact λl b=>mc d f ⟨rfl,rfl,rfl⟩ ⟨a.r,a.st,a.n⟩ h (qA d.az.abs _ _ _ _ _).al (by rw[mf,ai aa,aB aa];rfl) rfl b ah
 refine (aE) (λq=>?_) λq=>ap ?_;refine bN [0,1,2,3,4,5,6,7,8,9] 1 [[(10,true,[])]] ?_;refine b6 ?_;refine (dg) (zM · d · a e d.y (d.y+1) aa aa) λs t=>aI ?_;exact bT s (by rw[mf,ai aa,ai aa,aB aa];exact t);exact λl b=>gk d ⟨rfl,rfl,rfl⟩ a (by rw[mf,ai aa,ai aa,ai aa]) rfl b ah
def QW(p:bc c (a8 d))(f:eM d)(h:eX d.abs)(H:d.az.bu.l.length<=1510000000000)(o:Int):
 ay 275 [ptr d.g,ad o] c (e2 d (.tuple #[]) (pB d.abs o) c):=by
 obtain⟨I,J,K,L,M⟩:=h.nums;have q:=nR d
 refine bX func275 ntmps275 p ?_;refine (aE) (λt=>ap ?_) λt=>?_;refine dE (CJ · d · f h 0) λb a=>?_;refine aA ?_;obtain⟨i,u⟩:=a.fits (xj d.abs 0) h;obtain⟨v,w,x,z,A⟩:=i.nums;have B:=nR b
 rw[<-a.g];refine bN [0,1,2,3,4,5,6] 2 [[(7,false,[]),(8,true,[])]] ?_;refine a6 ?_;refine fh (pz · b b.az rfl · ·)<|ap ?_;refine (dg) (zM · b · a.wf i (b.y+1) (b.az.s.l.length:Int) aa aa) λj k=>aI ?_;intro m e
 (refine aX.cf j ?_ rfl<|e.aF ah;rw[pB,aB aa,<-a.abs,a1.rows,B];exact a.trans k)
 refine (aE) (λC=>ap ?_) λC=>?_;refine dE (CJ · d · f h 1) λb a=>?_;refine aA ?_;obtain⟨i,u⟩:=a.fits (xj d.abs 1) h;obtain⟨v,w,x,z,A⟩:=i.nums;rw[<-a.g];refine aH ?_;refine (dg) (zM · b · a.wf i 0 b.y aa aa) λj k=>ap ?_;intro m e
 (refine aX.cf j ?_ rfl<|e.aF ah;rw[pB,ai aa,aB aa,<-a.abs];exact a.trans k)
 refine (aE) (λD=>ap ?_) λD=>?_;refine fh (pz · d d.az rfl · ·)<|(dg) (zM · d · f h 0 (d.az.s.l.length:Int) aa aa) λj k=>ap ?_;intro m e
 (refine aX.cf j ?_ rfl<|e.aF ah;rw[pB,ai aa,ai aa,aB aa,a1.rows,q];exact k)
 refine (aE) (λE=>aI ?_) λE=>ap ?_;refine (dg) (PV · d.az · f.r h.bz aa) λF G=>ap ?_;exact λm e=>mc d F ⟨rfl,rfl,rfl⟩ ⟨f.r,f.st,f.n⟩ G (Hu d.az.abs).al (by rw[pB,ai aa,ai aa,ai aa,aB aa];rfl) rfl e ah
 exact λm e=>gk d ⟨rfl,rfl,rfl⟩ f (by rw[pB,ai aa,ai aa,ai aa,ai aa]) rfl e ah
