/- part 32 of the proof -/
import Derived.Test.YtnfmgboendlmaaaGreatDoorQ31
set_option linter.all false
namespace Go.Proofs.YtnfmgboendlmaaaGreatDoor.Mq
open RowKit Tryz
variable {P:Program}{n d:Nat}{ops:Array Oper}{Q:cN}{rest:List Oper}{l:Fr}{ty:TypeId}{pos:String}{bf:Array Edge}{b:World}{S:List Nat}{cs:List Chunk}
variable [Inhabited vP]{F:Code}{J u:Int}{Z:List Chunk}{V:List UInt8}{a:List Value}{X:List bq}{C f o t v:Nat}{E k:Operand}{h:Option Addr}{q:Type}{W:a1}{L:bA}{U:cA}{T:ck}{Y:dH}(e:World)(r:Nat)(j:Int)(i:bG)(m:fb)(I:Nat)(M:cA)(D:bG)(y:Int)(x:Option Addr)(N:a1)(B:Int)(K:Nat)(O:List bq)(R:dH)(G:Int)
abbrev nk :ck:=⟨r,0,iV,iV,iV,0,false,false,j,0,⟨0,0,0,0,0⟩⟩
def La(a:1<=u/\u<=65536):gK (nk f u):=⟨by simp,by simp,by simp;omega,a,⟨by simp,by simp⟩,by simp⟩
def Wy(i:1<=j/\j<=65536):ay 45 [ad j] e
 (aX (λa:Nat=> .tuple #[gT a,z0]) [] (λa=>eB<|nk a j) (λ_=>True) e):=by
 refine ba func45 ntmps45 ?_;refine b6 ?_;refine bl 6 rfl (λb=>?_) λb=>?_;have f:=bg b
 refine dO ?_;intro d c
 (exfalso;omega)
 have f:=bm b
 refine (aE) (λg=>a6 ?_) λg=>aU ?_;intro d c
 (exfalso;omega)
 intro h k l;refine aH ?_;exact λd c=>aX.cf h bh rfl<|c.Dw ah
def o4 :cA:=⟨hs j y B,hs j y 0,false,eh.pO,[],[],[]⟩
def Wz :dd (hs j y B):=⟨⟨λb a=>by rw[k6 a];intro d c;rw[k6 c];exact zZ CT,λb a=>by simp[hs,pI] at a⟩,mh,mh⟩
def Lb{s:bA}{al lines:Int}(d:1<=u/\u<=30)(e:2<=al/\al<=40)(f:0<=lines/\lines<=100)(a:eM s/\s.abs=hs u al lines):eP s:=by
 refine⟨a.1,by rw[a.2];exact TO ⟨d.1,aa⟩ ⟨e.1,aa⟩ ⟨f.1,aa⟩,⟨?_,?_,?_⟩,by rw[a.2];exact Wz u al lines⟩;have c: (b2 s.az.s.l).length=_:=a_ (λb=>b.bz.cY.length) a.2
 rw[b2,c8] at c
 rw[c];simp only[hs,pI,hy];omega
 have c:s.az.al=al:=a_ (λb=>b.bz.al) a.2
 omega
 have c:s.az.r.room=lines:=a_ (λb=>b.bz.room) a.2
 omega
def Lc{a:Int}(b:L.abs=hs u J a):L.az.bu.l=[]:=a_ (λc=>c.bz.g_) b
set_option maxHeartbeats 1000000 in
def Ld(b:1<=j/\j<=30)(c:2<=y/\y<=40)(m:0<=B/\B<=100)(p:1<=G/\G<=65536):ay 12 [ad j,ad y,ad B,ad G] e
 (aX (λa:Nat × Nat × bM=> .tuple #[ptr a.1,z0]) [] (λa=>[aZ (eB<|nk a.2.1 G),eu a.1 a.2.1 a.2.2,aZ<|a8 a.2.2.am,aZ<|a8 a.2.2.br,a.2.2.buf.aD,a.2.2.aQ.aD]) (λa=>cK a.1 B 0 a.2.2/\a.2.2.abs=o4 j y B) e):=by
 refine ba func12 ntmps12 ?_;refine bP ?_;refine kH (JA · j y B ⟨b.1,aa⟩ ⟨c.1,aa⟩ ⟨m.1,aa⟩) λg d=>?_;refine be ?_;refine kH (Wy · G p) λn _=>?_;refine cn ?_;refine bl 30 rfl (λh=>?_) λh=>?_;have q:=bg h
 refine dO ?_;intro o i
 (exfalso;omega)
 have q:=bm h
 refine aU ?_;refine (cj) (λs=>a6 ?_) λs=>aH ?_;intro o i
 (exfalso;omega)
 refine bK (l0:=[]) aP.nil (hargs:=rfl) (λt _=>JA t j y 0 ⟨b.1,aa⟩ ⟨c.1,aa⟩ ⟨aW,aW⟩) λk f=>?_;refine cn ?_;refine bF (eh.u7 ·)<|aA ?_;intro u v w;refine aH ?_;exact λo i=>aX.cf (u,n,⟨g,k,false,eh.pO,[],none,⟨none,0,[]⟩,⟨none,0,[]⟩⟩) ⟨⟨Lb b c m d,Lb b c ⟨aW,aW⟩ f,⟨(a_ (λl=>l.bz.room) d.2 :g.az.r.room=B),(a_ (λl=>l.bz.room) f.2 :k.az.r.room=0)⟩,.inl rfl,by simp,by rw[Lc d.2,Lc f.2];simp,by simp,by simp,show eh.pO<4294967296 by decide⟩,by simp only[bM.abs,d.2,f.2];rfl⟩ rfl<|((((i.close (l:=a8 k) ah).close (l:=eB<|nk n G) ah).close (l:=a8 g) ah).e4 5 cI).e4 234 ne |>.aF ah
def WA :jo (hs j y B):=⟨rfl,rfl,rfl⟩
def WB :Sem j (o4 y B G) (hs y B G) (List.replicate y.toNat<|rO B 0 0) ⟨0,0,0,0,0⟩ 0 0 []:=⟨0,ni.nil _ _⟩
def WC(a b c:Int):Sem j { M with am:=gt N O R a b c } N O R a b []:=⟨c,ni.nil _ _⟩
def WD{a:ck}{e:cA}(g:vW T U V a e)(b:T.h=eA/\T.state=0/\T.dec.eH=0/\T.dec.fN=0)(d:Sem T.most U W X Y u J V):
 (∃c,e= { U with am:=gt W X Y u J c })/\a.h=eA/\a.state=0/\a.dec.eH=0/\a.dec.fN=0:=by
 obtain⟨c,d⟩:=d;obtain⟨i,j,k,l⟩:=d T.dec b.2.2.1 b.2.2.2;obtain⟨m,n,f,o⟩:=g (eA,0,i,{ U with am:=gt W X Y u J c }) (by rw[b.1,b.2.1];exact l);exact⟨⟨c,o⟩,m,n,by rw[f];exact j,by rw[f];exact k⟩
def Le{a:dH}(b:hc a):bj.W a=a:=by
 obtain⟨c,d,aq,aR,e⟩:=a;unfold hc bj.ez at b
 simp only[dK,eQ] at b
 have f:=b.2.2
 unfold bj.W;dsimp only;rw[wrap64 aa aa]
abbrev eI :Prop:=0<=j/\j<=1099511627776
abbrev dS :Prop:=eI i.row/\eI i.dL
abbrev eY :Prop:=(m.kind=0\/m.kind=1\/m.kind=2)/\eI m.at_/\eI m.n/\0<m.n
def jv :Int:=if m.kind=2 then 0 else m.at_
def nl :bG:=
 if ¬dS i\/ ¬eY m\/i.row<jv m then i else
 if m.kind=0 then ⟨i.row+m.n,i.dL⟩ else
 if i.row<jv m+m.n then ⟨jv m,0⟩ else ⟨i.row - m.n,i.dL⟩
def sj :Bool:=decide<|dS i/\eY m/\m.kind≠0/\jv m<=i.row/\i.row<jv m+m.n
def jR :bG:=if jh i D=true then D else i
abbrev fc :Value:= .agg i.enc.toArray
abbrev tS :Value:= .agg m.enc.toArray
def sk :ay 304 [ad j] e (Pure (.bool<|decide<|eI j) e):=by
 refine ba func304 ntmps304 ?_;refine be ?_;refine bl 5 rfl (λa=>?_) λa=>?_;have c:=bg a
 refine be ?_;exact λd b=>⟨by rw[Ending.returned.injEq,Value.bool.injEq];symm;(rw[iK];omega),b.ext⟩
 have c:=bm a
 refine aY ?_;exact λd b=>⟨by rw[Ending.returned.injEq,Value.bool.injEq];symm;(rw[fZ];omega),b.ext⟩
def Lf :ay 306 [fc i] e (Pure (.bool<|decide<|dS i) e):=by
 refine ba func306 ntmps306 ?_;refine ap ?_;intro f g h;refine aU ?_;refine bF (sk · _) ?_;refine av ?_;refine bl 6 rfl (λa=>?_) λa=>?_;have c:=bg a
 refine aI ?_;refine bF (sk · _) ?_;refine aH ?_;exact λd b=>⟨by rw[Ending.returned.injEq,Value.bool.injEq];symm;simp only[eI,dS,eY] at *;(rw[iK];omega),b.ext⟩
 have c:=bm a
 refine a6 ?_;exact λd b=>⟨by rw[Ending.returned.injEq,Value.bool.injEq];symm;simp only[eI,dS,eY] at *;(rw[fZ];omega),b.ext⟩
def AZ :ay 206 [tS m] e (Pure (.bool<|decide<|eY m) e):=by
 refine ba func206 ntmps206 ?_;refine ap ?_;intro o p q;refine a6 ?_;refine bl 6 rfl (λh=>?_) λh=>?_;have l:=bg h
 refine dO ?_;refine bF (sk · _) ?_;refine aA ?_;refine bl 21 rfl (λd=>?_) λd=>?_;have i:=bg d
 refine aI ?_;refine bF (sk · _) ?_;refine aA ?_;refine bl 26 rfl (λb=>?_) λb=>?_;have g:=bg b
 refine b6 ?_;exact λc a=>⟨by rw[Ending.returned.injEq,Value.bool.injEq];symm;simp only[eI,dS,eY] at *;(rw[iK];omega),a.ext⟩
 have g:=bm b
 refine a6 ?_;exact λc a=>⟨by rw[Ending.returned.injEq,Value.bool.injEq];symm;simp only[eI,dS,eY] at *;(rw[fZ];omega),a.ext⟩
 have i:=bm d
 refine cZ ?_;exact λc a=>⟨by rw[Ending.returned.injEq,Value.bool.injEq];symm;simp only[eI,dS,eY] at *;(rw[fZ];omega),a.ext⟩
 have l:=bm h
 refine aY ?_;refine bl 11 rfl (λd=>?_) λd=>?_;have i:=bg d
 refine be ?_;refine bF (sk · _) ?_;refine aA ?_;refine bl 21 rfl (λb=>?_) λb=>?_;have g:=bg b
 refine aI ?_;refine bF (sk · _) ?_;refine aA ?_;refine bl 26 rfl (λf=>?_) λf=>?_;have j:=bg f
 refine b6 ?_;exact λc a=>⟨by rw[Ending.returned.injEq,Value.bool.injEq];symm;simp only[eI,dS,eY] at *;(rw[iK];omega),a.ext⟩
 have j:=bm f
 refine a6 ?_;exact λc a=>⟨by rw[Ending.returned.injEq,Value.bool.injEq];symm;simp only[eI,dS,eY] at *;(rw[fZ];omega),a.ext⟩
 have g:=bm b
 refine cZ ?_;exact λc a=>⟨by rw[Ending.returned.injEq,Value.bool.injEq];symm;simp only[eI,dS,eY] at *;(rw[fZ];omega),a.ext⟩
 have i:=bm d
 refine aY ?_;refine bl 16 rfl (λb=>?_) λb=>?_;have g:=bg b
 refine aI ?_;refine bF (sk · _) ?_;refine aA ?_;refine bl 21 rfl (λf=>?_) λf=>?_;have j:=bg f
 refine aI ?_;refine bF (sk · _) ?_;refine aA ?_;refine bl 26 rfl (λk=>?_) λk=>?_;have n:=bg k
 refine b6 ?_;exact λc a=>⟨by rw[Ending.returned.injEq,Value.bool.injEq];symm;simp only[eI,dS,eY] at *;(rw[iK];omega),a.ext⟩
 have n:=bm k
 refine a6 ?_;exact λc a=>⟨by rw[Ending.returned.injEq,Value.bool.injEq];symm;simp only[eI,dS,eY] at *;(rw[fZ];omega),a.ext⟩
 have j:=bm f
 refine cZ ?_;exact λc a=>⟨by rw[Ending.returned.injEq,Value.bool.injEq];symm;simp only[eI,dS,eY] at *;(rw[fZ];omega),a.ext⟩
 have g:=bm b
 refine fT ?_;exact λc a=>⟨by rw[Ending.returned.injEq,Value.bool.injEq];symm;simp only[eI,dS,eY] at *;(rw[fZ];omega),a.ext⟩
def Lg :ay 305 [tS m] e (Pure (ad<|jv m) e):=by
 refine ba func305 ntmps305 ?_;refine ap ?_;intro d f g;refine (aE) (λb=>aY ?_) λb=>bP ?_;exact λc a=>⟨by rw[jv,aB bR],a.ext⟩
 exact λc a=>⟨by rw[jv,ai bR],a.ext⟩
def Eu(s:fb):ay 209 [fc i,tS s] e (Pure (.bool<|sj i s) e):=by
 have l:eY s->0<=jv s/\jv s<=1099511627776:=λb=>by unfold jv;split <;> simp only[eY,eI] at b <;> omega
 obtain⟨j,k⟩ : ∃j,j=jv s:=⟨_,rfl⟩;unfold sj;rw[<-k] at l ⊢
 refine ba func209 ntmps209 ?_;refine ap ?_;intro r t u;refine av ?_;intro v w x;refine aH ?_;refine bd (λm y=>(by have b:=Lg m s;rw[<-k] at b;exact b)) ?_;refine aH ?_;refine bF (Lf · i)<|av ?_;refine bl 10 rfl (λd=>?_) λd=>?_;have n:=bg d
 refine ap ?_;refine bF (AZ · s)<|aA ?_;refine bl 14 rfl (λf=>?_) λf=>?_;have o:=bg f
 refine aY ?_;refine bl 19 rfl (λg=>?_) λg=>?_;have p:=bg g
 refine be ?_;refine bl 25 rfl (λh=>?_) λh=>?_;have q:=bg h
 refine gR ?_;exact λc a=>⟨by rw[Ending.returned.injEq,Value.bool.injEq];symm;simp only[eI,dS,eY] at *;(rw[iK];omega),a.ext⟩
 have q:=bm h
 refine cn ?_;exact λc a=>⟨by rw[Ending.returned.injEq,Value.bool.injEq];symm;simp only[eI,dS,eY] at *;(rw[fZ];omega),a.ext⟩
 have p:=bm g
 refine fT ?_;exact λc a=>⟨by rw[Ending.returned.injEq,Value.bool.injEq];symm;simp only[eI,dS,eY] at *;(rw[fZ];omega),a.ext⟩
 have o:=bm f
 refine lB ?_;exact λc a=>⟨by rw[Ending.returned.injEq,Value.bool.injEq];symm;simp only[eI,dS,eY] at *;(rw[fZ];omega),a.ext⟩
 have n:=bm d
 refine y8 ?_;exact λc a=>⟨by rw[Ending.returned.injEq,Value.bool.injEq];symm;simp only[eI,dS,eY] at *;(rw[fZ];omega),a.ext⟩
def sl :Int:=if i=D then 0 else if jh i D=true then -1 else 1
def WE(b:bG):decide (sl i b<0)=jh i b:=by
 unfold sl;by_cases c:i=b
 rw[aB c];subst c;unfold jh;simp
 rw[ai c];by_cases a:jh i b=true
 rw[aB a,a];rfl
 rw[ai a];rw[Bool.not_eq_true] at a
 rw[a];rfl
def WF(b:bG):
 ay 219 [.agg i.enc.toArray,.agg b.enc.toArray] e (λk l=>k= .returned (ad<|sl i b)/\Ext [] e l):=by
 refine ba func219 ntmps219 ?_;refine ap ?_;intro n o p;refine av ?_;intro q r s;refine a6 ?_;refine rC F_ rfl rfl rfl ak (B2 i b) ?_;refine (aE) (λg=>?_) λg=>?_;have c:i=b:=g
 refine a6 ?_;exact λd a=>⟨by unfold sl;rw[aB c],a.ext⟩
 have c:i≠b:=g
 refine aY ?_;refine bl 15 rfl (λf=>oI ?_) λf=>b6 ?_;exact λd a=>⟨by unfold sl jh;rw[ai c,aB<|bI<|Or.inl<|bg f],a.ext⟩
 refine bl 21 rfl (λh=>?_) λh=>nI ?_;refine (aE) (λj=>a6 ?_) λj=>be ?_;exact λd a=>⟨by unfold sl jh;rw[ai c,aB<|bI<|Or.inr ⟨bg h,j⟩],a.ext⟩
 intro d a;have m:=bm f
 exact⟨by unfold sl jh;rw[ai c,ai<|by simp;omega],a.ext⟩;intro d a;have m:=bm f
 have t:=bm h
 exact⟨by unfold sl jh;rw[ai c,ai<|by simp;omega],a.ext⟩
def x1 :
 ay 145 [.agg i.enc.toArray,.agg D.enc.toArray] e (λa b=>a= .returned (.bool<|jh i D)/\Ext [] e b):=by
 refine ba func145 ntmps145 ?_;refine ap ?_;intro d f g;refine av ?_;intro h j k;refine aU ?_;refine bF (WF · i D)<|aH ?_;exact λl c=>⟨by rw[WE],c.ext⟩
def Lh :ay 137 [fc i,fc D] e (Pure (fc<|jR i D) e):=by
 refine ba func137 ntmps137 ?_;refine ap ?_;intro f g h;refine av ?_;intro j k l;refine av ?_;intro m n o;refine aU ?_;refine bF (x1 · i D) ?_;refine (aE) (λb=>a6 ?_) λb=>be ?_;exact λc a=>⟨by rw[jR,aB<|show jh i D=true from bI bR];rfl,a.ext⟩
 exact λc a=>⟨by rw[jR,ai<|show ¬jh i D=true from λd=>absurd (bg d) bR];rfl,a.ext⟩
def Ev(s:fb):ay 208 [fc i,tS s] e (Pure (fc<|nl i s) e):=by
 have h:eY s->0<=jv s/\jv s<=1099511627776:=λb=>by unfold jv;split <;> simp only[eY,eI] at b <;> omega
 obtain⟨j,k⟩ : ∃j,j=jv s:=⟨_,rfl⟩;unfold nl;rw[<-k] at h ⊢
 refine ba func208 ntmps208 ?_;refine ap ?_;intro u o v;refine av ?_;intro w x y;refine av ?_;intro z A B;refine aI ?_;refine bd (λp C=>(by have b:=Lg p s;rw[<-k] at b;exact b)) ?_;refine aY ?_;refine bF (Lf · i)<|aA ?_;refine bl 18 rfl (λl=>y7 ?_) λl=>ap ?_;exact λc a=>⟨by rw[aB (by simp only[cq,dS,eY,eI] at *;omega)];rfl,a.ext⟩
 refine bF (AZ · s)<|a7 ?_;refine bl 23 rfl (λm=>gR ?_) λm=>?_;exact λc a=>⟨by rw[aB (by simp only[cq,dS,eY,eI] at *;omega)];rfl,a.ext⟩
 refine (aE) (λd=>?_) λd=>?_;have q:=d
 refine bP ?_;exact λc a=>⟨by rw[aB (by simp only[cq,dS,eY,eI] at *;omega)];rfl,a.ext⟩
 have q:=d
 have n:dS i/\eY s:=⟨Decidable.byContradiction λb=>by simp[b] at l,Decidable.byContradiction λb=>by simp[b] at m⟩
 have o:=h n.2
 simp only[dS,eY,eI] at n
 refine (aE) (λf=>?_) λf=>?_;have r:=f
 refine fT ?_;exact λc a=>⟨by rw[ai (by simp only[cq,dS,eY,eI] at *;omega),aB<|by simp only[cq,dS,eY,eI] at *;omega];rfl,a.ext⟩
 have r:=f
 refine (aE) (λg=>?_) λg=>?_;have t:=g
 refine dO ?_;exact λc a=>⟨by rw[ai (by simp only[cq,dS,eY,eI] at *;omega),ai<|by simp only[cq,dS,eY,eI] at *;omega,aB<|by simp only[cq,dS,eY,eI] at *;omega];rfl,a.ext⟩
 have t:=g
 refine fT ?_;exact λc a=>⟨by rw[ai (by simp only[cq,dS,eY,eI] at *;omega),ai<|by simp only[cq,dS,eY,eI] at *;omega,ai<|by simp only[cq,dS,eY,eI] at *;omega];rfl,a.ext⟩
structure e7 where
 A:Option Addr
 c:Nat
 l:List bG
abbrev e7.val(a:e7):Value:= .slice a.A a.l.length a.c
abbrev e7.aD(a:e7):Chunk:=Mq.aD 44 c1 a.A a.c a.l
structure iY where
 g:Nat
 p:e7
 most:Int
abbrev Ew(a:iY):List Value:=[a.p.val,ad a.most]
abbrev iY.aq(a:iY):Chunk:=aG a.g (Ew a) 226
abbrev gM(a:iY):List Chunk:=[a.aq,a.p.aD]
structure tT (s:iY):Prop where
 len: (s.p.l.length:Int)<=s.most
 most:1<=s.most/\s.most<=10000
def Li :ay 146 [fc i] e (Pure (.bool<|decide<|dS i) e):=by
 refine ba func146 ntmps146 ?_;refine ap ?_;intro k l m;refine a6 ?_;refine bl 6 rfl (λb=>?_) λb=>?_;have g:=bg b
 refine aY ?_;refine bl 11 rfl (λc=>?_) λc=>?_;have h:=bg c
 refine aY ?_;refine bl 16 rfl (λd=>?_) λd=>?_;have j:=bg d
 refine b6 ?_;exact λf a=>⟨by rw[Ending.returned.injEq,Value.bool.injEq];symm;simp only[eI,dS] at *;(rw[iK];omega),a.ext⟩
 have j:=bm d
 refine a6 ?_;exact λf a=>⟨by rw[Ending.returned.injEq,Value.bool.injEq];symm;simp only[eI,dS] at *;(rw[fZ];omega),a.ext⟩
 have h:=bm c
 refine cZ ?_;exact λf a=>⟨by rw[Ending.returned.injEq,Value.bool.injEq];symm;simp only[eI,dS] at *;(rw[fZ];omega),a.ext⟩
 have g:=bm b
 refine fT ?_;exact λf a=>⟨by rw[Ending.returned.injEq,Value.bool.injEq];symm;simp only[eI,dS] at *;(rw[fZ];omega),a.ext⟩
def WG(i:1<=j/\j<=10000):ay 66 [ad j] e
 (aX (λa:Nat=> .tuple #[ptr a,z0]) [] (λa=>gM ⟨a,⟨none,0,[]⟩,j⟩) (λ_=>True) e):=by
 refine ba func66 ntmps66 ?_;refine b6 ?_;refine bl 6 rfl (λb=>?_) λb=>?_;have f:=bg b
 refine dO ?_;intro d c
 (exfalso;omega)
 have f:=bm b
 refine (aE) (λg=>a6 ?_) λg=>aU ?_;intro d c
 (exfalso;omega)
 intro h k l;refine aH ?_;exact λd c=>aX.cf h bh rfl<|(c.e4 44 c1).aF ah
def Lj(a:iY)(f:bc e (gM a))(c:tT a):ay 77 [ptr a.g] e
 (aX (λb:e7=>b.val) (gM a) (λb=>gM a++[b.aD]) (λb=>b.l=a.p.l) e):=by
 have n:=c.len
 have o:=c.most
 refine bX func77 ntmps77 f ?_;refine lb ?_;refine rv 44 2 ?_;refine qj (E:=c1) (src:=a.p.l) (F:=λ_=>True) (xs:=[]) eR rfl rfl rfl (λ_=>by exact cJ) (λq h=>hF<|h.has cW) (by simp only[maxLen];omega) aa λi r=>?_;refine kA (e:=44) (sz:=2) (v:=i) bw λj k m _ _ _ _=>?_;subst m;refine aI ?_;intro s d;simp only[ev,mA] at d ⊢
 exact eV ⟨j,k,a.p.l⟩ rfl d
structure x2 (s z:iY):Prop where
 g:z.g=s.g
 most:z.most=s.most
 ok:tT z
def Ex(a:iY)(b:Value)(c:World):Ending->World->Prop:=aX (λ_:iY=>b) (gM a) gM (x2 a) c
def WH(a:iY)(o:bc e (gM a))(d:tT a)(k:bG):ay 129 [ptr a.g,fc k] e (Ex a (.tuple #[]) e):=by
 have A:=d.len
 have B:=d.most
 obtain⟨f,h⟩:=k;refine bX func129 ntmps129 o ?_;refine ap ?_;intro m C D;refine bP ?_;refine bF (Li · ⟨f,h⟩)<|aI ?_;refine cD rfl (λj=>?_) λj=>?_;simp only[cq] at j
 refine ap ?_;exact bT a ⟨rfl,rfl,d⟩;simp only[cq] at j
 refine a7 ?_;refine bN [0,1,2,3,4,5,6,7,8,9] 0 [[]] ?_;refine (aE) (λq=>aH ?_) λq=>aA ?_;refine kA (e:=44) (sz:=2) (v:=a.p.val) cW λE F r G _ _ _=>?_;cases r
 refine rv 44 2 ?_;refine gp 1 a.p.l.length eR rfl rfl (.inl ⟨_,_,rfl,rfl,aa⟩) (.inr ⟨rfl,rfl⟩) aa aa ?_;refine qj (E:=c1) (src:=(a.p.l.take a.p.l.length).drop 1) (F:=λ_=>True) (xs:=[]) eR rfl rfl rfl (λ_=>by exact cJ) (λH s=>(hF<|s.has hL).cut aa aa) (by simp only[maxLen];omega) aa λt I=>?_;refine kA (e:=44) (sz:=2) (v:=t) bw λJ K u _ _ _ _=>?_;subst u;obtain⟨i,n⟩ : ∃i,i=(a.p.l.take a.p.l.length).drop 1:=⟨_,rfl⟩;have v:i.length=a.p.l.length - 1:=by rw[n];simp
 rw[<-n,ev,mA,<-v];refine aI ?_;refine fg [0,1,2,3,4,5] 3 [[(6,false,[]),(7,false,[8,9]),(10,true,[])]] (_) mixed ak (λ_ c=>c.drew) (λ_ b=>(show ag _ _ [aG m _ 44,aG a.g _ 226] _ from b.aF ah))<|aY ?_;refine ef (E:=c1) ⟨_,_⟩ eR rfl rfl rfl rfl rfl λw x y=>cv (λ_=>True) (λ_ b=> .inr<|b.aF ah) (λ_ b=>bh)<|aA ?_;refine fu (E:=c1) eR rfl rfl rfl bx (λ_ _=>cJ) cg cg λL M=>cv (λ_=>True) (λ_ b=> .inr ⟨.inr<|b.aF ah,dC⟩) (λ_ b=>bh)<|a6 ?_;intro z c
 (refine aX.cf ⟨a.g,⟨_,_,i++[⟨f,h⟩]⟩,a.most⟩ ?_ rfl<|c.aF ah;exact⟨rfl,rfl,by show (((i++[⟨f,h⟩]:List bG).length:Nat):Int)<=a.most;rw[b3,kt];omega,d.most⟩)
 refine fg [0,1,2,3,4,5] 3 [[(6,false,[]),(7,false,[8,9]),(10,true,[])]] (_) mixed ak (λ_ c=>c.drew) (λ_ b=>(show ag _ _ [aG m _ 44,aG a.g _ 226] _ from b.aF ah))<|aY ?_;refine ef (E:=c1) ⟨_,_⟩ eR rfl rfl rfl rfl rfl λw x y=>cv (λ_=>True) (λ_ b=> .inr<|b.aF ah) (λ_ b=>bh)<|aA ?_;refine fu (E:=c1) eR rfl rfl rfl bx (λ_ _=>l4) cg cg λN O=>cv (λ_=>True) (λ_ b=> .inr ⟨.inr<|b.aF ah,dC⟩) (λ_ b=>bh)<|a6 ?_;intro z c
 (refine aX.cf ⟨a.g,⟨_,_,a.p.l++[⟨f,h⟩]⟩,a.most⟩ ?_ rfl<|c.aF ah;exact⟨rfl,rfl,by show (((a.p.l++[⟨f,h⟩]:List bG).length:Nat):Int)<=a.most;rw[b3,kt];omega,d.most⟩)
def WI(b:iY)(c:World):Ending->World->Prop:=aX (λa:Int × iY=>ad a.1) (gM b) (λa=>gM a.2) (λa=>x2 b a.2) c
section
variable {H:World->Prop}
def WJ{c:Option Addr}{b j m:Nat}(e:dD P f o t v a)(g:b=0)(p:Nat.blt d n=true)(q:bi l k=some (.slice h C j))(r:bi l E=some (.slice c b m))
 (s:aM P n ops Q rest ((d,ad (b:Int))::l) H):aM P n ops Q (⟨some d,.call ⟨.builtin .copy,#[k,E],#[f,f]⟩,ty,pos,bf,none⟩::rest) l H:=by
 subst g;obtain⟨y,z,u,g,A,w,B⟩:=e.inf;refine dB _ p (λD F i=>?_) s;have x:Nat.min 0 C=0:=jZ<|b4 _
 cases h <;> cases c <;> simp[loadCells,loadCellsFrom,storeCells,execOp,resolve,invoke,builtin,i k _ q,i E _ r,Builtin.copy_,run_underlying e.gf,Builtin.lenOf,run_sizeOf u,w,x,goInt,Builtin.firstCells]
end
def WK(a:iY)(w:bc e (gM a))(d:tT a)(f:Option Addr)(n h:Nat)(L:List bG)(i:Rd c1 e (λj=>j∉aK (gM a)) f n h L)(Q:n<=1000000):ay 79 [ptr a.g,.slice f n h] e (WI a e):=by
 have t:=d.len
 have R:=d.most
 have S:=i.len
 refine bX func79 ntmps79 w ?_;refine (aE) (λx=>aY ?_) λx=>bP ?_;exact bT (1,a) ⟨rfl,rfl,d⟩;refine cd (ι:=Nat) (λb=>[(0,ptr a.g),(1,.slice f n h),(19,.slice f n h),(20,ad (n:Int)),(21,ad (b:Int))]) (λ_=>ag e (aK<|gM a)<|gM a) (λb=>b<=n) (λb=>n - b) ?_ ?_;exact λy k=>⟨0,b4 _,(en rfl rfl rfl rfl rfl),k⟩
 intro b T;refine (aE) (λz=>?_) λz=>?_;obtain⟨v,B⟩ : ∃v,L[b]? = some v:=⟨L[b]'aa,bD _⟩;obtain⟨U,C,D,E⟩:=i.at_ B;refine aH ?_;refine bE (q:=b) eR rfl rfl rfl C rfl aa ?_;refine cE (vs:=v.enc) fF rfl rfl rfl (λV t F G H=>t.ch (E F G H)<|by simp only[block_add];exact D) ?_;refine av ?_;intro W X Y;refine aH ?_;refine bF (Li · v)<|ap ?_;refine cD rfl (λm=>?_) λm=>?_;simp only[cq] at m
 refine b6 ?_;exact bT (1,a) ⟨rfl,rfl,d⟩;simp only[cq] at m
 refine aU ?_;exact bv (b+1) aa aa b5 λ_ o=>o.aF ah;have Z:b=n:=by omega
 have I:n=a.p.l.length:=by omega
 rcases hV n with ar | ar
 refine b6 ?_;refine WJ eR ar rfl rfl rfl<|a6 ?_;exact bT (0,a) ⟨rfl,rfl,d⟩;refine b6 ?_;refine kA (e:=44) (sz:=2) (v:=a.p.val) cz λJ Za K Zb _ _ M=>?_;have q:a.p.A=J:=by injection K
 obtain⟨u,r⟩:=M aa;refine F3 (E:=c1) (g:=u) (src:=L) (F:=λj=>j∉aK (gM a)) eR rfl (by rw[<-r,<-q];rfl) rfl (by rw[<-r,<-q];exact fs) (λy k=>i.ext k.ext λ_ o=>o) aa ?_;refine a6 ?_;intro Zc s;have N:c1.all L++(c1.all a.p.l).drop (n*c1.ax)=c1.all L:=by rw[p5 (by rw[c1.eD,I];exact cC _),eZ]
 have O:L.length=a.p.l.length:=by omega
 have P:a.p.A=some ⟨u,0,none⟩:=q.trans r
 rw[N] at s
 refine aX.cf (0,⟨a.g,⟨a.p.A,a.p.c,L⟩,a.most⟩) ⟨rfl,rfl,by show ((L.length:Nat):Int)<=a.most;omega,d.most⟩ rfl ?_;simp only[gM,iY.aq,Ew,e7.val,e7.aD,Mq.aD,O,P] at s ⊢
 exact s.aF ah
def Lk{E:b1 q}{e:Operand}{u:List Value}{g j m c :Nat}{xs:List Value}{a:q}{te:TypeId}(i:dD P f o E.ax t u)(x:Nat.blt d n=true)
 (y:bi l k=some (.slice (some ⟨g,0,none⟩) j c)) (z:bi l e=some (.slice (some ⟨v,0,none⟩) 1 C)) (A:Has cs (aG v (E.enc a) te)) (B:j<m) (T:m<=c)
 (p:bC cs (own o E.ax (.slice (some ⟨g,0,none⟩) m c) m xs) (own o E.ax (.slice (some ⟨g,0,none⟩) m c) m<|dJ xs (j*E.ax)<|E.enc a) Z)
 (D:aM P n ops Q rest ((d,.slice (some ⟨g,0,none⟩) (j+1) c)::l) (ag b S Z)):
 aM P n ops Q (⟨some d,.call ⟨.builtin .append,#[k,e],#[f,f]⟩,ty,pos,bf,none⟩::rest) l (ag b S cs):=by
 obtain⟨U,V,F,W,X,G,Y⟩:=i.inf;refine iv x λZa w r h=>?_
 have H:=h.has p.has
 have I:xs.length=m*E.ax:=H.1
 have s: (j+1)*E.ax<=m*E.ax:=mB _ B
 rw[qc] at s
 obtain⟨J,K,L⟩:=h.ux (P:=P) (xs:=xs) (o:=j*E.ax) (vs:=E.enc a) (by rw[E.len,I];exact s) (E.kz a) p;have M: (Builtin.firstCells E.ax 1<|.slice (some ⟨v,0,none⟩) 1 C).run P w= .ok (E.enc a).toArray w:=by
  have:=run_loadCellsFrom (P:=P) (w:=w) (p:=⟨v,0,none⟩) (E.enc a) 0 #[] (λZb Zc N=>by
   have O:=h.e8 A N
   rw[Addr.add_lit];simpa using O)
  rw[E.len] at this
  simpa [Builtin.firstCells,loadCells] using this
 refine⟨.slice (some ⟨g,0,none⟩) (j+1) c,J,?_,D.at L⟩;have R:j+1<=c:=by omega
 simp[execOp,resolve,invoke,builtin,r k _ y,r e _ z,Builtin.append_,run_underlying i.gf,Builtin.lenOf,run_sizeOf F,G,M,R,Addr.add_lit,K]
def Ey{e sz j:Nat}{w:World}(d:j<=f)(g: (own e sz (.slice h f o) f a).pred w): (own e sz (.slice h j o) j<|a.take<|j*sz).pred w:=by
 obtain⟨i,k⟩:=g;have l:j*sz<=f*sz:=mB _ d
 refine⟨by rw[dR,i];omega,?_⟩;rcases k with ⟨m,z⟩ | ⟨n,p,q,r,s,t,A,u,v,x⟩
 left
 injection m with b y c
 have:j=0:=by omega
 subst this;exact⟨by rw[b,c],rfl⟩;right
 injection r with b y c
 refine⟨n,p,q,by rw[b,c],s,t,aa,u,v,?_⟩;rw[<-x,List.take_take,jZ l]
def ip(e:TypeId)(ax:Nat)(A:Option Addr)(m c:Nat)(d:List Value):Chunk where
 cT:=(Value.slice A m c).ownBlock.toList
 pred w:=d.length=m*ax/\((A=none/\m=0/\c=0)\/ ∃g af am,A=some ⟨g,af,none⟩/\w.heap[g]? = some (.cells am e (0,0))/\m<=c/\c<=maxLen/\am.size=af+c*ax/\(am.toList.drop af).take (m*ax)=d)
 low w h k a:=by
  rcases h.2 with ⟨rfl,_⟩ | ⟨g,af,am,rfl,b,_⟩
  simp[Value.ownBlock] at a
  simp[Value.ownBlock] at a;subst a;exact (lr.1 b).1
 loc w f h ao:=by
  refine⟨ao.1,?_⟩
  rcases ao.2 with aC | ⟨g,af,am,rfl,b,rest⟩
  exact .inl aC
  exact .inr ⟨g,af,am,rfl,by rw[h g (by simp[Value.ownBlock])];exact b,rest⟩
def WL(w:World): (ip r I none 0 0 []).pred w:=⟨by simp,.inl ⟨rfl,rfl,rfl⟩⟩
def WM(c:Nat)(a:List Value): (ip r I x K c a).cT.Nodup:=by
 show (Value.slice x K c).ownBlock.toList.Nodup
 cases (Value.slice x K c).ownBlock <;> simp
def WN{E:b1 q}{c:Nat}{l:List q}{w:World}(j: (ip f E.ax h o c<|E.all l).pred w)(v:l.length=o){i:Addr}(d:h=some i){k:Nat}{a:q}(m:l[k]? = some a):
 ∀e u,(E.enc a)[e]? = some u->w.cell? ((i.add<|k*E.ax).add e)=some u:=by
 intro e u n;rcases j.2 with ⟨g,_⟩ | ⟨p,x,r,g,s,y,z,A,t⟩
 rw[g] at d;cases d
 rw[g] at d;cases d
 have b:=E.nE m n
 rw[<-t,iu] at b
 split at b
 rw[ja] at b
 rw[Addr.add_lit,Addr.add_lit,cell_of_row w p _ r f (0,0) s,Nat.add_assoc];simpa using b
 cases b
def A0{c:Nat}{w:World}(e: (ip f o h t c a).pred w):t<=c/\c<=maxLen/\(0<t-> ∃b d,h=some ⟨b,d,none⟩):=by
 rcases e.2 with ⟨g,l,i⟩ | ⟨b,d,m,g,n,j,k,_⟩
 exact⟨aa,by rw[i];exact b4 _,λe=>by omega⟩;exact⟨j,k,λ_=>⟨b,d,g⟩⟩
def WO{c:Nat}{w:World}(q:1<=t)(g: (ip f o h t c a).pred w): (ip f o (h.map (·.add (1*o))) (t - 1) (c - 1)<|a.drop o).pred w:=by
 obtain⟨t,rfl⟩ : ∃b,t=b+1:=⟨t - 1,aa⟩;obtain⟨d,i⟩:=g;rw[qc] at d
 refine⟨by rw[fL,d,un,un],?_⟩;rcases i with ⟨_,e,_⟩ | ⟨j,k,l,e,m,r,s,n,p⟩
 omega
 obtain⟨c,rfl⟩ : ∃b,c=b+1:=⟨c - 1,aa⟩;rw[qc] at n
 refine .inr ⟨j,k+o,l,by rw[e];simp[Addr.add_lit],m,aa,aa,by rw[un];omega,?_⟩;rw[<-p,un,qc,List.drop_take,ls,un]
def Ll(c a c' b:Nat)(d e:List Value): (ip r I (x.map (·.add b)) K c d).cT=(ip r I x a c' e).cT:=by
 show (Value.slice (x.map (·.add b)) K c).ownBlock.toList=(Value.slice x a c').ownBlock.toList
 cases x with
 | none=>rfl
 | some f=>simp[Value.ownBlock,block_add]
section
variable {cs':List Chunk}{w:World}{c c':Chunk}
def ag.conv(a:ag b S cs w)(d:bC cs c c' cs')(e:c'.cT=c.cT)(f:c.pred w->c'.pred w):ag b S cs' w:=by
 refine a.iM d (Ext.refl _ _) (f<|a.has d.has) (λh g=> .inl<|e▸g) ?_;rw[e];obtain⟨i,j,rfl,_⟩:=d.split;have:=a.nodup
 rw[jb,gy,gO,gO] at this
 exact this.2.1.1
def WP{l:List q}{c:q}(a:l[f]? = some c):List.Perm l (c::l.eraseIdx f):=by
 have b:=(cH.1 a).1
 have d:=(cH.1 a).2
 conv=>lhs;rw[<-iJ f l]
 rw[lY b,d,List.eraseIdx_eq_take_drop_succ];exact p_
def WQ{l:List q}(c:q)(a:f<l.length):List.Perm (c::l.eraseIdx f) (l.set f c):=by
 rw[sH,aB a,List.eraseIdx_eq_take_drop_succ];exact List.perm_middle.symm
def ag.pick{l:List Chunk}{k:Nat}(a:ag b S (aZ l::cs) w)(d:l[k]? = some c):ag b S (c::aZ (l.eraseIdx k)::cs) w:=by
 have e:ag b S (c::(l.eraseIdx k++cs)) w:=a.mQ.perm<|(WP d).append_right cs
 have f:ag b S (l.eraseIdx k++c::cs) w:=e.perm List.perm_middle.symm
 exact (f.close' (l:=l.eraseIdx k)).perm<|List.Perm.swap _ _ _
def ag.Lm{l:List Chunk}{k:Nat}(a:ag b S (c::aZ (l.eraseIdx k)::cs) w)(d:k<l.length):ag b S (aZ (l.set k c)::cs) w:=by
 have e:ag b S (aZ (l.eraseIdx k)::c::cs) w:=a.perm<|List.Perm.swap _ _ _
 have f:ag b S (l.eraseIdx k++c::cs) w:=e.mQ
 have g:List.Perm (l.eraseIdx k++c::cs) (l.set k c++cs):=List.perm_middle.trans<|(WQ c d).append_right cs
 exact (f.perm g).close'
def ag.Ln(c:ag b S cs w)(d:Has cs (ip t v h f o a)):f<=o/\o<=maxLen/\(0<f-> ∃e g,h=some ⟨e,g,none⟩):=A0<|c.has d
end
section
variable {cs':List Chunk}
def Ez{c c':Chunk}(a:bC cs c c' cs')(d:c'.cT=c.cT)(e: ∀w,c.pred w->c'.pred w)(f:aM P n ops Q rest l (ag b S cs')):aM P n ops Q rest l (ag b S cs):=
 iL f (Sub.refl _) λw g=>g.conv a d<|e w
def EA{L:List Chunk}{c:Chunk}{k:Nat}(a:bH cs (aZ L) cs')(d:L[k]? = some c)(e:dA P n F Q l (ag b S<|c::aZ (L.eraseIdx k)::cs')):dA P n F Q l (ag b S cs):=
 dh e (Sub.refl _) λ_ f=>(f.perm a.perm).pick d
def x3{L:List Chunk}{c:Chunk}{k:Nat}(a:bH cs (aZ L) cs')(d:L[k]? = some c)(e:aM P n ops Q rest l (ag b S<|c::aZ (L.eraseIdx k)::cs')):aM P n ops Q rest l (ag b S cs):=
 iL e (Sub.refl _) λ_ f=>(f.perm a.perm).pick d
def WR{A:Option Addr}{m c :Nat}(e:Has cs (ip f o A m c a))(g:m<=c/\c<=maxLen/\(0<m-> ∃h i,A=some ⟨h,i,none⟩)->aM P n ops Q rest l (ag b S cs)):aM P n ops Q rest l (ag b S cs):=λw d=>g (d.Ln e) w d
def A1{A:Option Addr}{m c :Nat}(e:Has cs (ip f o A m c a))(g:m<=c/\c<=maxLen/\(0<m-> ∃h i,A=some ⟨h,i,none⟩)->dA P n F Q l (ag b S cs)):dA P n F Q l (ag b S cs):=λw d=>g (d.Ln e) w d
def WS{w:World}{ty H:Nat}{U:List Value}(m:dD P f o t H U){c:Nat}{g:List Value}(n: (ip o t h C c g).pred w){a:Addr}{c1:Nat}{b:List Value}(i:b.length=t)
 (A: ∀j I,b[j]? = some I->w.cell? (a.add j)=some I) (V:aV b) (J:C+1<=maxLen) (K: (C+1)*H<=140737488355328):
 ∃u c' p,(Builtin.append_ #[f,f] ty #[.slice h C c,.slice (some a) 1 c1]).run P w= .ok (.slice u (C+1) c') p/\(ip o t u (C+1) c'<|g++b).pred p/\w.grownBy p (Value.slice h C c).ownBlock/\
  ((Value.slice u (C+1) c').ownBlock=(Value.slice h C c).ownBlock\/(Value.slice u (C+1) c').ownBlock=some w.heap.size):=by
 obtain⟨d,x,B,L,W,X,Y⟩:=m.inf;subst X;have Z:x.cells.size=d.size:=by rw[<-nx,W,m.len]
 have y: (g++b).length=(C+1)*d.size:=by rw[b3,n.1,i,qc]
 have Za: ((C+1 :Nat):Int)<=9223372036854775807:=by simp only[maxLen] at J;omega
 have M: ∀k,k<C+1->(ip o d.size (some ⟨w.heap.size,0,none⟩) (C+1) (grownCap w (C+1) k o)<|g++b).pred (w.drew.alloc<|.cells (g.toArray++b.toArray++Builtin.zeroCells x.cells (grownCap w (C+1) k o - (C+1))) o):=by
  intro k Zk;have Zb:=grownCap_ge w (C+1) k o
  have D:=grownCap_le_maxLen w (C+1) k o J
  refine⟨y,.inr ⟨w.heap.size,0,_,rfl,heap_alloc_new w.drew _,Zb,D,?_,?_⟩⟩;simp only[Array.size_append,List.size_toArray,size_zeroCells,Z,n.1,i,ev];rw[<-qc,<-kw];congr 1
  omega
  simp only[Array.toList_append,ec,ol];rw[<-ec,<-y];exact List.take_left
 have N: ∀(e:Obj)(row:Option Nat),w.grownBy (w.drew.alloc e) row:=λe row=>⟨rfl,rfl,rfl,by simp,λO E _=>heap_alloc_old w.drew e E⟩
 rcases n.2 with ⟨rfl,rfl,rfl⟩ | ⟨l,e,q,rfl,Q,Zl,D,z,R⟩
 have Zc:g=[]:=jX (by simpa using n.1)
 subst Zc;have F:=Go.run_append_nil (P:=P) (w:=w) f ty o d x m.gf B L a 1 c1 b (by rw[i,Nat.one_mul]) A aa aa (by rw[ev] at K;omega)
 have S:=M 0 aa
 simp only[jV,ev] at S
 exact⟨_,_,_,F,S,N _ _,.inr rfl⟩;by_cases G:C+1<=c
 have Zd: (C+1)*d.size<=c*d.size:=mB _ G
 rw[qc] at Zd
 have Ze:=run_firstCells_some (P:=P) (w:=w) d.size 1 a 1 c1 b (by rw[i,Nat.one_mul]) A
 have Zf:w.heap[l]? = some (.cells q.toList.toArray o (0,0)):=by simpa using Q
 obtain⟨p,Zg,T,r⟩:=Bt (P:=P) b q.toList w (e+C*d.size) 0 Zf (by rw[i,nx,z];omega) V;rw[sJ] at T
 have Zh: (e+C*d.size)+b.length<=q.toList.length:=by rw[i,nx,z];omega
 refine⟨some ⟨l,e,none⟩,c,p,?_,⟨y,.inr ⟨l,e,_,rfl,T,G,D,?_,?_⟩⟩,?_,.inl rfl⟩;simp[Builtin.append_,run_underlying m.gf,sizeOf,typeInfo,B,Builtin.lenOf,G,Ze,Addr.add_lit,Zg]
 rw[List.size_toArray,FQ,nx,z];show ((dJ q.toList (e+C*d.size) b).drop e).take ((C+1)*d.size)=g++b
 rw[kC _ Zh,ec,List.drop_append_of_le_length<|by rw[dR,nx,z];omega,List.drop_take,show e+C*d.size - e=C*d.size by omega,R,<-ec,<-y];exact List.take_left;exact⟨r.os,r.tape,r.output,r.size,λO E Zi=>r.block O E<|by simpa [Value.ownBlock] using Zi⟩;have Zj: ∀j v,g[j]? = some v->w.cell? ((⟨l,e,none⟩ :Addr).add j)=some v:=by
  intro j v s;rw[Addr.add_lit,cell_of_row w l _ q o (0,0) Q];rw[<-R,iu] at s
  split at s
  rw[ja] at s;simpa using s
  cases s
 have F:=run_append_grow (P:=P) (w:=w) f ty o d x m.gf B L ⟨l,e,none⟩ C c g n.1 Zj a 1 c1 b (by rw[i,Nat.one_mul]) A aa Za<|growslice_fits aa (by rw[Y];exact K)
 exact⟨_,_,_,F,M c aa,N _ _,.inr rfl⟩
def WT{i:Operand}{A:Option Addr}{m c:Nat}{xs:List Value}{c1:Nat}{vs:List Value}{r:TypeId}{cs':Option Addr->Nat->List Chunk}(s:dD P f o t v a)(u:Nat.blt d n=true)
 (x:bi l i=some (.slice A m c)) (y:bi l E=some (.slice (some ⟨C,0,none⟩) 1 c1)) (z:Has cs (aG C vs r)) (B:vs.length=t) (D:aV vs) (F:m+1<=maxLen) (G: (m+1)*v<=140737488355328)
 (p: ∀e c',bC cs (ip o t A m c xs) (ip o t e (m+1) c'<|xs++vs)<|cs' e c')
 (h: ∀e c',aM P n ops Q rest ((d,.slice e (m+1) c')::l)<|ag b S<|cs' e c'):
 aM P n ops Q (⟨some d,.call ⟨.builtin .append,#[i,E],#[f,f]⟩,ty,pos,bf,none⟩::rest) l (ag b S cs):=by
 refine iv u λN w q j=>?_
 obtain⟨e,c',H,I,J,K,L⟩:=WS (P:=P) (ty:=ty) s (j.has (p A c).has) (a:=⟨C,0,none⟩) (c1:=c1) B (λO R M=>by
  rw[Addr.add_lit];exact j.e8 z<|by simpa using M) D F G
 refine⟨_,H,?_,(h e c').at<|j.iM (p e c') (Ext.wz K) J ?_<|WM _ _ _ _ _ _⟩;simp[execOp,resolve,invoke,builtin,q i _ x,q E _ y,I]
 intro k g;replace g: (Value.slice e (m+1) c').ownBlock=some k:=kx.1 g
 rcases L with h | h
 exact .inl<|kx.2<|h▸g;rw[h] at g;cases g;exact .inr<|cC _
def Lo{H:World->Prop}{b:Option Operand}{sz:Nat}(g:P.underlying f=some (.array t o))(h: ∀w,(Go.sizeOf o).run P w= .ok sz w)(m:Nat.blt d n=true)(i:bi l k=some (.pointer<|some ⟨v,C,none⟩))
 (p: (∃a c,b=some a/\bi l a=some (ad c)/\c=(r:Int))\/b=none/\r=t) (q:r<=t)
 (s:aM P n ops Q rest ((d,.slice (some ⟨v,C,none⟩) r t)::l) H):aM P n ops Q (⟨some d,.slice f k none b none,ty,pos,bf,none⟩::rest) l H:=by
 refine dB _ m (λx w e=>?_) s;have j: (⟨v,C,none⟩ :Addr).add 0=⟨v,C,none⟩:=by rw[Addr.add_lit];rfl
 rcases p with ⟨a,c,rfl,u,rfl⟩ | ⟨rfl,rfl⟩
 simp[execOp,e k _ i,e a _ u,Instr.sliceAt,run_underlying g,Instr.sureAddr,Instr.sliceBounds,Instr.sliceBound,asIntOf,h,q,j]
 simp[execOp,e k _ i,Instr.sliceAt,run_underlying g,Instr.sureAddr,Instr.sliceBounds,h,j]
def Lp{E:b1 q}{j m:Operand}{H:Nat}{g o c:Nat}{xs:List Value}{te:TypeId}{k c':Nat}{src:List q}{F:Nat->Prop}{cs':List Chunk}(r:Nat)(I:r=min k v)(p:dD P f H E.ax t a)(J:Nat.blt d n=true)
 (K:bi l j=some (.slice (some ⟨g,o,none⟩) v c)) (L:bi l m=some (.slice h k c')) (i:bC cs (aG g xs te) (aG g (dJ xs o<|E.all<|src.take r) te) cs')
 (M: ∀w,ag b S cs w->Rd E w F h k c' src) (Zg:o+v*E.ax<=xs.length)
 (N:aM P n ops Q rest ((d,ad (r:Int))::l) (ag b S cs')):
 aM P n ops Q (⟨some d,.call ⟨.builtin .copy,#[j,m],#[f,f]⟩,ty,pos,bf,none⟩::rest) l (ag b S cs):=by
 obtain⟨Zh,Zi,O,Zj,Zk,R,Zl⟩:=p.inf;refine iv J λZm w y z=>?_
 have s:=M w z
 have T:r<=k:=by omega
 have Zn:r*E.ax<=v*E.ax:=mB _ aa
 have u: (E.all<|src.take r).length=r*E.ax:=by rw[E.eD,dR,s.len,jZ T]
 obtain⟨U,V,W⟩:=z.store (P:=P) (o:=o) (vs:=E.all<|src.take r) (by rw[u];omega) (E.yF _) i;have X:Nat.min k v=r:=I.symm
 have Y: (Builtin.firstCells E.ax r<|.slice h k c').run P w= .ok (E.all<|src.take r).toArray w:=by
  rcases hV r with ar | ar
  subst ar;cases h <;> simp[Builtin.firstCells,b1.all,loadCells,loadCellsFrom]
  obtain⟨Z,rfl,_,Za⟩:=s.cells aa;have:=run_loadCellsFrom (P:=P) (w:=w) (p:=Z) (E.all<|src.take r) 0 #[] (λe Zo i=>by
   have Zb:e<r*E.ax:=by
    have:=(cH.1 i).1
    rwa [u] at this
   have A:0<E.ax:=p.pos
   have Zc:e/E.ax<r:=(Nat.div_lt_iff_lt_mul A).2 Zb
   have Zd:=jA e A
   have Ze:=Nat.div_add_mod e E.ax
   have Zf:e/E.ax<src.length:=by rw[s.len];omega
   obtain⟨a0,B⟩ : ∃a0,src[e/E.ax]? = some a0:=⟨src[e/E.ax],bD Zf⟩;obtain⟨C,D⟩ : ∃C,(E.enc a0)[e%E.ax]? = some C:=⟨(E.enc a0)[e%E.ax]'(by rw[E.len];exact Zd),bD _⟩;have x:=E.nE (l:=src.take r) (by rw[iu,aB Zc];exact B) D
   have G:e/E.ax*E.ax+e%E.ax=e:=by rw[rn];exact Ze
   rw[G,i] at x
   simp only[ek] at x
   subst x;have:=Za _ _ _ _ B D
   rw[add_add,G] at this
   rw[ev];exact this)
  rw[u] at this
  simpa [Builtin.firstCells,loadCells] using this
 refine⟨ad (r:Int),U,?_,N.at W⟩;simp[execOp,resolve,invoke,builtin,y j _ K,y m _ L,Builtin.copy_,run_underlying p.gf,Builtin.lenOf,run_sizeOf O,R,X,Y,goInt,V]
