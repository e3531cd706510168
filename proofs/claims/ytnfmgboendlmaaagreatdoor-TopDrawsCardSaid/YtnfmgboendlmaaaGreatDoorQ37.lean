/- part 37 of the proof -/
import Derived.Test.YtnfmgboendlmaaaGreatDoorQ36
import Derived.Shelf.Strings.BuilderK
import Derived.MapKept
set_option linter.all false
namespace Go.Proofs.YtnfmgboendlmaaaGreatDoor.Mq
open RowKit Tryz
variable {P:Program}{n d:Nat}{ops:Array Oper}{Q:cN}{rest:List Oper}{l:Fr}{ty:TypeId}{pos:String}{bf:Array Edge}{b:World}{S:List Nat}{cs:List Chunk}
variable [Inhabited vP]{j:Array MapEntry}{t:Array MapEntry->Nat->List Chunk}{V:Chunk}{k:Int}{x:List Chunk}{X:List UInt8}{G h:Nat}{U:Nat->Prop}{C K:Operand}{u:Option Addr}{y:Type}{L v:TypeId}{H q:World}{Z:bM}{R:hR}(e:World)(E:Array MapEntry)(i:List UInt8)(B:Nat->Prop)(Y:Int)(J:List UInt8)(f:Nat)(a:Option Addr)(I:hR)(D:Nat)
def A9(h:Nat)(a:y->Chunk)(g:List UInt8->y->Prop):Prop:= ∀(b:World)(c:List UInt8)(d:y)(e:List UInt8)(i:bG),g c d->c.length+e.length<=h->bc b [a d]->
 Calls prog f (([]:List Value)++[Value.string (bs e),fc i]++[ptr D]).toArray b (aX (λ_:y=> .tuple #[]) [a d] (λj=>[a j]) (g (c++e) ·) b)
set_option maxHeartbeats 1000000 in
def Ma{t:Type}(k:t->Chunk)(A:List UInt8->t->Prop)(o:t)(q:Option Addr)(l r:Nat)(g:List bq)(B:dT e (λa=>a∉aK [k o]) q l r g)(b f:bG)(p m M:Nat)(Zf:dX prog p)(Zg:A9 p m M k A)(u:List UInt8)(i j:Nat)(ZN:i<j)(Zo:j<=l)(Zp:l<=1000000)(Zh:0<=f.dL)
 (Zq: ∀row∈g,∀x∈row.1,x.more.length<=1000000) (v:u.length+(yh g b f i j).length<=M) (Zr:bc e [k o]) (Zs:A u o):
 ay 214 [.agg (lW p q l r b f m).toArray,.agg [ad (i:Int),ad (j:Int)].toArray] e (aX (λ_:t=> .tuple #[]) [k o] (λC=>[k C]) (A (u++yh g b f i j) ·) e):=by
 have ZO:=B.len
 refine bX func214 ntmps214 Zr ?_;refine ap ?_;intro D ZP ZQ;refine av ?_;intro E ZR ZS;refine aH ?_;refine bd (λs n=>Ye s _ q l r g (B.ext n.ext λ_ h=>h) b f p m i j Zo Zp Zh) ?_;refine av ?_;intro F ZT ZU;refine aH ?_;refine d9 (q:=0) underlying305 ic rfl rfl rfl bo aa<|aI ?_;unfold yh at v ⊢
 obtain⟨c,Zi⟩ : ∃c,c=nK g b f i j:=⟨_,rfl⟩;rw[<-Zi] at v ⊢
 refine cd (ι:=Nat × t) (λd=>[(5,ad (d.1 :Int)),(2,ptr D),(3,ptr E),(4,ptr F)]) (λd=>ag e (aK [k o]) [k d.2,aG F c.enc 44,aG E [ad (i:Int),ad (j:Int)] 305,aG D (lW p q l r b f m) 302]) (λd=>(i<=d.1/\d.1<=j)/\A (u++kI g b f c i d.1) d.2) (λd=>j - d.1) ?_ ?_;exact λs n=>⟨(i,o),⟨⟨cC _,by dsimp only;omega⟩,by rw[Cd g b f c i i (cC _),eZ];exact Zs⟩,(da rfl rfl rfl rfl),(n.aF (l:=[k o,aG F c.enc 44,aG E [ad (i:Int),ad (j:Int)] 305,aG D (lW p q l r b f m) 302])<|by rw[Zi];exact ah)⟩
 rintro⟨a,K⟩ ⟨⟨Zt,Zu⟩,L⟩;dsimp only at Zt Zu L ⊢
 refine a7 ?_;refine d9 (q:=1) underlying305 ic rfl rfl rfl bo aa ?_;refine (aE) (λZv=>?_) λZv=>?_;obtain⟨row,w⟩ : ∃row,g[a]? = some row:=⟨g[a]'aa,bD _⟩;obtain⟨Zw,P,G,Q,R,S,T,H⟩:=B.at_ w;have ZV:=H.len
 have Zx:=A8 H
 simp only[maxLen] at Zx
 have Zj:mU g a=row.1:=by unfold mU;rw[w];rfl
 obtain⟨ZW,ZX⟩:=L6 (k:=a) (len:=row.1.length) Zh;have ZY:=L7 b a
 have Zy:=L9 (rows:=g) (fr:=b) (to:=f) (en:=c) (l0:=i) (i:=a+1) j aa
 rw[kI,ai aa,Zj,b3] at Zy
 refine aY ?_;refine bd (λs n=>L5 s _ q l r g (B.ext n.ext λ_ h=>h) b f p m a row w) ?_;refine cZ ?_;refine cd (ι:=Nat × t) (λd=>[(8,ad (d.1 :Int)),(2,ptr D),(3,ptr E),(4,ptr F),(5,ad (a:Int)),(7,ad<|iC f a row.1.length)]) (λd=>ag e (aK [k o]) [k d.2,aG F c.enc 44,aG E [ad (i:Int),ad (j:Int)] 305,aG D (lW p q l r b f m) 302]) (λd=>((hh b a).toNat<=d.1/\(d.1<=(iC f a row.1.length).toNat\/d.1=(hh b a).toNat))/\A (u++kI g b f c i a++jI row.1 a c (hh b a).toNat d.1) d.2) (λd=>G - d.1) ?_ ?_;exact λs n=>⟨((hh b a).toNat,K),⟨⟨cC _,.inr rfl⟩,by rw[zc _ _ _ _ _ (cC _),eZ];exact L⟩,Sub.cons (by rw[show (((hh b a).toNat:Nat):Int)=hh b a by omega];rfl)<|en rfl rfl rfl rfl rfl,n⟩
 rintro⟨x,I⟩ ⟨⟨Zz,Zk⟩,J⟩;dsimp only at Zz Zk J ⊢
 refine (aE) (λZA=>?_) λZA=>?_;obtain⟨y,U⟩ : ∃y,row.1[x]? = some y:=⟨row.1[x]'aa,bD _⟩;obtain⟨ZZ,ZB,ZC,ZD⟩:=H.at_ U;have ZE:=Zq row (cR w) y<|cR U
 have V:jI row.1 a c (hh b a).toNat (x+1)=jI row.1 a c (hh b a).toNat x++te a c x y:=by rw[jI,ai aa,U]
 have ZF:=L8 (L:=row.1) (row:=a) (en:=c) (a:=(hh b a).toNat) (i:=x+1) (iC f a row.1.length).toNat aa
 rw[V,b3] at ZF
 have Zl:y.half≠3/\jh ⟨(a:Int),(x:Int)⟩ c=true->te a c x y=qu y:=λh=>by unfold te;rw[aB h]
 have Zm: ¬(y.half≠3/\jh ⟨(a:Int),(x:Int)⟩ c=true)->jI row.1 a c (hh b a).toNat (x+1)=jI row.1 a c (hh b a).toNat x:=λh=>by rw[V,te,ai h,eZ]
 have ZG: ∀W:List UInt8,te a c x y=W->(u++kI g b f c i a++jI row.1 a c (hh b a).toNat x).length+W.length<=M:=λW ZH=>by
  rw[<-ZH];simp only[b3] at v ⊢
  omega
 refine be ?_;intro Z0 Z1 Z2;refine aY ?_;refine bE (q:=a) dy rfl rfl rfl R rfl aa<|av ?_;refine bb j3 rfl rfl (λZI X=>X.ch (T 0 _ rfl)<|by simp only[block_add];exact S) ?_;refine av ?_;refine bE (q:=x) dj rfl rfl rfl ZB rfl aa ?_;refine cE (vs:=y.enc) gh rfl rfl rfl (λZI X C Y Z=>X.ch (ZD C Y Z)<|by simp only[block_add];exact ZC) ?_;refine av ?_;intro Z3 Z4 Z5;refine a6 ?_;refine bl 50 rfl (λN=>?_) λN=>?_;have Za:=bg N
 refine aI ?_;refine bF (x1 · ⟨(a:Int),(x:Int)⟩ c) ?_;refine (aE) (λz=>?_) λz=>?_;simp only[cq] at z
 refine bN [0,1,2,4] 2 [[(3,false,[]),(5,true,[])]] ?_;refine aH ?_;refine bF (O0 · y ZE)<|ap ?_;refine k_ (l0:=[k I]) (first:=[]) (cap:=[ptr m]) ah rfl rfl Zf rfl (λZb Zc=>Zg Zb _ I (qu y) ⟨(a:Int),(x:Int)⟩ J (ZG _<|Zl ⟨Za,bI z⟩)<|Zc.cb ah) λZd O=>?_;refine be ?_;exact bv (x+1,Zd) ⟨⟨by dsimp only;omega,.inl bL⟩,by dsimp only;rw[V,Zl ⟨Za,bI z⟩,<-ec];exact O⟩ bL b5 λ_ h=>h.aF ah;simp only[cq] at z
 refine aY ?_;exact bv (x+1,I) ⟨⟨by dsimp only;omega,.inl bL⟩,(Zm λh=>z<|bg h.2).symm▸J⟩ bL b5 λ_ h=>h.aF ah;have Za:=bm N
 refine dO ?_;exact bv (x+1,I) ⟨⟨by dsimp only;omega,.inl bL⟩,(Zm λh=>(bm N) h.1).symm▸J⟩ bL b5 λ_ h=>h.aF ah;have ZJ:jI row.1 a c (hh b a).toNat x=jI row.1 a c (hh b a).toNat (iC f a row.1.length).toNat:=by
  rcases Zk with h | h
  rw[show x=(iC f a row.1.length).toNat by omega];rw[h,zc _ _ _ _ _<|cC _,zc _ _ _ _ _ aa]
 refine bP ?_;exact bv (a+1,I) ⟨⟨by dsimp only;omega,by dsimp only;omega⟩,by dsimp only;rw[kI,ai aa,Zj,<-ec,<-ZJ];exact J⟩ bL b5 λ_ h=>h.aF ah;have ZK:a=j:=by omega
 subst ZK;obtain⟨row,w⟩ : ∃row,g[a - 1]? = some row:=⟨g[a - 1]'aa,bD _⟩;obtain⟨Zw,P,G,Q,R,S,T,H⟩:=B.at_ w;refine aU ?_;refine d9 (q:=1) underlying305 ic rfl rfl rfl bo aa ?_;refine (aE) (λZe=>?_) λZe=>?_;rw[aB Ze] at v ⊢
 refine bN [0,1,2,3,4,5,6,7] 2 [[(8,false,[9]),(10,true,[])]] ?_;refine aH ?_;refine aO rfl (λZL Zn=>(bE (q:=a - 1) dy rfl rfl rfl R aa aa aJ)) ?_;refine aO rfl (λZL Zn=>(cE (vs:=[.slice P G Q,.bool row.2]) gG rfl rfl rfl (λZ6 ZM C Y Z=>by subst ZM;exact Zn.ch (T C Y Z)<|by simp only[block_add];exact S) aJ)) ?_;refine aA ?_;refine bd (λs n=>Yc s _ P G Q row.1 row.2<|H.ext n.ext λ_ h=>h) ?_;refine a7 ?_;refine k_ (l0:=[k K]) (first:=[]) (cap:=[ptr m]) ah rfl rfl Zf rfl (λZb Zc=>Zg Zb _ K [10] ⟨(a:Int) - 1,(sp row.1 G:Int)⟩ L (by simp only[b3] at v ⊢;omega)<|Zc.cb ah) λZd O=>?_;refine a7 ?_;exact bT Zd (by rw[ec] at O;exact O);rw[ai Ze,eZ] at v ⊢
 refine aA ?_;exact bT K L
structure yi where
 A:Option Addr
 c:Nat
 l:List (Int × Int)
abbrev yi.val(a:yi):Value:= .slice a.A a.l.length a.c
abbrev yi.aD(a:yi):Chunk:=Mq.aD 305 oJ a.A a.c a.l
def Mb(b d:Nat)(f:List bq)(j:dT e B a b d f)(k:b<=100000):
 ay 213 [.slice a b d] e (aX (λc:yi=>c.val) [] (λc=>[c.aD]) (λc=>c.l=l5 f b) e):=by
 refine (Yg e B a b d f j k).mono ?_;rintro r s ⟨t,rfl,m,g,n⟩;obtain⟨o,p,rfl⟩:=yG g;refine aX.cf ⟨o,p,l5 f b⟩ rfl rfl ⟨m,?_,λd h=>?_,λq i u=>?_⟩;simp only[aK,nA,rj,eZ];exact wF _ _ _ _ _;rw[e0] at h;subst h;exact g
 simp only[aK,nA,rj,eZ] at i
 have:=n q<|kx.1 i
 omega
def dT.apart{a:y->Chunk}{f d:y}{c:Nat}{rows:List bq}(j:dT q (λb=>b∉aK [a f]) u h c rows)(g:ag q (aK [a f]) x H)(k:Has x (a d)):dT H (λb=>b∉aK [a d]) u h c rows:=by
 refine (j.iz.ext g.ext λb e=>e.1).d8 λb e i=>e.1<|g.eU b ?_ e.2;rw[show aK [a d]=(a d).cT by simp[aK]] at i
 exact er.2 ⟨a d,k.mem,i⟩
set_option maxHeartbeats 1000000 in
def Mc{u:Type}(c:u->Chunk)(q:List UInt8->u->Prop)(v:u)(r:Option Addr)(i s:Nat)(d:List bq)(J:dT e (λZf=>Zf∉aK [c v]) r i s d)(b a:bG)(t w M:Nat)(U:dX prog t)(V:A9 t w M c q)(Zg:i<=100000)(ZB:0<=b.row/\b.row<=4398046511104)(W:0<=a.dL)(ZC:0<=a.row/\a.row<=4398046511104)
 (X: ∀Zh∈d,∀Zi∈Zh.1,Zi.more.length<=1000000) (K: (ld d b a).length<=M) (Zj:bc e [c v]) (Y:q [] v):
 ay 132 [.slice r i s,fc b,fc a,.func (.func t) #[] #[ptr w]] e (aX (λ_:u=> .tuple #[]) [c v] (λg=>[c g]) (q (ld d b a) ·) e):=by
 have Zk:=J.len
 have Zl:wX b=b:=by unfold wX;rw[ai aa]
 unfold ld at K ⊢
 rw[Zl,Zk] at K ⊢
 refine bX func132 ntmps132 Zj ?_;refine ap ?_;intro D ZD ZE;refine av ?_;intro E ZF ZG;refine (aE) (λZ=>?_) λZ=>aU ?_
 ·exact absurd Z aa
 ·refine bF (x1 · b a)<|ap ?_
  refine cD rfl (λF=>ap ?_) λF=>?_
  ·intro ZH Zm
   rw[ai λG=>by rw[G] at F;exact absurd F aW];exact eV v Y Zm
  ·have Zn:jh b a=true:=by rw[Bool.not_eq_false'] at F;exact F
   rw[aB Zn] at K ⊢
   refine be ?_;intro H ZI ZJ;refine aH ?_;refine bK (l0:=[]) aP.nil (λh o=>Mb h _ r i s d (J.ext o.ext λ_ j=>j) Zg) λf Zo=>?_;refine aI ?_;have Za:=Cb d i
   have Zp:=Ca d i
   rw[<-Zo] at K Za Zp ⊢
   refine cd (ι:=Nat × u) (λx=>[(27,ad (x.1 :Int)),(0,.slice r i s),(5,ptr D),(6,ptr E),(8,ptr H),(25,f.val),(26,ad (f.l.length:Int))]) (λx=>ag e (aK [c v]) [c x.2,f.aD,aG H (lW t r i s b a w) 302,aG E a.enc 44,aG D b.enc 44]) (λx=>x.1<=f.l.length/\q ((f.l.take x.1).flatMap<|jJ d b a) x.2) (λx=>f.l.length - x.1) ?_ ?_
   ·exact λZK Zq=>⟨(0,v),⟨b4 _,Y⟩,(jg rfl rfl rfl rfl rfl rfl rfl),Zq.aF (l:=[c v,f.aD,aG H (lW t r i s b a w) 302,aG E a.enc 44,aG D b.enc 44]) ah⟩
   ·rintro⟨m,y⟩ ⟨Zr,z⟩
    dsimp only at Zr z ⊢
    refine (aE) (λZs=>?_) λZs=>aI ?_
    ·obtain⟨p,Zb⟩ : ∃p,f.l[m]? = some p:=⟨f.l[m]'aa,bD _⟩
     obtain⟨A,n,rfl,ZL,ZM⟩:=G5 f.l 0 Za p<|cR Zb;have L: (f.l.take<|m+1).flatMap (jJ d b a)=(f.l.take m).flatMap (jJ d b a)++jJ d b a ((A:Int),(n:Int)):=by rw[jH Zb,sw];simp
     have Zc: ((f.l.take m).flatMap<|jJ d b a).length+(jJ d b a ((A:Int),(n:Int))).length<=M:=by
      have:=Yh (jJ d b a) (L:=f.l) (i:=m+1)
      rw[L,b3] at this
      omega
     obtain⟨k,N⟩ : ∃k:Nat,max (A:Int) b.row=(k:Int):=⟨(max (A:Int) b.row).toNat,aa⟩;obtain⟨B,Zt⟩ : ∃B:Nat,a.row+1=(B:Int):=⟨(a.row+1).toNat,aa⟩;have Zd: ¬((k:Int)<n/\(k:Int)<=a.row)->q ((f.l.take<|m+1).flatMap<|jJ d b a) y:=λj=>by
      rw[L,Yi λG=>j<|by rw[N] at G;exact G,eZ];exact z
     have Zu: ∀(C:Nat)(h:World),ag e (aK [c v]) [aG C [ad (k:Int),ad (B:Int)] 305,c y,f.aD,aG H (lW t r i s b a w) 302,aG E a.enc 44,aG D b.enc 44] h->(k:Int)<n/\(k:Int)<=a.row/\a.row<i/\a.row+1<n->ay 214 [.agg (lW t r i s b a w).toArray,.agg [ad (k:Int),ad (B:Int)].toArray] h (aX (λ_:u=> .tuple #[]) [c y] (λg=>[c g]) (q ((f.l.take<|m+1).flatMap<|jJ d b a) ·) h):=λC h o j=>by
      have I:=L_ (rows:=d) (fr:=b) (to:=a) (s:=(A:Int)) (e:=(n:Int)) (l0:=k) (l1:=B) N j.1 j.2.1 (by rw[aB ⟨aa,aa⟩];omega)
      rw[L,I];exact Ma h c q y r i s d (J.apart o cz) b a t w M U V _ k B aa aa aa W X (by rw[<-I];exact Zc) (o.cb ah) z
     have Ze: ∀(C:Nat)(h:World),ag e (aK [c v]) [aG C [ad (k:Int),ad (n:Int)] 305,c y,f.aD,aG H (lW t r i s b a w) 302,aG E a.enc 44,aG D b.enc 44] h->(k:Int)<n/\(k:Int)<=a.row/\ ¬(a.row<i/\a.row+1<n)->ay 214 [.agg (lW t r i s b a w).toArray,.agg [ad (k:Int),ad (n:Int)].toArray] h (aX (λ_:u=> .tuple #[]) [c y] (λg=>[c g]) (q ((f.l.take<|m+1).flatMap<|jJ d b a) ·) h):=λC h o j=>by
      have I:=L_ (rows:=d) (fr:=b) (to:=a) (s:=(A:Int)) (e:=(n:Int)) (l0:=k) (l1:=n) N j.1 j.2.1 (by rw[ai λG=>j.2.2 ⟨aa,aa⟩])
      rw[L,I];exact Ma h c q y r i s d (J.apart o cz) b a t w M U V _ k n aa aa aa W X (by rw[<-I];exact Zc) (o.cb ah) z
     refine aH ?_;refine ik (E:=oJ) cz uB rfl rfl rfl bo aa λZN Zv=>cE BL rfl rfl rfl (λZO O g Zw Zx=>O.hG (E:=oJ) cz Zv bR g Zw Zx)<|av ?_;intro C ZP ZQ;refine aI ?_;refine d9 (q:=0) underlying305 ic rfl rfl rfl bo aa<|a7 ?_;refine d9 (q:=0) underlying305 ic rfl rfl rfl bo aa<|a7 ?_;rw[N];refine av ?_;refine d9 (q:=0) underlying305 ic rfl rfl rfl bo aa<|av ?_;refine d9 (q:=1) underlying305 ic rfl rfl rfl bo aa<|ap ?_;refine bl 42 rfl (λP=>?_) λP=>?_
     ·have Zy:=bg P
      refine av ?_;refine d9 (q:=0) underlying305 ic rfl rfl rfl bo aa ?_;refine (aE) (λZz=>a6 ?_) λZz=>aU ?_
      ·focus (refine bl 54 rfl (λQ=>?_) λQ=>?_;(focus have ZA:=bg Q;refine av ?_;refine d9 (q:=1) underlying305 ic rfl rfl rfl bo aa<|cn ?_;refine (cj) (λR=>?_) λR=>?_;(simp only[cq] at R);refine a7 ?_;refine d9 (q:=1) underlying305 ic rfl rfl rfl bo aa ?_;rw[Zt];refine aH ?_;refine bK (ι:=u) (v:=λ_=> .tuple #[]) (l':=λg=>[c g]) (ok:=λg=>q ((f.l.take<|m+1).flatMap<|jJ d b a) g) (l0:=[c y]) ah (hargs:=rfl) (λh o=>by (have O:a.row<i/\a.row+1<n:=aa;exact Zu _ h o ⟨aa,aa,O⟩)) λS T=>?_;rotate_left;(simp only[cq] at R);refine aI ?_;refine bK (ι:=u) (v:=λ_=> .tuple #[]) (l':=λg=>[c g]) (ok:=λg=>q ((f.l.take<|m+1).flatMap<|jJ d b a) g) (l0:=[c y]) ah (λh o=>by exact Ze _ h o ⟨aa,aa,aa⟩) λS T=>?_);rotate_left 2;have ZA:=bm Q;refine dO ?_;refine bK (ι:=u) (v:=λ_=> .tuple #[]) (l':=λg=>[c g]) (ok:=λg=>q ((f.l.take<|m+1).flatMap<|jJ d b a) g) (l0:=[c y]) ah (λh o=>by exact Ze _ h o ⟨aa,aa,aa⟩) λS T=>?_;all_goals (refine aU ?_;exact bv (m+1,S) ⟨by dsimp only;omega,T⟩ bL b5 λ_ j=>j.aF ah))
      ·exact bv (m+1,y) ⟨by dsimp only;omega,Zd aa⟩ bL b5 λ_ j=>j.aF ah
     ·have Zy:=bm P
      refine fa ?_;exact bv (m+1,y) ⟨by dsimp only;omega,Zd aa⟩ bL b5 λ_ j=>j.aF ah
    ·exact bT y (by rw[eT aa] at z;exact z)
def vI:Shelf.Ren:=⟨λ| 166=>99 | 169=>43 | 240=>161 | 276=>239 | n=>n,λ| 0=>0 | 3=>3 | 4=>4 | 5=>5 | 9=>9 | 20=>20 | 37=>48 | 70=>102 | 72=>104 | 75=>193 | 80=>111 | 127=>197 | 164=>328 | n=>n,λn=>n⟩
def AA:Lays.n169 prog vI where
 mixed:=by kernel_rfl
 f169:=func43.trans<|a_ some ak
 t0:=underlying0
 a0:=isAgg0
 z0:=sizeOf0
 v0:=zeroValue0
 t3:=underlying3
 a3:=isAgg3
 z3:=sizeOf3
 v3:=zeroValue3
 t9:=underlying9
 a9:=isAgg9
 z9:=sizeOf9
 v9:=zeroValue9
 t37:=underlying48
 a37:=isAgg48
 z37:=sizeOf48
 v37:=zeroValue48
 t70:=underlying102
 a70:=isAgg102
 z70:=sizeOf102
 v70:=zeroValue102
 t72:=underlying104
 a72:=isAgg104
 z72:=sizeOf104
 v72:=zeroValue104
 t127:=underlying197
 a127:=isAgg197
 z127:=sizeOf197
 v127:=zeroValue197
def xP:Builder.Extra prog vI where
 sizeBuilder:=by kernel_rfl
 liesBuilder:=by kernel_rfl
 t5:=underlying5
 a5:=isAgg5
 z5:=sizeOf5
 v5:=zeroValue5
 infoByte:=by kernel_rfl
 cellsByte:=by kernel_rfl
 sizeByte:=by kernel_rfl
 neB5:=bg ak
def Md(b:List UInt8)(a:World):Prop:=Ext [] e a/\Lib.IsBuilderF 104 5 e.heap.size f (Lib.byteCells b) a
def Ext.AB{c:World}(a:Ext [] q H)(b:Below q.heap.size H c):Ext [] q c:=
 ⟨b.os.trans a.os,b.tape.trans a.tape,b.output.trans a.output,ge a.size b.size,λd e f=>(b.block d e).trans<|a.block d e f⟩
def Yj(a:List UInt8)(b:World)(c:Md e f a b):
 ay 43 [.pointer (some ⟨f,0,none⟩)] b (λd g=>d= .returned (bU a)/\Ext [] e g):=by
 refine Calls.mono (Any.Builder_String_any_k AA xP e.heap.size f a b c.2 c.1.size) ?_;rintro d g ⟨rfl,_,h,_⟩;exact⟨rfl,Ext.AB c.1 h⟩
abbrev nt(b:Value):List Value:=[.pointer a,b]
abbrev yj :Chunk:=aZ [aG f (nt a I.val) 104,I.aD]
def Yk(d:bc e [aG f (nt a I.val) 104,I.aD])(g:a=none\/a=some ⟨f,0,none⟩)(b:List UInt8)(h:I.l.length+b.length<=140737488355328):ay 99 [ptr f,bU b] e
 (aX (λ_:hR=> .tuple #[ad (b.length:Int),.nilIface]) [aG f (nt a I.val) 104,I.aD] (λc=>[aG f (nt (some ⟨f,0,none⟩) c.val) 104,c.aD]) (λc=>c.l=I.l++b) e):=
 o2 e (o:=0) d rfl rfl g (show pL (te:=104) 2 0 (t:=104) by unfold pL;kernel_rfl) b h
structure A_ where
 bt:Option Addr
 z:hR
def Yl(o:D<=140737488355328):A9 133 f D (λc:A_=>yj f c.bt c.z) (λh c=>(c.bt=none\/c.bt=some ⟨f,0,none⟩)/\c.z.l=h):=by
 intro j h ⟨d,a⟩ i p e q g;dsimp only at e g ⊢
 have g:=g.k2
 refine Calls.mono ?_ λr s k=>aX.star (l:=[aG f (nt d a.val) 104,a.aD]) (v:=λ_:A_=>Value.tuple #[]) (l':=λb=>[aG f (nt b.bt b.z.val) 104,b.z.aD]) (ok:=λb=>(b.bt=none\/b.bt=some ⟨f,0,none⟩)/\b.z.l=h++i) k;refine calls (n:=7) func133 rfl ntmps133 rfl ?_;refine dh (H':=ag j (aK [aG f (nt d a.val) 104,a.aD]) [aG f (nt d a.val) 104,a.aD]) (ap ?_) (Sub.refl _) g.start;intro t u v;refine a7 ?_;refine (dg) (Yk · f d a · e.1 i (by rw[e.2];omega)) λm n=>?_;refine aA ?_;exact bT ⟨some ⟨f,0,none⟩,m⟩ ⟨.inr rfl,by rw[n,e.2]⟩
def Ym{g:Nat}(a:ag q [] [aG g (nt u R.val) 104,R.aD] H)(o:u=none\/u=some ⟨g,0,none⟩):Md q g R.l H:=by
 have d:q.heap.size<=g:=by
  rcases fd g q.heap.size with b | c
  exact absurd (a.eU g (by simp[aK,aG]) b) au;exact c
 have e:=a.nodup
 have f:H.ownsRow 0 5 1 R.val R.l.length (cI.all R.l):=a.has (c:=R.aD)<|Has.tail Has.head
 have p: ∀k,R.val.ownBlock=some k->q.heap.size<=k:=λk r=>by
  rcases fd k q.heap.size with b | c
  exact absurd (a.eU k (er.2 ⟨R.aD,by simp,kx.2 r⟩) b) au;exact c
 have h:R.val.ownBlock≠some g:=λs=>by
  rw[gy,gO] at e
  exact e.2.2 g (by simp[aG]) g (er.2 ⟨R.aD,by simp,kx.2 s⟩) rfl
 have i:H.heap[g]? = some (.cells (nt u R.val).toArray 104 (0,0)):=a.has (c:=aG g (nt u R.val) 104) Has.head
 have t:cI.all R.l=Lib.byteCells R.l:=by
  rw[<-DP,Lib.strCells_eq]
 have j:H.ownsRowF q.heap.size 5 1 R.val R.l.length (Lib.byteCells R.l):=by
  rw[<-t];refine World.ownsRowF_of ⟨f.1,?_⟩;rcases f.2 with v | ⟨k,w,x,m,_,y⟩
  exact .inl v;exact .inr ⟨k,w,x,m,p k<|by rw[m];rfl,y⟩
 have n: (Lib.byteCells R.l).length=R.l.length:=Lib.byteCells_length _
 refine⟨a.ext,?_⟩;rcases o with rfl | rfl
 exact .inl ⟨d,R.val,i,by rw[n];exact j,h⟩;exact .inr ⟨d,R.val,i,by rw[n];exact j,h⟩
def dT.off{rows:List bq}(d:dT q U u h G rows)(b:ag q [] x H)(e:Has x V):dT H (λa=>a∉aK [V]) u h G rows:=by
 refine (d.iz.ext b.ext λa _=>by simp).d8 λa f c=>?_;rw[show aK [V]=V.cT by simp[aK]] at c
 exact absurd (b.eU a (er.2 ⟨V,e.mem,c⟩) f.2) au
def Me(i j:Nat)(g:List bq)(o:dT e B a i j g)(f d:bG)(p:i<=100000)(q:0<=f.row/\f.row<=4398046511104)(r:0<=d.dL)(s:0<=d.row/\d.row<=4398046511104)
 (t: ∀u∈g,∀k∈u.1,k.more.length<=1000000) (v: (ld g f d).length<=140737488355328):
 ay 70 [.slice a i j,fc f,fc d] e (Pure (bU<|ld g f d) e):=by
 refine ba func70 ntmps70 ?_;refine ap ?_;intro D E F;refine av ?_;intro G H I;refine aH ?_;intro c J K;refine aY ?_;refine iL (H':=ag e [] [yj c none ⟨none,0,[]⟩]) (bK (ι:=A_) (v:=λ_=> .tuple #[]) (l':=λb=>[yj c b.bt b.z]) (ok:=λb=>(b.bt=none\/b.bt=some ⟨c,0,none⟩)/\b.z.l=ld g f d) (l0:=[yj c none ⟨none,0,[]⟩]) ah (λw m=>Mc w (λb:A_=>yj c b.bt b.z) _ ⟨none,⟨none,0,[]⟩⟩ a i j g (o.off m Has.head) f d _ c _ cL (Yl c 140737488355328<|cC _) p q r s t v (m.cb ah) ⟨.inl rfl,rfl⟩) λb n=>?_) (Sub.refl _) λk x=>((x.e4 5 cI).close (l:=[aG c (nt none<|hR.val ⟨none,0,[]⟩) 104,hR.aD ⟨none,0,[]⟩]) ah).aF ah;refine a7 ?_;refine uH (v:=bU<|ld g f d) (H':=ag e [] []) (hargs:=rfl) (λy A=>(by have h:=Yj e c _ y<|Ym ((A.open (l:=[aG c (nt b.bt b.z.val) 104,b.z.aD]) bH.head).aF ah) n.1;rw[n.2] at h;exact h.mono λL M h=>⟨h.1,⟨h.2,by simp[aK],by simp,by simp[aK]⟩⟩)) ?_;refine aI ?_;exact λN C=>⟨rfl,C.ext⟩
abbrev yk(a:e7):Chunk:=aZ [aG f [a.val] 72,a.aD]
def Yn(y:D<=1000000000):A9 154 f D (yk f) (λc h=>h.l.length=c.length):=by
 intro j c b d q k z e;dsimp only at k e ⊢
 have e:=e.k2
 refine Calls.mono ?_ λA r i=>aX.star (l:=[aG f [b.val] 72,b.aD]) (v:=λ_:e7=>Value.tuple #[]) (l':=λg=>[aG f [g.val] 72,g.aD]) (ok:=λg=>g.l.length=(c++d).length) i;obtain⟨m,n⟩:=q;refine calls (n:=14) func154 rfl ntmps154 rfl ?_;refine dh (H':=ag j (aK [aG f [b.val] 72,b.aD]) [aG f [b.val] 72,b.aD]) (ap ?_) (Sub.refl _) e.start;intro o B C;refine be ?_;refine cd (ι:=Nat × e7) (λa=>[(2,ptr f),(4,ptr o),(6,ad (d.length:Int)),(7,ad (a.1 :Int))]) (λa=>ag j (aK [aG f [b.val] 72,b.aD]) [aG o [ad m,ad n] 44,aG f [a.2.val] 72,a.2.aD]) (λa=>a.1<=d.length/\a.2.l.length=c.length+a.1) (λa=>d.length - a.1) ?_ ?_;exact λr s=>⟨(0,b),⟨b4 _,k⟩,(da rfl rfl rfl rfl),s⟩
 rintro⟨h,p⟩ ⟨t,u⟩;dsimp only at t u ⊢
 refine (aE) (λv=>aU ?_) λv=>aI ?_;refine ef (E:=c1) ⟨_,_⟩ eR rfl rfl rfl rfl rfl λE F G=>fu (E:=c1) eR rfl rfl rfl bx (λ_ _=>l4) cg cg λw x=>aY ?_;exact bv (h+1,⟨w,x,p.l++[⟨m,n⟩]⟩) ⟨by dsimp only;omega,by dsimp only;rw[b3,kt];omega⟩ bL b5 λ_ i=>i.aF ah;exact bT p (by rw[b3];omega)
def Yo(i j:Nat)(g:List bq)(n:dT e B a i j g)(f c:bG)(o:i<=100000)(p:0<=f.row/\f.row<=4398046511104)(q:0<=c.dL)(r:0<=c.row/\c.row<=4398046511104)
 (s: ∀t∈g,∀k∈t.1,k.more.length<=1000000) (u: (ld g f c).length<=1000000000):
 ay 85 [.slice a i j,fc f,fc c] e (aX (λb:e7=>b.val) [] (λb=>[b.aD]) (λb=>b.l.length=(ld g f c).length) e):=by
 refine ba func85 ntmps85 ?_;refine ap ?_;intro z A C;refine av ?_;intro D E F;refine aI ?_;refine sP NT rfl λd G H=>aY ?_;refine iL (H':=ag e [] [yk d ⟨none,0,[]⟩]) (bK (ι:=e7) (v:=λ_=> .tuple #[]) (l':=λh=>[yk d h]) (ok:=λh=>h.l.length=(ld g f c).length) (l0:=[yk d ⟨none,0,[]⟩]) ah (λv m=>Mc v (yk d) (λw h=>h.l.length=w.length) ⟨none,0,[]⟩ a i j g (n.off m Has.head) f c _ d _ cL (Yn d 1000000000<|cC _) o p q r s u (m.cb ah) rfl) λb x=>?_) (Sub.refl _) λk y=>((y.e4 44 c1).close (l:=[aG d [e7.val ⟨none,0,[]⟩] 72,e7.aD ⟨none,0,[]⟩]) ah).aF ah;refine ap ?_;refine uI (lc:=[aG d [b.val] 72,b.aD]) bx<|aU ?_;exact jG b x
def wb :Bool:=decide<|i.drop (i.length - J.length)=J
def Yp{a:List UInt8}(b:wb X a=true):a.length<=X.length:=by
 have c:=a_ List.length<|bg b
 rw[fL] at c
 omega
def Yq(h:i.length<=9223372036854775807)(j:J.length<=9223372036854775807):ay 215 [bU i,bU J] e (λa f=>a= .returned (.bool<|wb i J)/\Ext [] e f):=by
 refine ba func215 ntmps215 ?_;refine cn ?_;refine bl 10 rfl (λb=>?_) λb=>?_;have d:=bg b
 refine bP ?_;refine hB (r:=((i.length - J.length:Nat):Int)) rfl rfl rfl (by rw[wrap64 aa aa];omega) ?_;refine av ?_;refine sR (i.length - J.length) underlying9 rfl rfl rfl bo aa<|be ?_;exact λg c=>⟨rfl,c.ext⟩
 have d:=bm b
 refine dO ?_;intro g c;refine⟨?_,c.ext⟩;rw[show wb i J=false from Bool.eq_false_iff.2 λa=>d (by have:=Yp a;omega)]
def p0 :List UInt8:=(i.reverse.dropWhile (· == 10)).reverse
def Yr{s:List UInt8}(b:wb s [10]=true):p0 (s.take<|s.length - 1)=p0 s:=by
 have c:=bg b
 have a:s=s.take (s.length - 1)++[10]:=by
  conv=>lhs;rw[<-iJ (s.length - 1) s]
  exact a_ _ c
 generalize s.take (s.length - 1)=d at a
 subst a;unfold p0;rw[wu];simp
def Ys{s:List UInt8}(c:wb s [10]=false):p0 s=s:=by
 rcases List.eq_nil_or_concat s with rfl | ⟨b,a,rfl⟩
 rfl
 unfold p0;rw[List.concat_eq_append,wu];rw[show [a].reverse++b.reverse=a::b.reverse from rfl,List.dropWhile_cons_of_neg,List.reverse_cons,List.reverse_reverse];intro d;have e:a=10:=by simpa using d
 subst e;have:=bm c
 exact this au
def Yt(a:i.length<=9223372036854775807)(b:J.length<=9223372036854775807):ay 135 [bU i,bU J] e (λc d=>c= .returned (.bool<|wb i J)/\Ext [] e d):=by
 refine ba func135 ntmps135 ?_;refine a6 ?_;refine bF (Yq · i J a b)<|aI ?_;exact λg f=>⟨rfl,f.ext⟩
def Yu(k:i.length<=9223372036854775807):ay 73 [bU i] e (λf c=>f= .returned (bU<|p0 i)/\Ext [] e c):=by
 refine ba func73 ntmps73 ?_;refine aU ?_;refine cd (ι:=List UInt8) (λa=>[(0,bU a)]) (λ_=>ag e [] []) (λa=>a.length<=i.length/\p0 a=p0 i) (λa=>a.length) ?_ ?_;exact λc g=>⟨i,⟨cC _,rfl⟩,(ut rfl),g⟩
 rintro a ⟨l,d⟩;refine a7 ?_;refine bF (hargs:=rfl) (Yt · a [10] aa aW) ?_;refine (aE) (λb=>?_) λb=>?_;have m:0<a.length:=by
  cases a with
  | nil=>exact absurd b aW
  | cons _ _=>exact Nat.succ_pos _
 refine aU ?_;refine hB (r:=((a.length - 1 :Nat):Int)) rfl rfl rfl (by rw[wrap64 aa aa];omega) ?_;refine sS (a.length - 1) underlying9 rfl rfl rfl bo aa<|ap ?_;exact bv (a.take<|a.length - 1) ⟨by rw[dR];omega,by rw[Yr (bI b),d]⟩ (by rw[dR];omega) b5 λ_ h=>h;rw[<-d,Ys<|bJ b];refine cn ?_;exact λn j=>⟨rfl,j.ext⟩
open Go.MapKept
def q_ :Prop:= ∀a∈E.toList,∃b c:Int,a.key= .int .u64 b/\b≠0/\a.val=ad c
def q_.key(b:q_ j): ∀a∈j.toList,IsKey (.int .u64) a.key:=λa c=>by
 obtain⟨e,f,d,_⟩:=b a c;rw[d];exact rfl
def k3(g:Nat)(es:Array MapEntry)(cV:Nat):Chunk where
 cT:=[g]
 pred w:=w.heap[g]? = some (.map es cV)
 low w h k a:=by
  simp only[e0] at a
  subst a
  exact (lr.1 h).1
 loc w b h ao:=by rw[h g au];exact ao
def foldI :Int:=match Instr.findNow (.int .u64) (.int .u64 Y) E.toList 0 with | some (some (_,.int .i64 a))=>a | _=>0
def Yv(b:q_ j):foldI j 0=0:=by
 unfold foldI;rcases findNow_spec (d:= .int .u64) (k:= .int .u64 0) rfl j.toList 0 b.key with ⟨c,_⟩ | ⟨h,d,c,e,a⟩
 rw[c];obtain⟨i,k,f,g,_⟩:=b d<|cR e;rw[f] at a
 injection a with _ a
 exact absurd a g
def Yw{H:World->Prop}{mt :TypeId}{ck:Nat}{es:Array MapEntry}{k:Int}(f:P.underlying mt=some (.map v L))(c:P.underlying v=some (.int .u64))(p:dm P L (z0))(g:q_ es)(q:Nat.blt d n=true)
 (i:bi l C=some (.map<|some h)) (j:bi l K=some (.int .u64 k)) (m: ∀a,H a->a.heap[h]? = some (.map es ck))
 (r:aM P n ops Q rest ((d,ad<|foldI es k)::l) H):aM P n ops Q (⟨some d,.lookup mt C K false,ty,pos,bf,none⟩::rest) l H:=by
 obtain⟨y,s,t,_⟩:=p.inf;refine uv _ q (λz a e o=>?_) r;rcases findNow_spec (d:= .int .u64) (k:= .int .u64 k) rfl es.toList 0 g.key with ⟨b,_⟩ | ⟨A,u,b,w,B⟩
 simp[execOp,e C _ i,e K _ j,Instr.lookup,run_underlying f,MapKept.run_getObj_map<|m a o,MapKept.run_checkKey (k:= .int .u64 k) c rfl,MapKept.run_findKey c b,uu s t,Result.andThen,foldI,b]
 obtain⟨D,E,F,G,x⟩:=g u<|cR w;simp[execOp,e C _ i,e K _ j,Instr.lookup,run_underlying f,MapKept.run_getObj_map<|m a o,MapKept.run_checkKey (k:= .int .u64 k) c rfl,MapKept.run_findKey c b,Result.andThen,foldI,b,x]
def ag.Ba(d:ag b S cs q){a:Nat}{c:Array MapEntry}(e:bC cs (k3 h j G) (k3 h c a) x):ag b S x { q with heap:=q.heap.setIfInBounds h (.map c a) }:=by
 have g:q.heap[h]? = some (.map j G):=d.has e.has
 have f:=heap_set (o':= .map c a) g
 exact d.iM e ⟨rfl,rfl,rfl,by simp,λi _ k=>f.2 i<|by simpa [k3] using k⟩ f.1 (by simp[k3]) (by simp[k3])
def Mf{g:Operand}{mt :TypeId}{k d:Int}(w:P.underlying mt=some (.map v L))(i:P.underlying v=some (.int .u64))(p:q_ j)(x:k≠0)
 (a:bi l C=some (.map<|some h)) (y:bi l K=some (.int .u64 k)) (z:bi l g=some (ad d)) (q: ∀f m,bC cs (k3 h j G) (k3 h f m)<|t f m)
 (A: ∀f m,q_ f->aM P n ops Q rest l (ag b S<|t f m)):aM P n ops Q (⟨none,.mapUpdate mt C K g,ty,pos,bf,none⟩::rest) l (ag b S cs):=by
 refine wA λI D c r=>?_
 have o:D.heap[h]? = some (.map j G):=r.has (q j G).has
 rcases findNow_spec (d:= .int .u64) (k:= .int .u64 k) rfl j.toList 0 p.key with ⟨s,_⟩ | ⟨B,e,s,E,F⟩
 refine⟨_,?_,(A (j.push ⟨.int .u64 k,ad d,G⟩) (G+1) λC a=>?_).at<|r.Ba<|q _ _⟩;simp[execOp,c C _ a,c K _ y,c g _ z,Instr.mapUpdate,run_underlying w,MapKept.run_getObj_map o,MapKept.run_checkKey (k:= .int .u64 k) i rfl,MapKept.run_findKey i s,MapKept.run_setObj_map _ o,Result.andThen]
 simp only[Array.toList_push,dq,e0] at a
 rcases a with a | rfl
 exact p C a;exact⟨k,d,rfl,x,rfl⟩;have H:j[B]? = some e:=by simpa using E
 refine⟨_,?_,(A (j.modify B λe=>{ e with key:= .int .u64 k,val:=ad d }) G λC a=>?_).at<|r.Ba<|q _ _⟩;simp[execOp,c C _ a,c K _ y,c g _ z,Instr.mapUpdate,run_underlying w,MapKept.run_getObj_map o,MapKept.run_checkKey (k:= .int .u64 k) i rfl,MapKept.run_findKey i s,H,F,run_keyThatStays (d:= .int .u64) (k:= .int .u64 k) rfl,MapKept.run_setObj_map _ o,Result.andThen]
 obtain⟨J,u⟩:=List.mem_iff_getElem?.1 a;rw[Array.getElem?_toList,rg] at u
 split at u
 obtain⟨M,_,rfl⟩:=sO.1 u;exact⟨k,d,rfl,x,rfl⟩;exact p C<|cR (by rwa [Array.getElem?_toList])
def Mg{mt :TypeId}{k:Int}(q:P.underlying mt=some (.map v L))(c:P.underlying v=some (.int .u64))(i:q_ j)
 (d:bi l C=some (.map<|some h)) (r:bi l K=some (.int .u64 k)) (m: ∀a e,bC cs (k3 h j G) (k3 h a e)<|t a e)
 (s: ∀a e,q_ a->aM P n ops Q rest l (ag b S<|t a e)):aM P n ops Q (⟨none,.call ⟨.builtin .delete,#[C,K],#[mt,v]⟩,ty,pos,bf,none⟩::rest) l (ag b S cs):=by
 refine GE λy w f o=>?_
 have g:w.heap[h]? = some (.map j G):=o.has (m j G).has
 rcases findNow_spec (d:= .int .u64) (k:= .int .u64 k) rfl j.toList 0 i.key with ⟨p,_⟩ | ⟨u,z,p,A,B⟩
 refine⟨.tuple #[],_,?_,(s j G i).at<|o.Ba<|m _ _⟩;simp[execOp,resolve,invoke,builtin,f C _ d,f K _ r,Builtin.delete_,run_underlying q,MapKept.run_getObj_map g,MapKept.run_checkKey (k:= .int .u64 k) c rfl,MapKept.run_findKey c p,MapKept.run_setObj_map _ g,Result.andThen]
 refine⟨.tuple #[],_,?_,(s (j.eraseIdxIfInBounds u) G λC d=>i C ?_).at<|o.Ba<|m _ _⟩;simp[execOp,resolve,invoke,builtin,f C _ d,f K _ r,Builtin.delete_,run_underlying q,MapKept.run_getObj_map g,MapKept.run_checkKey (k:= .int .u64 k) c rfl,MapKept.run_findKey c p,MapKept.run_setObj_map _ g,Result.andThen]
 have x: (j.eraseIdxIfInBounds u).toList.Sublist j.toList:=by
  unfold Array.eraseIdxIfInBounds;split
  simp only[Array.toList_eraseIdx];exact List.eraseIdx_sublist _ _
  exact List.Sublist.refl _
 exact x.subset d
def Yx(g:Nat.blt d n=true)(h: ∀a,b.heap.size<=a->(∀f∈aK cs,f<a)->aM P n ops Q rest ((d,.map<|some a)::l) (ag b S<|k3 a #[] 0::cs)):
 aM P n ops Q (⟨some d,.makeMap v none,ty,pos,bf,none⟩::rest) l (ag b S cs):=by
 refine iv g λj c k e=>⟨.map<|some c.heap.size,c.alloc<|.map #[] 0,?_,(h c.heap.size e.ext.size λf i=>e.lt i).at<|e.add (Ext.alloc _ _ _) (heap_alloc c _).1 (by simp[k3])<|by simp[k3]⟩
 simp[execOp,Instr.makeMap,Result.andThen]
structure cm where
 g:Nat
 top:Int
 dP:Bool
 cB:Nat
 p:ck
 T:bM
 st:dp
 dv:iY
 dM:Nat
 es:Array MapEntry
 cV:Nat
abbrev wc(s:cm):List Value:=[ad s.top,.bool s.dP,ptr s.cB,ptr s.st.g,ptr s.dv.g,.map<|some s.dM]
abbrev cm.aq(s:cm):Chunk:=aG s.g (wc s) 89
abbrev dl(s:cm):List Chunk:=[s.aq,aZ<|fl s.p s.cB s.p.g s.T,aZ<|du s.st,aZ<|gM s.dv,k3 s.dM s.es s.cV]
abbrev cm.az(s:cm):bQ:=(firstT s.T).az
def cm.rows(s:cm):Int:=s.az.r.n+(s.az.s.l.length:Int)
structure dn (s:cm) (m:Nat) (N:Int):Prop where
 par:gK s.p
 T:cK s.cB s.az.r.room m s.T
 st:gW s.st N
 dv:tT s.dv
 mp:q_ s.es
 top:0<=s.top/\s.top<=1000000
def cK.first(a:cK h k G Z):eP (firstT Z):=by
 unfold firstT;split
 exact a.br;exact a.am
def dn.small{s:cm}(a:dn s h k):s.az.s.l.length<=30/\s.az.al<=40/\s.az.r.room<=100:=a.T.first.small
def dn.ring{s:cm}(a:dn s h k):0<=s.az.r.n/\s.az.r.n<=100:=by
 have b:dx s.az.r:=a.T.first.g.r
 have c:=b.n
 have d:=b.len
 have e:=a.small
 exact⟨c.1,aa⟩
section
variable {w:World}{s:cm}
def og(a: (aZ<|dl s).pred w):s.aq.pred w:=a _ au
def we(a: (aZ<|dl s).pred w): (aZ<|fl s.p s.cB s.p.g s.T).pred w:=a _ au
def E4(a: (aZ<|dl s).pred w): (aZ<|du s.st).pred w:=a _ au
def sq(a: (aZ<|dl s).pred w): (eu s.cB s.p.g s.T).pred w:=we a _ au
def Bb(a: (aZ<|dl s).pred w): (aZ<|a8<|firstT s.T).pred w:=by
 unfold firstT;split
 exact we a _ au;exact we a _ au
def yl(a: (aZ<|dl s).pred w): (firstT s.T).aq.pred w:=Bb a _ au
def Bc(a: (aZ<|dl s).pred w):s.az.aq.pred w:=Bb a _ au
def Yy(a: (aZ<|dl s).pred w):s.az.r.aq.pred w:=((Bb a _ au: (aZ<|cP s.az.r).pred w)) _ au
def Yz(a: (aZ<|dl s).pred w): (k3 s.dM s.es s.cV).pred w:=a _ au
end
def ym(w:World)(s:cm)(a: (aZ<|dl s).pred w):ay 31 [ptr s.g] w (Pure (ptr s.cB) w):=by
 have b:=og a
 refine ba func31 ntmps31 ?_;refine gR ?_;refine bb yP rfl rfl (λe c=>c.cc b (by (simp;done)) rfl) ?_;refine aI ?_;exact λf d=>⟨rfl,d.ext⟩
def Mh(w:World)(s:cm)(c: (aZ<|dl s).pred w):ay 90 [ptr s.g] w (Pure (ad (s.az.s.l.length:Int)) w):=by
 have d:=og c
 refine ba func90 ntmps90 ?_;refine be ?_;refine bb yP rfl rfl (λh e=>e.cc d (by (simp;done)) rfl) ?_;refine bd (λa b=>pK a s.cB s.p.g s.T<|sq<|Chunk.df _ c b.ext) ?_;refine bd (λa b=>kc a (firstT s.T)<|yl<|Chunk.df _ c b.ext) ?_;refine bd (λa b=>oK a s.az<|Bc<|Chunk.df _ c b.ext) ?_;refine aI ?_;exact λi f=>⟨rfl,f.ext⟩
def E5(w:World)(s:cm)(d:dn s h k)(c: (aZ<|dl s).pred w):ay 134 [ptr s.g] w (Pure (ad s.rows) w):=by
 have f:=og c
 have i:=d.small
 have j:=d.ring
 refine ba func134 ntmps134 ?_;refine aY ?_;refine bd (λb a=>ym b s<|Chunk.df _ c a.ext) ?_;refine bd (λb a=>pK b s.cB s.p.g s.T<|sq<|Chunk.df _ c a.ext) ?_;refine bd (λb a=>kc b (firstT s.T)<|yl<|Chunk.df _ c a.ext) ?_;refine aH ?_;refine bd (λb a=>oL b s.az (Bc<|Chunk.df _ c a.ext)<|Yy<|Chunk.df _ c a.ext) ?_;refine av ?_;refine bd (λb a=>oK b s.az<|Bc<|Chunk.df _ c a.ext) ?_;refine aH ?_;exact λl e=>⟨rfl,e.ext⟩
def Bd(w:World)(s:cm)(a:dn s h k)(b: (aZ<|dl s).pred w):ay 72 [ptr s.g] w (Pure (fc ⟨s.rows,0⟩) w):=by
 refine ba func72 ntmps72 ?_;refine ap ?_;intro f i j;refine aI ?_;refine bd (λc d=>E5 c s a<|Chunk.df _ b d.ext) ?_;refine aH ?_;exact λl e=>⟨rfl,e.ext⟩
def cm.most(s:cm)(a:Nat):Int:=max 0<|(a:Int) - (s.az.s.l.length:Int)
def Be(w:World)(s:cm)(b:dn s h k)(c: (aZ<|dl s).pred w)(d:Option Addr)(a e:Nat)(l:a<=1000000):ay 153 [ptr s.g,.slice d a e] w (Pure (ad<|s.most a) w):=by
 have m:=b.small
 refine ba func153 ntmps153 ?_;refine be ?_;refine bd (λf i=>Mh f s<|Chunk.df _ c i.ext) ?_;refine aU ?_;exact λn j=>⟨rfl,j.ext⟩
def E6(w:World)(s:cm)(b:dn s h k)(c: (aZ<|dl s).pred w)(d:Option Addr)(n e:Nat)(j:n<=1000000):ay 84 [ptr s.g,.slice d n e] w (gu (λa:Int=>ad a) (λa=>0<=a/\a<=s.most n) w):=by
 have l:=og c
 have t:=b.small
 have u:0<=s.most n:=by unfold cm.most;omega
 refine ba func84 ntmps84 ?_;refine b6 ?_;refine bb pf rfl rfl (λv m=>m.cc l (by (simp;done)) rfl) ?_;refine aA ?_;focus (refine cD rfl (λo=>?_) λo=>?_;refine a7 ?_;refine bd (λf i=>Be f s b (Chunk.df _ c i.ext) d n e j) ?_;refine aH ?_;rotate_left;refine ap ?_;refine bN [0,1,2,3,4,5,6] 1 [[(7,false,[8,9,10])]] ?_;refine a7 ?_;refine aO rfl (λx p=>(bb bY rfl rfl (λy q=>by subst q;exact p.cc l (by (simp;done)) rfl) aJ)) ?_;refine a7 ?_;refine bd (λf i=>Be f s b (Chunk.df _ c i.ext) d n e j) ?_;refine a6 ?_;all_goals (intro z r;exact aX.cf _ aa rfl<|by simpa [aK] using r))
