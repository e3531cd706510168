/- part 9 of the proof -/
import Derived.Test.YtnfmgboendlmaaaGreatDoorQ08
set_option linter.all false
namespace Go.Proofs.YtnfmgboendlmaaaGreatDoor.Mq
open RowKit Tryz
variable {v:Int × Int}{s:List Nat}{f m:Nat}{g:Nat->Prop}{e:Option Addr}{j:Type}{h:World}(a:World)(k:List (Int × Int))(d:Nat->Prop)(l:Int)(n:Value)(b:Option Addr)(p:Bool)(i o:Nat)(u:b1 j)
structure dH where
 cM:Int
 fn:Int
 aq:Int
 aR:Int
 bB:Int
structure aL where
 r:Int
 more:List UInt8
 half:Int
 at_:dH
abbrev dH.enc(a:dH):List Value:=[ad a.cM,ad a.fn,ad a.aq,ad a.aR,ad a.bB]
abbrev aL.enc(a:aL):List Value:=[.int .i32 a.r,bU a.more,ad a.half,ad a.at_.cM,ad a.at_.fn,ad a.at_.aq,ad a.at_.aR,ad a.at_.bB]
def bW:b1 aL:=⟨aL.enc,8,λ_=>rfl,λ_=>by repeat (first | exact aV.nil | refine aV.cons rfl ?_)⟩
structure rL where
 A:Option Addr
 n:Nat
 c:Nat
 cont:Bool
abbrev rL.enc(a:rL):List Value:=[.slice a.A a.n a.c,.bool a.cont]
def mS:b1 rL:=⟨rL.enc,2,λ_=>rfl,λ_=>aV.cons rfl<|aV.cons rfl aV.nil⟩
structure bG where
 row:Int
 dL:Int
 deriving DecidableEq
abbrev bG.enc(a:bG):List Value:=[ad a.row,ad a.dL]
def c1:b1 bG:=⟨bG.enc,2,λ_=>rfl,λ_=>aV.cons rfl<|aV.cons rfl aV.nil⟩
def oJ:b1 (Int × Int):=⟨λa=>[ad a.1,ad a.2],2,λ_=>rfl,λ_=>aV.cons rfl<|aV.cons rfl aV.nil⟩
def ct:b1 Int:=⟨λa=>[ad a],1,λ_=>rfl,λ_=>aV.cons rfl aV.nil⟩
variable {q:dH}
def dH.ext'{b:dH}(a:q.cM=b.cM)(c:q.fn=b.fn)(d:q.aq=b.aq)(e:q.aR=b.aR)(f:q.bB=b.bB):q=b:=by
 cases q;cases b;simp_all
def aL.ext'{a b:aL}(c:a.r=b.r)(d:a.more=b.more)(e:a.half=b.half)(f:a.at_=b.at_):a=b:=by
 cases a;cases b;simp_all
instance:DecidableEq dH:=λa b=>
 if h:a.cM=b.cM/\a.fn=b.fn/\a.aq=b.aq/\a.aR=b.aR/\a.bB=b.bB then isTrue (dH.ext' h.1 h.2.1 h.2.2.1 h.2.2.2.1 h.2.2.2.2)
 else isFalse λe=>h (by subst e;exact⟨rfl,rfl,rfl,rfl,rfl⟩)
instance:DecidableEq aL:=λa b=>
 if h:a.r=b.r/\a.more=b.more/\a.half=b.half/\a.at_=b.at_ then isTrue (aL.ext' h.1 h.2.1 h.2.2.1 h.2.2.2)
 else isFalse λe=>h (by subst e;exact⟨rfl,rfl,rfl,rfl⟩)
def uL(a b:aL):eqv a.enc b.enc=decide (a=b):=by
 rw[Bool.eq_iff_iff];simp only[eqv,rA,dK,eQ,rh,bs];constructor
 rintro⟨c,d,e,f,g,h,i,j⟩;exact aL.ext' c (by simpa using d) e<|dH.ext' f g h i j
 rintro rfl;simp
def B2(a b:bG):eqv a.enc b.enc=decide (a=b):=by
 rw[Bool.eq_iff_iff];simp only[eqv,rA,dK,eQ,rh];constructor
 rintro⟨c,d⟩;cases a;cases b;simp_all
 rintro rfl;simp
def hp(a:dH):aL:=⟨0,[],0,a⟩
def fi:dH:=⟨0,0,0,0,0⟩
def eo:aL:=hp fi
def s_(a b:aL):Bool:=decide (a.half=1) && decide (a= { b with half:=1 })
def j6(a b:aL):Bool:=decide (a.half=1) && decide (b.half=2) && s_ a b
def wR(a:aL):List aL->Bool
 | []=>false
 | d::_=>j6 a d
def b7:List aL->List aL
 | []=>[]
 | [c]=>[if c.half=0\/c.half=3 then c else hp c.at_]
 | c::a::b=>if c.half=0 then c::b7 (a::b) else if j6 c a then c::a::b7 b else hp c.at_::b7 (a::b)
def hq(a:List aL): (b7 a).length=a.length:=by
 fun_induction b7 a <;> simp_all
def mT(a:List aL):Nat:=((a.reverse.dropWhile λb=>decide<|b.r=0).length)
def OA(a:List aL):mT a<=a.length:=by
 unfold mT;have:=(List.dropWhile_sublist (λb:aL=>decide<|b.r=0) (l:=a.reverse)).length_le
 simpa using this
def B3(a:List aL):List aL:=a.take<|mT a
def ta: ∀(l:List aL),b7 (b7 l)=b7 l:=by
 intro l;fun_induction b7 l with
 | case1=>rfl
 | case2 d=>
  split
  rename_i b;simp[b7,b]
  simp[b7,hp]
 | case3 d c l b a=>
  have e:b7 (c::l)≠[]:=λf=>by have:=hq<|c::l;rw[f] at this;simp at this
  obtain⟨i,j,g⟩:=List.exists_cons_of_ne_nil e;rw[g] at a ⊢
  simp only[b7,b,if_true,a]
 | case4 d c l b h a=>simp[b7,b,h,a]
 | case5 d c l b h a=>
  have e:b7 (c::l)≠[]:=λf=>by have:=hq<|c::l;rw[f] at this;simp at this
  obtain⟨i,j,g⟩:=List.exists_cons_of_ne_nil e;rw[g] at a ⊢
  simp only[b7,hp,if_true,a]
def OB(a:List aL)(b:aL):mT (a++[b])=if b.r=0 then mT a else a.length+1:=by
 unfold mT;rw[wu,List.reverse_singleton,ul,List.dropWhile_cons];by_cases c:b.r=0
 simp[c]
 simp[c]
def GQ(b:dH):ay 233 [.agg b.enc.toArray] a (λc d=>c= .returned (.agg (hp b).enc.toArray)/\Ext [] a d):=by
 refine ba func233 ntmps233 ?_;refine ap ?_;intro f g h;refine av ?_;intro i j k;refine bP ?_;exact λl e=>⟨rfl,e.ext⟩
def OC(b c:aL):ay 232 [.agg b.enc.toArray,.agg c.enc.toArray] a (λf g=>f= .returned (.bool<|s_ b c)/\Ext [] a g):=by
 refine ba func232 ntmps232 ?_;refine ap ?_;intro i j k;refine av ?_;intro l m n;refine dO ?_;focus (refine bl 9 rfl (λd=>?_) λd=>?_;have e:=bg d;refine aI ?_;refine rC uA rfl rfl rfl ak (uL b { c with half:=1 })<|aH ?_;rotate_left;have e:=bm d;refine a6 ?_;all_goals (intro o h;exact⟨by simp[s_,e],h.ext⟩))
def y9(b:List aL)(L:a.ownsRow 0 81 8 n b.length (bW.all b))(W:b.length<=1000000):
 ay 157 [n] a (λM o=>M= .returned (.tuple #[])/\Ext n.ownBlock.toList a o/\o.ownsRow 0 81 8 n b.length (bW.all (b7 b))):=by
 refine calls (n:=67) func157 rfl ntmps157 rfl ?_
 refine dh (H':=ag a (own 81 8 n b.length (bW.all b)).cT [own 81 8 n b.length (bW.all b)]) (aH ?_) (Sub.refl _) (λh N=>ag.sV N L (wF _ _ _ _ _))
 refine cd (ι:=List aL × List aL) (λg=>[(0,n),(2,ad (g.1.length:Int))]) (λg=>ag a (own 81 8 n b.length (bW.all b)).cT [own 81 8 n b.length (bW.all (g.1++g.2))]) (λg=>b7 b=g.1++b7 g.2/\g.1.length+g.2.length=b.length) (λg=>g.2.length) ?_ ?_
 ·exact λa z=>⟨([],b),⟨rfl,by simp⟩,(ig rfl rfl),z⟩
 ·rintro⟨e,rest⟩ ⟨t,i⟩
  dsimp only at t i ⊢
  refine jd (v:=n) Has.head (λX p O Y Z Za P=>?_)
  subst O
  refine (aE) (λQ=>?_) (λQ=>aI ?_)
  ·cases rest with
   | nil=>simp at i;omega
   | cons c rest=>
   obtain⟨q,rfl⟩:=P aa
   have R: (e++c::rest)[e.length]? = some c:=by simp
   refine aY ?_
   refine bE dj rfl rfl rfl bo bo aa (cE gh rfl rfl (rfl) (λo m B C D=>m.mH (E:=bW) Has.head R B C D) (av ?_))
   intro A Zb Zc
   refine aI ?_
   have H: (((e.length:Int)=(b.length:Int) - 1)↔rest=[]):=by
    constructor
    ·intro f;simp at i;exact jX aa
    ·intro f;subst f;simp at i;omega
   refine mG ([(20,.bool (decide (c.half=0) || (decide (c.half=3) && decide ((e.length:Int)=(b.length:Int) - 1)))),(0,.slice (some ⟨q,0,none⟩) b.length p),(2,ad (e.length:Int)),(3,.pointer (some ⟨A,0,none⟩))]) (ag a (own 81 8 (.slice (some ⟨q,0,none⟩) b.length p) b.length (bW.all b)).cT [aG A c.enc 81,own 81 8 (.slice (some ⟨q,0,none⟩) b.length p) b.length (bW.all (e++c::rest))]) (aI ?_) (av ?_)
   ·refine bl 24 rfl (λr=>?_) (λr=>?_)
    ·have E:=bg r
     refine cn ?_
     exact iQ (Sub.cons (a_ (λh=>some (Value.bool h)) (by simp[E])) (ed rfl rfl rfl)) (λ_ f=>f)
    ·have E:=bm r
     refine aY ?_
     focus (refine bl 28 rfl (λj=>?_) (λj=>?_);have I:=bg j;refine dO ?_;rotate_left;have I:=bm j;refine be ?_;all_goals (exact iQ (Sub.cons (a_ (λh=>some (Value.bool h)) (by simp[E,I])) (ed rfl rfl rfl)) (λ_ f=>f)))
   ·refine cD rfl (λk=>a6 ?_) (λk=>?_)
    ·have u:b7 (c::rest)=c::b7 rest:=by
      rw[ny,dK] at k
      simp only[eQ] at k
      cases rest with
      | nil=>rcases k with f | ⟨f,_⟩ <;> simp[b7,f]
      | cons d S=>
       rcases k with f | ⟨f,v⟩
       ·simp[b7,f]
       ·exact absurd (H.1 v) au
     refine bv (e++[c],rest) ⟨by rw[t,u];simp,by simp at i ⊢;omega⟩ au (Sub.cons bo (Sub.cons (by simp[look]) Sub.nil)) (λo m=>?_)
     have:=m.rem bH.head
     simpa using this
    ·rw[Bool.or_eq_false_iff] at k
     have F:c.half≠0:=bm k.1
     refine av ?_
     refine mG ([(36,.bool (wR c rest)),(0,.slice (some ⟨q,0,none⟩) b.length p),(2,ad (e.length:Int)),(3,.pointer (some ⟨A,0,none⟩))]) (ag a (own 81 8 (.slice (some ⟨q,0,none⟩) b.length p) b.length (bW.all b)).cT [aG A c.enc 81,own 81 8 (.slice (some ⟨q,0,none⟩) b.length p) b.length (bW.all (e++c::rest))]) ?_ (av ?_)
     ·by_cases r:c.half=1
      ·cases rest with
       | nil=>
        have j:decide ((e.length:Int)+1<(b.length:Int))=false:=bJ (by simp at i;omega)
        refine bN [0,1,2,3,4,5,6,7,8,9,10,11,12,13,14,15,16,17,18,19,20,21,22,23,24,25,26,27,28] 0 [[]] ?_
        refine GO ?_
        exact iQ (da rfl rfl rfl rfl) (λ_ f=>f)
       | cons d rest=>
        have j:decide ((e.length:Int)+1<(b.length:Int))=true:=bI (by simp at i;omega)
        have Zd:e.length+1<b.length:=by simp at i;omega
        have G: (e++c::d::rest)[e.length+1]? = some d:=by simp[i_]
        by_cases s:d.half=2
        ·refine bN [0,1,2,3,4,5,6,7,8,9,10,11,12,13,14,15,16,17,18,19,20,21,22,23,24,25] 1 [[(26,false,[27,28])]] ?_
         refine cZ ?_
         refine aO rfl (λw l=>(bO rfl rfl j (bE (q:=e.length+1) dj rfl rfl rfl bo aa aa aJ))) ?_
         refine av ?_
         refine aO rfl (λw l=>(bO rfl rfl j (bb bY rfl rfl (λJ x=>by subst x;exact l.mH (E:=bW) cz G 2 _ rfl) aJ))) ?_
         refine aU ?_
         refine aO rfl (λw l=>(bO rfl rfl (bI s) (bE (q:=e.length+1) dj rfl rfl rfl bo aa aa aJ))) ?_
         refine aO rfl (λw l=>(bO rfl rfl (bI s) (cE gh rfl rfl (rfl) (λJ x B C D=>by subst x;exact l.mH (E:=bW) cz G B C D) aJ))) ?_
         refine ap ?_
         refine bF (OC · c d) ?_
         refine aI ?_
         exact iQ (Sub.cons (a_ (λh=>some (Value.bool h)) (by simp[wR,j6,r,s])) (ed rfl rfl rfl)) (λ_ f=>f)
        ·refine bN [0,1,2,3,4,5,6,7,8,9,10,11,12,13,14,15,16,17,18,19,20,21,22,23,24,25,26,27,28] 0 [[]] ?_
         refine cZ ?_
         refine aO rfl (λw l=>(bO rfl rfl j (bE (q:=e.length+1) dj rfl rfl rfl bo aa aa aJ))) ?_
         refine av ?_
         refine aO rfl (λw l=>(bO rfl rfl j (bb bY rfl rfl (λJ x=>by subst x;exact l.mH (E:=bW) cz G 2 _ rfl) aJ))) ?_
         refine cZ ?_
         exact iQ (Sub.cons (a_ (λh=>some (Value.bool h)) (by simp[wR,j6,s])) (ed rfl rfl rfl)) (λ_ f=>f)
      ·refine bN [0,1,2,3,4,5,6,7,8,9,10,11,12,13,14,15,16,17,18,19,20,21,22,23,24,25,26,27,28] 0 [[]] ?_
       refine GO ?_
       exact iQ (Sub.cons (a_ (λh=>some (Value.bool h)) (by cases rest <;> simp[wR,j6,r])) (ed rfl rfl rfl)) (λ_ f=>f)
     ·refine cD rfl (λy=>?_) (λy=>aI ?_)
      ·cases rest with
       | nil=>cases y
       | cons d rest=>
        refine cn ?_
        have u:b7 (c::d::rest)=c::d::b7 rest:=by
         simp only[b7,ai F]
         rw[aB (show j6 c d=true from y)]
        refine bv (e++[c,d],rest) ⟨by rw[t,u];simp,by simp at i ⊢;omega⟩ (by simp;omega) (Sub.cons bo (Sub.cons (by simp[look];omega) Sub.nil)) (λo m=>?_)
        have:=m.rem bH.head
        simpa using this
      ·refine bF (GQ · c.at_) (bE dj rfl rfl rfl bo bo aa ?_)
       refine oy (o:=e.length*8) gh rfl rfl fs (by simp[Addr.add_lit]) rfl (bW.kz (hp c.at_)) (by rw[bW.eD];show e.length*8+8<=_*8;simp;omega) ?_
       refine a6 ?_
       have u:b7 (c::rest)=hp c.at_::b7 rest:=by
        cases rest with
        | nil=>
         have s:c.half≠3:=λf=>by
          have:=k.2
          rw[wq] at this
          rcases this with v | v
          ·exact bm v f
          ·exact bm v (H.2 rfl)
         simp[b7,F,s]
        | cons d S=>
         simp only[wR] at y
         simp[b7,F,y]
       refine bv (e++[hp c.at_],rest) ⟨by rw[t,u];simp,by simp at i ⊢;omega⟩ au (Sub.cons bo (Sub.cons (by simp[look]) Sub.nil)) (λo m=>?_)
       have:=m.rem bH.head
       have K:=bW.kC (L:=e++c::rest) (i:=e.length) (hp c.at_) au
       have T: (e++c::rest).set e.length (hp c.at_)=(e++[hp c.at_])++rest:=by simp
       rw[T] at K
       rw[<-K]
       exact this
  ·intro Ze z
   have U:rest=[]:=jX aa
   subst U
   have V:b7 b=e++[]:=t
   exact⟨rfl,z.ext,by rw[V];exact z.has Has.head⟩
def GR :ay 88 [n] a (λb c=>b= .returned (.tuple #[])/\Ext [] a c):=by
 refine ba func88 ntmps88 ?_;refine aA ?_;exact λe d=>⟨rfl,d.ext⟩
def qq(c:List aL)(n:Rd bW a d b i o c)(v:i<=1000000):
 ay 87 [.slice b i o,.func (.func 88) #[] #[]] a (jC bW a<|b7 c):=by
 have f:=n.len
 refine ba func87 ntmps87 ?_;refine lz 81 8<|aY ?_;refine qj (E:=bW) dj rfl rfl rfl (λ_=>by exact cJ) (λe g=>n.ext g.ext au) (by simp only[maxLen];omega) aa λk q=>?_;refine aH ?_;refine sU (v:= .tuple #[]) (c':=own 81 8 k (0+i)<|bW.all<|b7 c) cJ bo (λe g=>(y9 e k c (by have:=g.has Has.head;rw[ev] at this;rw[f];exact this) aa).mono ?_) ?_;rintro r s ⟨l,m,j⟩;exact⟨l,m,by rw[ev];rw[f] at j;exact j⟩;refine aH ?_;refine ix rfl rfl cL rfl (λe _=>GR e _) ?_;refine aI ?_;refine sU (v:= .tuple #[]) (c':=own 81 8 k (0+i)<|bW.all<|b7 c) cJ bo (λe g=>(y9 e k (b7 c) (by have:=g.has Has.head;rw[ev] at this;rw[hq,f];exact this)<|by rw[hq];omega).mono ?_) ?_;rintro r s ⟨l,m,j⟩;exact⟨l,m,by rw[ev];rw[hq,f,ta] at j;exact j⟩;refine be ?_;intro w p;exact jC.ho p.ext (p.has Has.head) (by rw[hq,f,ev]) (λt u=>by
  rcases q t u with h | h
  simp[Value.ownBlock] at h
  exact h.1)
def B4(c:List aL)(p:Rd bW a d b i o c)(q:i<=1000000):
 ay 30 [.slice b i o] a (jC bW a<|b7 c):=by
 refine ba func30 ntmps30 ?_;refine aY ?_;refine NF (λk l e=>jC bW k (b7 c) (.returned l) e) (λr s=>(qq r d b i o c (p.ext s.ext au) q).mono ?_) ?_;rintro x e ⟨f,g,h,rfl,m,j⟩;exact⟨_,rfl,m,f,g,h,rfl,m,j⟩;rintro k l e t y ⟨f,g,h,u,_,j⟩ v _;cases u
 refine aI ?_;exact λz n=>⟨f,g,h,rfl,v.eC n.ext,(j.df n.ext).d8 λA w=>ge t.ext.size w⟩
def GS(c:List aL)(n:Rd bW a d b i o c)(y:i<=1000000):
 ay 388 [.slice b i o] a (λf g=>f= .returned (ad (mT c:Int))/\Ext [] a g):=by
 have s:=n.len
 refine ba func388 ntmps388 ?_;refine cZ ?_;refine cd (ι:=Nat) (λk=>[(0,.slice b i o),(3,ad (k:Int))]) (λ_=>ag a [] []) (λk=>k<=i/\mT c=mT (c.take k)) (λk=>k) ?_ ?_;exact λa e=>⟨i,⟨cC _,by rw[<-s,um]⟩,(ig rfl rfl),e⟩
 rintro k ⟨z,h⟩;refine aH ?_;refine bl 8 rfl (λj=>?_) λj=>?_;have t:=bg j
 obtain⟨x,p⟩ : ∃x,c[k - 1]? = some x:=⟨c[k - 1]'aa,bD _⟩;obtain⟨A,B,_,u⟩:=n.at_ p;have q:mT (c.take k)=if x.r=0 then mT (c.take<|k - 1) else k:=by
  have f:c.take k=c.take (k - 1)++[x]:=by
   rw[show k=k - 1+1 by omega,hA,p];rfl
  rw[f,OB,dR,jZ aa,show k - 1+1=k by omega]
 refine aU ?_;refine bE (q:=k - 1) dj rfl rfl rfl bR aa aa<|ap ?_;refine bb h_ rfl rfl (λg l=>l.ch (u 0 _ rfl) au) ?_;refine (aE) (λm=>a6 ?_) λm=>cn ?_;refine bv (k - 1) ⟨aa,by rw[h,q,aB m]⟩ aa (Sub.cons bo<|Sub.cons (by simp[look];omega) Sub.nil) λg l=>l;exact λv e=>⟨by rw[h,q,ai m],e.ext⟩
 have t:=bm j
 refine lB ?_;intro v e;have w:k=0:=by omega
 subst w;exact⟨by rw[h];rfl,e.ext⟩
def wS :ay 381 [ad l] a (λe f=>e= .returned (.bool<|decide (2<=l) && decide (l<=1000))/\Ext [] a f):=by
 refine ba func381 ntmps381 ?_;refine be ?_;refine bl 5 rfl (λb=>?_) λb=>?_;have c:=bg b
 refine be ?_;exact λg d=>⟨by simp[c],d.ext⟩
 have c:=bm b
 refine aY ?_;exact λg d=>⟨by simp[c],d.ext⟩
abbrev bq:=List aL × Bool
structure dT (w:World) (F:Nat->Prop) (A:Option Addr) (n c:Nat) (rows:List bq):Prop where
 jc: ∃dI:List rL,Rd mS w F A n c dI/\dI.map (·.cont)=rows.map (·.2)/\ ∀(k:Nat)(r:rL)(row:bq),dI[k]? = some r->rows[k]? = some row->Rd bW w F r.A r.n r.c row.1
variable {c:List bq}
def dT.len{n:Nat}(a:dT h g e n f c):c.length=n:=by
 obtain⟨i,b,d,_⟩:=a.jc;have:=a_ List.length d
 simp only[c8] at this
 rw[<-this,b.len]
def dT.ext{b:World}{rows:List bq}(i:dT h g e f m rows)(c:Ext s h b)(d: ∀a,g a->a∉s):dT b g e f m rows:=by
 obtain⟨j,k,l,n⟩:=i.jc;exact⟨j,k.ext c d,l,λa o p q r=>(n a o p q r).ext c d⟩
def dT.d8{F':Nat->Prop}{rows:List bq}(c:dT h g e f m rows)(b: ∀a,g a->F' a):dT h F' e f m rows:=by
 obtain⟨d,i,j,k⟩:=c.jc;exact⟨d,i.d8 b,j,λa l n o p=>(k a l n o p).d8 b⟩
variable {t:bq}
def dT.at_{i:List bq}(w:dT h g e f m i){k:Nat}(j:i[k]? = some t):
 ∃a p q s,e=some a/\g a.block/\(∀b d,([.slice p q s,.bool t.2]:List Value)[b]? = some d->h.cell? ((a.add<|k*2).add b)=some d)/\Rd bW h g p q s t.1:=by
 obtain⟨l,x,u,y⟩:=w.jc;have F:=(cH.1 j).1
 have G:l.length=i.length:=by simpa using a_ List.length u
 obtain⟨r,o⟩ : ∃r,l[k]? = some r:=⟨l[k]'aa,bD _⟩;have z:r.cont=t.2:=by
  have:=a_ (λB=>B[k]?) u
  simp only[fw,o,j,o_,ek] at this
  exact this
 obtain⟨a,C,D,E⟩:=x.at_ o;exact⟨a,r.A,r.n,r.c,C,D,λb d v=>E b d<|by rw[<-z] at v;exact v,y k r t o j⟩
def cellsOf(a:List bq):List aL:=(a.flatMap (·.1)).filter λb=>decide<|b.half≠3
def tb(a:List bq):List aL:=B3<|b7<|cellsOf a
def GT(a:List bq)(b:bq):cellsOf (a++[b])=cellsOf a++b.1.filter (λc=>decide<|c.half≠3):=by simp[cellsOf]
def jH{a:List j}{b:j}(c:a[f]? = some b):a.take (f+1)=a.take f++[b]:=by rw[hA,c];rfl
def B5(p:j->Bool)(b:List j)(a:j): (b++[a]).filter p=if p a=true then b.filter p++[a] else b.filter p:=by
 by_cases c:p a=true <;> simp[c]
def e1(a:List bq):Nat:=(a.map (·.1.length)).sum
def y_(rows:List bq): (cellsOf rows).length<=e1 rows:=by
 unfold cellsOf e1;refine ge (List.length_filter_le _ _) ?_;rw[List.length_flatMap];exact cC _
def B6(rows:List bq)(a:Nat):e1 (rows.take a)<=e1 rows:=by
 have b:=iJ a rows
 have:e1 rows=e1 (rows.take a)+e1 (rows.drop a):=by
  conv=>lhs;rw[<-b]
  simp only[e1,gF,List.sum_append]
 omega
def OD(n k:Nat)(g:List bq)(D:dT a d b n k g)(Zj:n<=1000000)(K:e1 g<=1000000):
 ay 384 [.slice b n k] a (jC bW a<|tb g):=by
 have Zk:=D.len
 refine ba func384 ntmps384 ?_;refine lz 81 8<|fT ?_;refine cd (ι:=Nat × Value × List aL) (λc=>[(3,c.2.1),(8,.slice b n k),(9,ad (n:Int)),(10,ad (c.1 :Int))]) (λc=>ag a [] [own 81 8 c.2.1 c.2.2.length (bW.all c.2.2)]) (λc=>c.1<=n/\c.2.2=cellsOf (g.take c.1)/\ ∀l,c.2.1.ownBlock=some l->a.heap.size<=l) (λc=>n - c.1) ?_ ?_;exact λa p=>⟨(0,.slice none 0 0,[]),⟨b4 _,rfl,by simp[Value.ownBlock]⟩,(da rfl rfl rfl rfl),p⟩
 rintro⟨f,L,j⟩ ⟨y,q,E⟩;dsimp only at y q E ⊢
 refine (aE) (λM=>?_) λM=>?_;obtain⟨row,z⟩ : ∃row,g[f]? = some row:=⟨g[f]'aa,bD _⟩;obtain⟨Zl,N,m,O,Zm,_,P,F⟩:=D.at_ z;have Q:=F.len
 have Zn:j.length+m<=1000000:=by
  have R:=B6 g<|f+1
  rw[jH z] at R
  have Zo:e1 (g.take f++[row])=e1 (g.take f)+m:=by simp[e1,Q]
  have t:=y_<|g.take f
  rw[q];omega
 refine aH ?_;refine bE dy rfl rfl rfl bR bo aa<|cE gG rfl rfl (rfl) (λo e i A r=>e.ch (P i A r) au)<|av ?_;intro Zp Zq Zr;refine b6 ?_;refine cd (ι:=Nat × Value × List aL) (λc=>[(3,c.2.1),(8,.slice b n k),(9,ad (n:Int)),(10,ad (f:Int)),(15,.slice N m O),(16,ad (m:Int)),(17,ad (c.1 :Int))]) (λc=>ag a [] [own 81 8 c.2.1 c.2.2.length (bW.all c.2.2)]) (λc=>c.1<=m/\c.2.2=j++(row.1.take c.1).filter (λk=>decide<|k.half≠3)/\ ∀l,c.2.1.ownBlock=some l->a.heap.size<=l) (λc=>m - c.1) ?_ ?_;exact λa p=>⟨(0,L,j),⟨b4 _,by simp,E⟩,(jg rfl rfl rfl rfl rfl rfl rfl),p.rem bH.head⟩
 rintro⟨i,G,u⟩ ⟨r,s,v⟩;dsimp only at r s v ⊢
 have H:u.length<=j.length+i:=by
  rw[s,b3];have:=List.length_filter_le (λk:aL=>decide<|k.half≠3)<|row.1.take i
  rw[dR] at this
  omega
 refine (aE) (λS=>?_) λS=>be ?_;obtain⟨x,B⟩ : ∃x,row.1[i]? = some x:=⟨row.1[i]'aa,bD _⟩;obtain⟨Zs,Zt,_,T⟩:=F.at_ B;refine aH ?_;refine bE dj rfl rfl rfl bR bo aa<|cE gh rfl rfl (rfl) (λo e i A r=>e.ch (T i A r) au)<|av ?_;intro Zu Zv Zw;refine (aE) (λt=>a7 ?_) λt=>aU ?_;intro Zx Zy Zz;refine hW dj rfl rfl rfl bx (λ_=>by exact fs) rfl (B0 rfl rfl rfl rfl rfl rfl rfl rfl) (by simp only[maxLen];omega) aa λU V=>?_;refine aY ?_;refine bv (i+1,U,u++[x]) ⟨aa,by rw[jH B,B5,aB<|bI t,s,ec],λl W=>by
  rcases V l W with h | h
  exact v l h;exact h.1⟩ aa (jg rfl rfl rfl rfl rfl rfl rfl) λo e=>?_
 rw[b3,b1.iP];exact e.rem bH.head;refine bv (i+1,G,u) ⟨aa,by rw[jH B,B5,ai λh=>t<|bg h,s],v⟩ aa (jg rfl rfl rfl rfl rfl rfl rfl) λo e=>e.rem bH.head;have X:i=m:=by omega
 subst X;refine bv (f+1,G,u) ⟨aa,by rw[jH z,GT,s,q,eT (l:=row.1) aa],v⟩ aa (da rfl rfl rfl rfl) λo e=>e;have Y:f=n:=by omega
 subst Y;rw[eT aa] at q
 have H:j.length<=1000000:=by rw[q];exact ge (y_ g) K
 refine aY ?_;refine F8 λZA C=>?_;obtain⟨Z,Za,rfl,Zb⟩:=Rd.ho (E:=bW) (C.has Has.head) rfl;refine yM (hargs:=rfl) (λo e=>B4 o _ Z j.length Za j (Zb.ext e.ext au) H) ?_;intro ZB ZC Zc Zd Ze I Zf ZD w;have Zg:=w.len
 rw[hq] at Zg
 refine aU ?_;refine bd (hargs:=rfl) (λo e=>GS o _ Zc Zd Ze _ (w.ext e.ext au) aa) ?_;have Zh:=OA<|b7 j
 rw[hq] at Zh
 have ZE:=w.cap
 refine gp 0 (mT<|b7 j) dj rfl rfl (.inr ⟨rfl,rfl⟩) (.inl ⟨_,_,rfl,rfl,rfl⟩) aa aa<|aI ?_;intro ZF p;have Zi:=w.cut (p:=0) (q:=mT<|b7 j) aa aa
 refine⟨_,_,_,rfl,(C.ext.eC I.ext).eC<|Zf.eC p.ext,?_⟩;have J:=(Zi.df p.ext).d8 (F':=λf=>a.heap.size<=f) λf y=>ge (ge C.ext.size I.ext.size) y
 rw[ol] at J
 subst q;exact J
def pp(a:aL):aL:=if a.half=3 then hp a.at_ else a
def wT(a:List aL):List aL:=b7<|a.map pp
def OE(a:List aL): (wT a).length=a.length:=by rw[wT,hq,c8]
def OF(n q:Nat)(h:List aL)(r:Rd bW a d b n q h)(v:n<=1000000):
 ay 452 [.slice b n q] a (jC bW a (wT h)):=by
 have s:=r.len
 refine ba func452 ntmps452 ?_
 refine lz 81 8 (aY ?_)
 refine qj (E:=bW) dj rfl rfl rfl (λ_=>by exact cJ) (λi e=>r.ext e.ext au) (by simp only[maxLen];omega) aa (λw N=>?_)
 refine aI ?_
 refine jd (v:=w) Has.head (λj k y O P Q z=>?_)
 subst y
 rw[ev] at *
 refine aU ?_
 refine cd (ι:=List aL × List aL) (λf=>[(3,.slice j n k),(8,.slice j n k),(9,ad (n:Int)),(10,ad (f.1.length:Int))]) (λf=>ag a [] [own 81 8 (.slice j n k) n (bW.all (f.1.map pp++f.2))]) (λf=>h=f.1++f.2) (λf=>f.2.length) ?_ ?_
 ·exact λa l=>⟨([],h),rfl,(da rfl rfl rfl rfl),l⟩
 ·rintro⟨c,rest⟩ g
  dsimp only at g ⊢
  have A:c.length+rest.length=n:=by rw[<-s,g,b3]
  refine (aE) (λB=>?_) (λB=>?_)
  ·cases rest with
   | nil=>simp at A;omega
   | cons x rest=>
   obtain⟨R,rfl⟩:=z aa
   have m: (c.map pp++x::rest)[c.length]? = some x:=by simp[i_]
   refine aU ?_
   refine bE dj rfl rfl rfl bo bo aa (cE gh rfl rfl (rfl) (λi e C D E=>e.mH (E:=bW) Has.head m C D E) (av ?_))
   intro S T U
   refine (aE) (λo=>aH ?_) (λo=>aU ?_)
   ·refine bE dj rfl rfl rfl bo bo aa ?_
    refine oy (o:=c.length*8) gh rfl rfl fs (by simp[Addr.add_lit]) rfl (bW.kz (hp x.at_)) (by rw[bW.eD];show c.length*8+8<=_*8;simp;omega) ?_
    refine aU ?_
    refine bv (c++[x],rest) (by simp[g]) au (Sub.cons bo (Sub.cons bo (Sub.cons bo (Sub.cons (by simp[look]) Sub.nil)))) (λi e=>?_)
    have t:=bW.kC (L:=c.map pp++x::rest) (i:=c.length) (hp x.at_) au
    have F: (c.map pp++x::rest).set c.length (hp x.at_)=(c++[x]).map pp++rest:=by simp[pp,o]
    rw[F] at t
    have:=e.rem bH.head
    dsimp only
    rw[<-t]
    exact this
   ·refine bv (c++[x],rest) (by simp[g]) au (Sub.cons bo (Sub.cons bo (Sub.cons bo (Sub.cons (by simp[look]) Sub.nil)))) (λi e=>?_)
    have:=e.rem bH.head
    simpa [pp,o] using this
  ·have G:rest=[]:=jX aa
   subst G
   rw[eZ] at g
   subst g
   refine aY ?_
   refine F8 (λH p=>?_)
   have I:H.ownsRow 0 81 8 (.slice j n k) n (bW.all (h.map pp)):=by
    have:=p.has Has.head
    rw[eZ] at this
    exact this
   obtain⟨V,W,J,K⟩:=Rd.ho (E:=bW) I (by rw[c8,s])
   cases J
   refine yM (hargs:=rfl) (λi e=>B4 i _ j n k _ (K.ext e.ext au) v) ?_
   intro X Y Z Za Zb u L Zc M
   refine aI ?_
   exact λZd l=>⟨_,_,_,rfl,(p.ext.eC u.ext).eC (L.eC l.ext),(M.df l.ext).d8 (λZe m=>ge (ge p.ext.size u.ext.size) m)⟩
def fH(b:List aL)(a:Nat):Nat:=
 if b.length<a then b.length else if (b[a - 1]?.map (·.half))=some 1 then a - 1 else a
def B7(f:List aL)(c:Nat)(j:Rd bW a d b i o f)(s:i<=4000000)(t:1<=c)(u:c<=1000):
 ay 453 [.slice b i o,ad (c:Int)] a (λm k=>m= .returned (ad (fH f c:Int))/\Ext [] a k):=by
 have n:=j.len
 refine ba func453 ntmps453 ?_;refine (aE) (λp=>be ?_) λp=>?_;exact λl e=>⟨by rw[fH,aB aa,n],e.ext⟩
 obtain⟨x,g⟩ : ∃x,f[c - 1]? = some x:=⟨f[c - 1]'aa,bD _⟩;obtain⟨v,w,_,q⟩:=j.at_ g;refine aY ?_;refine bE (q:=c - 1) dj rfl rfl rfl bR aa aa<|av ?_;refine bb bY rfl rfl (λk r=>r.ch (q 2 _ rfl) au) ?_;refine (aE) (λh=>be ?_) λh=>be ?_;intro l e;refine⟨?_,e.ext⟩;rw[fH,ai aa,aB<|by rw[g];simp[h],show ((c - 1 :Nat):Int)=(c:Int) - 1 by omega];intro l e;refine⟨?_,e.ext⟩;rw[fH,ai aa,ai<|by rw[g];simpa using h]
def rM:aL:={ eo with half:=3 }
def B8(left:List aL)(a:Nat):List aL:=left.drop<|fH left a
def B9(a:List aL)(al:Nat):fH a al<=a.length/\fH a al<=al:=by
 unfold fH;split
 omega
 split <;> omega
def OG(a:List aL)(al:Nat)(c:2<=al)(b:a≠[]):1<=fH a al:=by
 have:0<a.length:=sC.2 b
 unfold fH;split
 omega
 split <;> omega
def OH(a:List aL)(al:Nat): (B8 a al).length=a.length - fH a al:=by simp[B8]
def OI(l:List j)(a:Nat): (u.all l).drop (a*u.ax)=u.all (l.drop a):=by
 induction a generalizing l with
 | zero=>simp
 | succ a c=>
  cases l with
  | nil=>simp[b1.all]
  | cons b l=>
   have:u.all (b::l)=u.enc b++u.all l:=by simp[b1.all]
   rw[this,kw,Nat.one_mul,Nat.add_comm,<-ls,List.drop_left'<|u.len b,List.drop_succ_cons];exact c l
def OJ(a:j)(b:Nat):gg (u.enc a) b=u.all (List.replicate b a):=by
 induction b with
 | zero=>simp[gg,b1.all]
 | succ b c=>
  have: ∀(l:List j),u.all (a::l)=u.enc a++u.all l:=λl=>by simp[b1.all]
  rw[oq,this,gg,c]
def B_ :gg [.int .i32 0,.string ByteArray.empty,z0,z0,z0,z0,z0,z0] i=bW.all (List.replicate i eo):=OJ bW eo i
def dT.za(b:dT h g e f m c):f<=m/\m<=maxLen:=by
 obtain⟨d,a,_⟩:=b.jc;exact⟨a.cap,a.max⟩
def wU(a:List bq):Nat->Nat
 | 0=>0
 | i+1=>if (a[i+1]?.map (·.2))=some true then wU a i else i+1
def pq :List (Int × Int):=
 match k.getLast? with
 | some a=>if p then k.dropLast++[(a.1,l+1)] else k++[(l,l+1)]
 | none=>[(l,l+1)]
def pr(a:List bq)(b:Nat):Bool:=(a[b]?.map (·.2)).getD false
def l5(a:List bq):Nat->List (Int × Int)
 | 0=>[]
 | k+1=>pq (l5 a k) k<|pr a k
def OK : (pq k l p).length<=k.length+1:=by
 unfold pq;split
 split <;> simp
 simp
def Ca(a:List bq)(k:Nat): (l5 a k).length<=k:=by
 induction k with
 | zero=>simp[l5]
 | succ k b=>
  have:=OK (l5 a k) k<|pr a k
  rw[l5];omega
def iB(c:List bq)(b d:Nat):Prop:= ∀a,b<=a->a<d->wU c a=b
def wV(c:List bq):Nat->List (Int × Int)->Nat->Prop
 | a,[],d=>a=d
 | a,e::f,d=> ∃b:Nat,e=((a:Int),(b:Int))/\a<b/\iB c a b/\pr c b=false/\wV c b f d
def GU{s:Nat}(e:s<f)(g:iB c s f)(h:pr c f=false): ∀(d:List (Int × Int))(a:Nat),wV c a d s->wV c a (d++[((s:Int),(f:Int))]) f
 | [],a,b=>by
  have b:a=s:=b
  subst b;exact⟨f,rfl,e,g,h,rfl⟩
 | p::d,a,b=>by
  obtain⟨i,j,k,l,m,n⟩:=b;exact⟨i,j,k,l,m,GU e g h d i n⟩
def GV : ∀(d:List (Int × Int))(b a:Nat),wV c b d a->b<=a
 | [],b,a,e=>Nat.le_of_eq e
 | p::d,b,a,e=>by
  obtain⟨f,_,h,_,_,g⟩:=e;have:=GV d f a g
  omega
def uM(c:List bq)(a:Nat)(d:Nat)(e:List (Int × Int)):Prop:=(e=[]/\d=a)\/ ∃(f:List (Int × Int))(b:Nat),e=f++[((b:Int),(a:Int))]/\b<a/\iB c b a/\wV c d f b
def GW(k:Nat):wU c k=if k=0 then 0 else if pr c k=true then wU c (k - 1) else k:=by
 cases k with
 | zero=>rfl
 | succ k=>
  rw[wU,pr];cases a:c[k+1]? <;> simp
def Cb(e:List bq)(k:Nat):uM e k 0 (l5 e k):=by
 induction k with
 | zero=>exact .inl ⟨rfl,rfl⟩
 | succ k l=>
  rw[l5];rcases l with ⟨c,d⟩ | ⟨f,h,c,d,g,i⟩
  subst d;rw[c];refine .inr ⟨[],0,rfl,aa,λa c d=>?_,rfl⟩;have:a=0:=by omega
  subst this;rfl
  rw[c];simp only[pq,List.getLast?_append,List.getLast?_singleton,Option.some_or,List.dropLast_concat];by_cases b:pr e k=true
  rw[aB b];refine .inr ⟨f,h,rfl,aa,λa j m=>?_,i⟩;by_cases n:a=k
  subst n;rw[GW,ai aa,aB b];exact g _ aa aa;exact g a j aa;rw[ai b];refine .inr ⟨f++[((h:Int),(k:Int))],k,rfl,aa,λa j m=>?_,GU d g (by simpa using b) f 0 i⟩;have:a=k:=by omega
  subst this;rw[GW,ai aa,ai b]
def Cc{L:List (Int × Int)}(b:uM c f m (v::L)): ∃a:Nat,v=((m:Int),(a:Int))/\m<a/\a<=f/\iB c m a/\(a<f->pr c a=false)/\uM c f a L:=by
 rcases b with ⟨b,_⟩ | ⟨d,s,e,h,i,g⟩
 cases b
 cases d with
 | nil=>
  have g:m=s:=g
  subst g;simp only[mA,ug] at e
  obtain⟨rfl,rfl⟩:=e;exact⟨f,rfl,h,cC _,i,λb=>absurd b aa,.inl ⟨rfl,rfl⟩⟩
 | cons p d=>
  simp only[nz,ug] at e
  obtain⟨rfl,rfl⟩:=e;obtain⟨a,k,l,n,o,j⟩:=g;have:=GV d a s j
  exact⟨a,k,l,aa,n,λ_=>o,.inr ⟨d,s,rfl,h,i,j⟩⟩
