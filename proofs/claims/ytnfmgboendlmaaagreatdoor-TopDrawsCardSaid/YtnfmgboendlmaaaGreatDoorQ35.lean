/- part 35 of the proof -/
import Derived.Test.YtnfmgboendlmaaaGreatDoorQ34
import Derived.Shelf.Sort.Plain
import Derived.Shelf.Slices.In.SortNone
import Derived.Shelf.Slices.In.CompactI
import Derived.Lib.RowBridge
set_option linter.all false
namespace Go.Proofs.YtnfmgboendlmaaaGreatDoor.Mq
open RowKit Tryz
variable {F:Int}{z:List Chunk}{o:List Int}{m t:List Value}{h s:Nat}{k:Option Addr}{p:Type}{B:TypeId}{j:World}{y:bn}{x:dp}(d:World)(q:Int)(v:gn)(C:Option gn)(n:bG)(r:bn)(f:Nat->Prop)(w:List fo)(D:dp)(e:Option Addr)(g i:Nat){u:List p}{G:b1 p}
abbrev gn.enc :List Value:=[.int .u64 v.id,ad v.phase,ad v.start.row,ad v.start.dL,ad v.input.row,ad v.input.dL,ad v.output.row,ad v.output.dL,ad v.done.row,ad v.done.dL,ad v.stop.row,ad v.stop.dL,ad v.code,.bool v.has,.bool v.cut,bU v.dir,bU v.line]
def lo:b1 gn:=⟨gn.enc,17,λ_=>rfl,λ_=>by repeat (first | exact aV.nil | refine aV.cons rfl ?_)⟩
structure tX where
 A:Option Addr
 c:Nat
 l:List gn
abbrev tX.val(a:tX):Value:= .slice a.A a.l.length a.c
abbrev tX.aD(a:tX):Chunk:=Mq.aD 67 lo a.A a.c a.l
abbrev EV(a b c:bG):List Value:=[ad n.row,ad n.dL,ad a.row,ad a.dL,ad b.row,ad b.dL,ad c.row,ad c.dL]
def XE(a:bG)(c:r.bV<=4):dJ (EV a a a a) 0 (c1.all<|r.pl.take r.bV)=EV (r.pl.getD 0 a) (r.pl.getD 1 a) (r.pl.getD 2 a) (r.pl.getD 3 a):=by
 obtain⟨d,e,f,g,h,i,id,j,k,l,m,b⟩:=r;match b,(show b<=4 from c) with
 | 0,_=>rfl
 | 1,_=>rfl
 | 2,_=>rfl
 | 3,_=>rfl
 | 4,_=>rfl
set_option maxHeartbeats 2000000 in
def LM(f:r.aq.pred d)(i:r.bV<=4)(b:bG):ay 140 [ptr r.g,fc b] d (Pure (.agg (oc r.abs b).enc.toArray) d):=by
 have j:=np r i
 refine ba func140 ntmps140 ?_;refine ap ?_;intro q s t;refine av ?_;intro u v w;refine be ?_;intro k x y;refine a7 ?_;refine bN [0,1] 2 [[(2,false,[]),(3,true,[])]] ?_;refine aO rfl (λe a=>(Lo (sz:=2) 4 underlying247 sizeOf44 rfl rfl (.inr ⟨rfl,rfl⟩) aa aJ))<|ap ?_;refine bd (λl m=>A5 l r (m.ew f au) i)<|ap ?_;refine Lp (E:=c1) (src:=r.pl) (g:=k) (o:=0) (xs:=EV b b b b) (te:=247) (F:=λn=>n=r.g) r.bV aa eR rfl rfl rfl cJ (λz o=>(LH f i).ext o.ext au) (by show 0+4*2<=8;omega) ?_;refine aI ?_;rw[XE r b i];refine bN [0,1,2,3,4,5,6,7,8,9,10,11,12,13,14,15,16,17,18,19,20,21,22,23,24,25,26,27,28,29,30,31,32,33,34,35,36,37,38,39,40,41,42] 1 [[(43,true,[])]] ?_;refine ap ?_;refine aO rfl (λe a=>(bb s0 rfl rfl (λh c=>by subst c;exact a.cc f (by (simp;done)) rfl) aJ)) ?_;refine ap ?_;refine aO rfl (λe a=>(bb bY rfl rfl (λh c=>by subst c;exact a.cc f (by (simp;done)) rfl) aJ)) ?_;refine aO rfl (λe a=>(d9 (q:=0) underlying247 oE rfl rfl rfl bo aa aJ))<|av ?_;refine aO rfl (λe a=>(d9 (q:=1) underlying247 oE rfl rfl rfl bo aa aJ))<|av ?_;refine aO rfl (λe a=>(d9 (q:=2) underlying247 oE rfl rfl rfl bo aa aJ))<|av ?_;refine aO rfl (λe a=>(d9 (q:=3) underlying247 oE rfl rfl rfl bo aa aJ))<|aH ?_;refine aO rfl (λe a=>(bb bY rfl rfl (λh c=>by subst c;exact a.cc f (by (simp;done)) rfl) aJ)) ?_;refine a7 ?_;refine aO rfl (λe a=>(bb pf rfl rfl (λh c=>by subst c;exact a.cc f (by (simp;done)) rfl) aJ)) ?_;refine a7 ?_;refine aO rfl (λe a=>(bb pf rfl rfl (λh c=>by subst c;exact a.cc f (by (simp;done)) rfl) aJ)) ?_;refine a7 ?_;refine aO rfl (λe a=>(bb oA rfl rfl (λh c=>by subst c;exact a.cc f (by (simp;done)) rfl) aJ)) ?_;refine a7 ?_;refine aO rfl (λe a=>(bb oA rfl rfl (λh c=>by subst c;exact a.cc f (by (simp;done)) rfl) aJ)) ?_;refine aO rfl (λe a=>(kB (out:=[.int .u64 r.id,ad (r.bV:Int),ad (r.pl.getD 0 b).row,ad (r.pl.getD 0 b).dL,ad (r.pl.getD 1 b).row,ad (r.pl.getD 1 b).dL,ad (r.pl.getD 2 b).row,ad (r.pl.getD 2 b).dL,ad (r.pl.getD 3 b).row,ad (r.pl.getD 3 b).dL,ad b.row,ad b.dL,ad r.code,.bool r.has,.bool r.cut,bU r.dir,bU r.line]) yR rfl rfl (by simp[hY,putAt,dJ,Value.cells]) aJ))<|aA ?_;refine fR ia rfl rfl fs bo (aV.cons rfl<|aV.cons rfl<|aV.cons rfl<|aV.cons rfl<|aV.cons rfl<|aV.cons rfl<|aV.cons rfl<|hg rfl rfl rfl rfl rfl rfl rfl rfl rfl rfl) (ej rfl)<|aH ?_;exact λA p=>⟨by simp only[oc,bn.abs,j];rfl,p.ext⟩
def LN : (lm n w).length=w.length:=by
 have:=a_ List.length<|EG n w
 rwa [c8,c8] at this
def LO(f:bG): ∀(e:List fo)(d:Nat)(c:fo),e[d]? = some c->(lm f e)[d]? = some (oc c (match e[d+1]? with | some h=>ob h | none=>f))
 | [],d,c,b=>by cases b
 | [a],0,c,b=>by cases b;rfl
 | [a],d+1,c,b=>by simp at b
 | a::g::e,0,c,b=>by cases b;rfl
 | a::g::e,d+1,c,b=>LO f (g::e) d c b
def XF{a:bn}(d:x.l[0]? = some a)(e:x.l.getLast?=some y)(c:bG):no x.abs c=hQ (ob a.abs)::lm (jR c<|iZ y.abs) (x.l.map bn.abs):=by
 obtain⟨g,h,i,b,j,k,m⟩:=x;cases b with
 | nil=>cases d
 | cons n b=>
  cases d
  have f: ((a::b).map bn.abs).getLastD a.abs=y.abs:=by
   rw[List.getLastD_eq_getLast?,List.getLast?_map,e];rfl
  show hQ (ob a.abs)::lm (jR c<|iZ<|((a::b).map bn.abs).getLastD a.abs) ((a::b).map bn.abs)=_
  rw[f]
set_option maxHeartbeats 1000000 in
def LP(w:World)(a:dp)(r:a.aq.pred w)(z: (fp a.A a.c a.l).pred w)(v: (fQ a.l).pred w)(s:hT a.l)(Zl:a.l.length<=10000)(p:bG):ay 74 [ptr a.g,fc p] w
 (aX (λm:tX=>m.val) [] (λm=>[m.aD]) (λm=>m.l=no a.abs p) w):=by
 have U:=A0 z
 refine ba func74 ntmps74 ?_;refine ap ?_;intro N Zm Zn;refine aU ?_;refine bd (λj k=>W6 j a<|k.ew r au) ?_;refine (aE) (λO=>?_) λO=>?_;have V:a.l=[]:=jX aa
 refine aH ?_;refine kB (out:=gn.enc<|hQ p) yR rfl rfl (by simp[hY,putAt,dJ,Value.cells,hQ];rfl) ?_;refine ef (E:=lo) (hQ p) oC rfl rfl rfl rfl rfl λZo Zp Zq=>aH ?_;exact λZr W=>aX.cf ⟨_,_,[hQ p]⟩ (by unfold no;rw[show a.abs.blocks=a.l.map bn.abs from rfl,V];rfl) rfl<|W.aF ah
 obtain⟨X,Y,x⟩:=U.2.2 aa;obtain⟨f,B⟩ : ∃f,a.l[0]? = some f:=⟨_,bD aa⟩;obtain⟨e,C⟩ : ∃e,a.l.getLast?=some e:=⟨_,yx λZ=>O<|by rw[Z];rfl⟩;have P:=wt C
 have Q:=cR B
 have D: (fp (some ⟨X,Y,none⟩) a.c a.l).pred w:=x▸z
 have Za:=od v Q
 have Zb:=x9 f<|s f Q
 have E:=XF B C p
 obtain⟨b,R⟩ : ∃b,b=jR p (iZ e.abs):=⟨_,rfl⟩;rw[<-R] at E
 rw[Zb] at E
 refine ap ?_;refine bN [0,1] 4 [[(2,false,[]),(3,false,[]),(4,false,[]),(5,true,[])]] ?_;refine a7 ?_;refine bd (λj k=>(by have i:=EK j a (k.ew r au)<|k.ew z au;rw[C] at i;exact i)) ?_;refine ap ?_;refine bd (λj k=>Lw j e (k.ew (od v P) au)<|s e P)<|ap ?_;refine bd (λj k=>(by have i:=Lh j p<|iZ e.abs;rw[<-R] at i;exact i)) ?_;refine cv (λ_=>True) (λ_ i=> .inr ⟨.inr ⟨.inr i,dC⟩,dC⟩) (λ_ i=>bh)<|b6 ?_;refine bb oD rfl rfl (λF q=>q.cc r (by (simp;done)) rfl) ?_;refine bE (q:=0) mK rfl rfl rfl x rfl aa<|bb (v:=ptr f.g) ph rfl rfl (λy o=>o.ch (pY D B) au)<|aA ?_;refine d9 (q:=0) underlying247 oE rfl rfl rfl bo aa<|cE (vs:=f.cG.enc) fF rfl rfl rfl (λy o G H I=>o.kK (sz:=2) Za au rfl G H I)<|av ?_;intro Zs Zt Zu;refine a6 ?_;refine kB (out:=gn.enc<|hQ f.cG) yR rfl rfl (by simp[hY,putAt,dJ,Value.cells,hQ];rfl) ?_;refine ef (E:=lo) (hQ f.cG) oC rfl rfl rfl rfl rfl λZv Zw Zx=>a6 ?_;refine bb oD rfl rfl (λF q=>q.cc r (by (simp;done)) rfl) ?_;refine aI ?_;refine cd (ι:=Nat × tX) (λn=>[(0,ptr a.g),(3,ptr N),(6,n.2.val),(43,.slice a.A a.l.length a.c),(44,ad (a.l.length:Int)),(45,ad (n.1 :Int))]) (λn=>ag w [] [aG N b.enc 44,n.2.aD]) (λn=>n.1<=a.l.length/\n.2.l=hQ f.cG::(lm b<|a.l.map bn.abs).take n.1) (λn=>a.l.length - n.1) ?_ ?_;exact λZy Zc=>⟨(0,⟨_,_,[hQ f.cG]⟩),⟨b4 _,rfl⟩,(jF rfl rfl rfl rfl rfl rfl),Zc.aF ah⟩
 rintro⟨h,m⟩ ⟨Zd,t⟩;dsimp only at Zd t ⊢
 have Zz:m.l.length=h+1:=by rw[t,dV,dR,LN,c8];omega
 refine (aE) (λZe=>?_) λZe=>cn ?_;obtain⟨d,J⟩ : ∃d,a.l[h]? = some d:=⟨_,bD aa⟩;have K:=cR J
 have S:=od v K
 have u:=LO b (a.l.map bn.abs) h d.abs (by rw[fw,J];rfl)
 rw[fw] at u
 refine aU ?_;refine bE (q:=h) mK rfl rfl rfl x rfl aa<|bb (v:=ptr d.g) ph rfl rfl (λy o=>o.ch (pY D J) au)<|aY ?_;intro ZA ZB ZC;refine bP ?_;refine bb oD rfl rfl (λF q=>q.cc r (by (simp;done)) rfl) ?_;refine (aE) (λZf=>?_) λZf=>?_;obtain⟨d2,L⟩ : ∃d2,a.l[h+1]? = some d2:=⟨_,bD aa⟩;have T:=cR L
 have Zg:=od v T
 have Zh:=x9 d2<|s d2 T
 rw[L] at u
 have M: (lm b<|a.l.map bn.abs).take (h+1)=(lm b<|a.l.map bn.abs).take h++[oc d.abs d2.cG]:=by
  rw[hA,u,<-Zh];rfl
 refine a7 ?_;refine bb oD rfl rfl (λF q=>q.cc r (by (simp;done)) rfl) ?_;refine aA ?_;refine bE (q:=h+1) mK rfl rfl rfl x rfl aa<|bb (v:=ptr d2.g) ph rfl rfl (λy o=>o.ch (pY D L) au)<|aA ?_;refine d9 (q:=0) underlying247 oE rfl rfl rfl bo aa<|cE (vs:=d2.cG.enc) fF rfl rfl rfl (λy o G H I=>o.kK (sz:=2) Zg au rfl G H I)<|aU ?_;refine bd (λj k=>LM j d (k.ew S au) (s d K).2 d2.cG)<|ef (E:=lo) (oc d.abs d2.cG) oC rfl rfl rfl rfl rfl λZi Zj Zk=>fu (E:=lo) oC rfl rfl rfl bx (λ_ _=>l4) cg cg λZD ZE=>?_;refine aY ?_;exact bv (h+1,⟨_,_,m.l++[oc d.abs d2.cG]⟩) ⟨aa,by dsimp only;rw[M,t];rfl⟩ bL (jF rfl rfl rfl rfl rfl rfl) λ_ i=>i.aF ah;have M: (lm b<|a.l.map bn.abs).take (h+1)=(lm b<|a.l.map bn.abs).take h++[oc d.abs b]:=by
  rw[hK (show a.l.length<=h+1 by omega)] at u
  rw[hA,u];rfl
 refine aH ?_;refine bd (λj k=>LM j d (k.ew S au) (s d K).2 b)<|ef (E:=lo) (oc d.abs b) oC rfl rfl rfl rfl rfl λZi Zj Zk=>fu (E:=lo) oC rfl rfl rfl bx (λ_ _=>l4) cg cg λZF ZG=>?_;refine aY ?_;exact bv (h+1,⟨_,_,m.l++[oc d.abs b]⟩) ⟨aa,by dsimp only;rw[M,t];rfl⟩ bL (jF rfl rfl rfl rfl rfl rfl) λ_ i=>i.aF ah;exact jG m (by rw[t,E,eT<|by rw[LN,c8];omega])
def XG(a:t.length=m.length):dJ m 0 t=t:=by
 rw[kC 0 aa,a];simp
def bC.whole{a:List Chunk}(b:bC z (aG h m B) (aG h t B) a)(c:t.length=m.length):bC z (aG h m B) (aG h (dJ m 0 t) B) a:=by
 rw[XG c];exact b
abbrev tY:gn:=⟨0,0,⟨0,0⟩,⟨0,0⟩,⟨0,0⟩,⟨0,0⟩,⟨0,0⟩,0,false,false,[],[]⟩
def tZ :Value:=match C with
 | some a=> .tuple #[.agg a.enc.toArray,.bool true]
 | none=> .tuple #[.agg tY.enc.toArray,.bool false]
set_option maxHeartbeats 1000000 in
def XH(x:D.aq.pred d)(y: (fp D.A D.c D.l).pred d)(z: (fQ D.l).pred d)(B:hT D.l)(C:D.l.length<=10000)(id:Int)(q:bG):ay 131 [ptr D.g,.int .u64 id,fc q] d
 (Pure (tZ<|lU D.abs id q) d):=by
 have s:=Lt (s:=D.abs) q
 rw[show D.abs.blocks=D.l.map bn.abs from rfl,c8] at s
 unfold lU;obtain⟨b,t⟩ : ∃b,b=no D.abs q:=⟨_,rfl⟩;rw[<-t] at s ⊢
 refine ba func131 ntmps131 ?_;refine ap ?_;intro O P Q;refine av ?_;intro u R S;refine aY ?_;refine bK (l0:=[]) aP.nil (λE f=>LP E D (f.ew x au) (f.ew y au) (f.ew z au) B C q) λe h=>aI ?_;rw[<-t] at h
 refine cd (ι:=Nat) (λa=>[(1,.int .u64 id),(6,ptr u),(12,e.val),(13,ad (e.l.length:Int)),(14,ad (a:Int))]) (λ_=>ag d [] [aG u (gn.enc tY) 67,e.aD]) (λa=>a<=e.l.length/\b.find? (λi=>decide<|i.id=id)=(b.drop a).find? λi=>decide<|i.id=id) (λa=>e.l.length - a) ?_ ?_;exact λT F=>⟨0,⟨b4 _,rfl⟩,(en rfl rfl rfl rfl rfl),F.aF ah⟩
 rintro a ⟨U,G⟩;rw[G];have V:e.l.length=b.length:=by rw[h]
 refine (aE) (λH=>?_) λH=>aU ?_;obtain⟨v,j⟩ : ∃v,e.l[a]? = some v:=⟨_,bD aa⟩;have w:b.drop a=v::b.drop (a+1):=by
  rw[h] at j
  obtain⟨I,J⟩:=cH.1 j;rw[lY I,J]
 refine aH ?_;refine ik (E:=lo) cz oC rfl rfl rfl bo aa λW K=>cE (vs:=v.enc) ia rfl rfl rfl (λL k m n o=>k.hG (E:=lo) cz K j m n o)<|av ?_;intro X Y Z;refine fR (vs:=v.enc) ia rfl rfl (bC.whole cJ bo) rfl (aV.cons rfl<|aV.cons rfl<|aV.cons rfl<|aV.cons rfl<|aV.cons rfl<|aV.cons rfl<|aV.cons rfl<|hg rfl rfl rfl rfl rfl rfl rfl rfl rfl rfl) (by exact ej rfl) ?_;refine (aE) (λp=>aA ?_) λp=>aU ?_;refine cE (vs:=v.enc) ia rfl rfl rfl (λL k m n o=>k.mI (sz:=17) (o:=0) (xs:=v.enc) bw rfl m n o)<|fR (vs:=v.enc) ia rfl rfl (bC.whole fs bo) rfl (aV.cons rfl<|aV.cons rfl<|aV.cons rfl<|aV.cons rfl<|aV.cons rfl<|aV.cons rfl<|aV.cons rfl<|hg rfl rfl rfl rfl rfl rfl rfl rfl rfl rfl) (by exact ej rfl)<|a6 ?_;refine iy results131 (c_.fx ia rfl cz rfl rfl) (c_.tmp rfl) λM r=>?_;exact⟨by rw[w,List.find?_cons_of_pos<|by exact bI p];rfl,r.ext⟩;exact bv (a+1) ⟨aa,by rw[w,List.find?_cons_of_neg<|by rw[bJ p];decide]⟩ aa b5 λ_ N=>N.aF ah;refine kB (out:=gn.enc tY) yR rfl rfl rfl<|fR (vs:=gn.enc tY) ia rfl rfl (bC.whole cJ bo) rfl (aV.cons rfl<|aV.cons rfl<|aV.cons rfl<|aV.cons rfl<|aV.cons rfl<|aV.cons rfl<|aV.cons rfl<|hg rfl rfl rfl rfl rfl rfl rfl rfl rfl rfl) (by exact ej rfl)<|a7 ?_;refine iy results131 (c_.fx ia rfl bw rfl rfl) (c_.tmp rfl) λM r=>?_;exact⟨by rw[p5 (l:=b) aa];rfl,r.ext⟩
structure iH where
 a:Int
 b:Int
 id:Int
structure iI where
 row:Int
 id:Int
 hid:Int
abbrev iH.enc(c:iH):List Value:=[ad c.a,ad c.b,.int .u64 c.id]
abbrev iI.enc(a:iI):List Value:=[ad a.row,.int .u64 a.id,ad a.hid]
def oe:b1 iH:=⟨iH.enc,3,λ_=>rfl,λ_=>aV.cons rfl<|aV.cons rfl<|aV.cons rfl aV.nil⟩
def mz:b1 iI:=⟨iI.enc,3,λ_=>rfl,λ_=>aV.cons rfl<|aV.cons rfl<|aV.cons rfl aV.nil⟩
def ez(d:Int):Int->List iH->Bool
 | _,[]=>true
 | e,c::f=>if c.a<e\/c.b<=c.a\/d<c.b then false else ez d c.b f
def jw(d:Int):Int->List iH->List iH
 | _,[]=>[]
 | e,c::f=>
  if max 0 c.a<min c.b d/\e<=max 0 c.a then ⟨max 0 c.a,min c.b d,c.id⟩::jw d (min c.b d) f else jw d e f
def EW(a:Int): ∀(b:List iH)(c:Int),ez a c (jw a c b)=true
 | [],_=>rfl
 | f::b,c=>by
  unfold jw;split
  rename_i d;unfold ez;rw[ai bL];exact EW a b _;exact EW a b c
def EX(e:Int): ∀(d:List iH)(k:Int),∀c∈jw e k d,∃f∈d,c.id=f.id/\c.a=max 0 f.a/\c.b=min f.b e
 | [],_,c,h=>by simp[jw] at h
 | f::d,k,c,h=>by
  unfold jw at h
  split at h
  rcases eJ.1 h with rfl | h
  exact⟨f,by simp,rfl,rfl,rfl⟩;obtain⟨g,i,j⟩:=EX e d _ c h;exact⟨g,by simp[i],j⟩;obtain⟨g,i,j⟩:=EX e d _ c h;exact⟨g,by simp[i],j⟩
def nr(a:Int):Nat->List iI
 | 0=>[]
 | n+1=>nr a n++[⟨a+n,0,0⟩]
def ye(a:Int): ∀n,(nr a n).length=n
 | 0=>rfl
 | n+1=>by simp[nr,ye a n]
def o6(d:Int):Int->List iH->List iI
 | r,[]=>nr r (d - r).toNat
 | r,c::e=>nr r (c.a - r).toNat++⟨c.a,c.id,c.b - c.a⟩::o6 d c.b e
def i7:Int->List iI->Int->Prop
 | a,[],c=>a=c
 | a,b::d,c=>b.row=a/\(b.id=0↔b.hid=0)/\0<=b.hid/\i7 (a+max 1 b.hid) d c
def EY: ∀(d a:List iI)(e b c:Int),i7 e d b->i7 b a c->i7 e (d++a) c
 | [],a,e,b,c,f,g=>by unfold i7 at f;subst f;exact g
 | x::d,a,e,b,c,f,g=>by
  obtain⟨h,i,j,k⟩:=f;exact⟨h,i,j,EY d a _ b c k g⟩
def EZ(a:Int): ∀n:Nat,i7 a (nr a n) (a+n)
 | 0=>by simp[nr,i7]
 | n+1=>by
  refine EY _ _ _ _ _ (EZ a n) ?_;refine⟨rfl,by simp,by simp,?_⟩;simp only[i7];omega
def LQ(d:Int): ∀(e:List iH)(c:Int),c<=d->ez d c e=true->(∀f∈e,f.id≠0)->i7 c (o6 d c e) d
 | [],c,i,_,_=>by
  have:=EZ c (d - c).toNat
  rw[show c+((d - c).toNat:Int)=d by omega] at this
  exact this
 | f::e,c,i,g,hid=>by
  unfold ez at g
  split at g
  cases g
  rename_i l;have h:=EZ c (f.a - c).toNat
  rw[show c+((f.a - c).toNat:Int)=f.a by omega] at h
  refine EY _ _ _ _ _ h ⟨rfl,?_,by dsimp only;omega,?_⟩;have:=hid f au
  dsimp only;omega
  dsimp only;rw[show f.a+max 1 (f.b - f.a)=f.b by omega];exact LQ d e f.b aa g λj k=>hid j (by simp[k])
def LR(c:Int): ∀(d:List iH)(a:Int),a<=c->ez c a d=true->((o6 c a d).length:Int)<=c - a
 | [],a,g,_=>by
  unfold o6;rw[ye];omega
 | f::d,a,g,e=>by
  unfold ez at e
  split at e
  cases e
  have:=LR c d f.b aa e
  unfold o6;rw[b3,dV,ye];omega
def LS: ∀(c:List iI)(a b:Int),i7 a c b->a<=b
 | [],a,b,d=>by unfold i7 at d;omega
 | x::c,a,b,d=>by
  obtain⟨_,_,f,e⟩:=d;have:=LS c _ _ e
  omega
def LT: ∀(a:List iI)(d e:Int),i7 d a e-> ∀b∈a,d<=b.row/\b.row<e
 | [],_,_,_,b,c=>by simp at c
 | y::a,d,e,g,b,c=>by
  obtain⟨h,_,i,f⟩:=g;have j:=LS a _ _ f
  rcases eJ.1 c with rfl | c
  omega
  have:=LT a _ _ f b c
  omega
variable {E:List iI}
def XI{a:Int}(b:i7 F E a)(c:F<a):1<=E.length:=by
 cases E with
 | nil=>unfold i7 at b;omega
 | cons d E=>simp
structure pZ where
 A:Option Addr
 c:Nat
 l:List iH
abbrev pZ.val(a:pZ):Value:= .slice a.A a.l.length a.c
abbrev pZ.aD(a:pZ):Chunk:=Mq.aD 318 oe a.A a.c a.l
structure ns where
 A:Option Addr
 c:Nat
 l:List iI
abbrev ns.val(a:ns):Value:= .slice a.A a.l.length a.c
abbrev ns.aD(a:ns):Chunk:=Mq.aD 94 mz a.A a.c a.l
abbrev LU(a:iI):Value:= .agg a.enc.toArray
abbrev v8(a:iI):Prop:=(0<=a.row/\a.row<=1000000)/\0<=a.hid/\a.hid<=1000000
abbrev yf :=gu (λa:Bool=> .bool a) (λ_=>True) d
def XJ(f:iI)(g:Int)(n:v8 f):ay 224 [LU f,ad g] d (yf d):=by
 refine ba func224 ntmps224 ?_;refine ap ?_;intro o p q;refine bP ?_;focus (refine (cj) (λh=>?_) λh=>?_;refine b6 ?_;rotate_left;refine aY ?_;refine bl 15 rfl (λa=>?_) λa=>?_;(focus have i:=bg a;refine aY ?_;refine bl 20 rfl (λb=>?_) λb=>?_;(focus have j:=bg b;refine aY ?_;refine bl 25 rfl (λc=>?_) λc=>?_;(focus have k:=bg c;refine be ?_;refine bl 31 rfl (λe=>?_) λe=>?_;have l:=bg e;refine gR ?_;rotate_left;have l:=bm e;refine cn ?_);rotate_left 2;have k:=bm c;refine fT ?_);rotate_left 3;have j:=bm b;refine lB ?_);rotate_left 4;have i:=bm a;refine B1 ?_;all_goals (intro r m;exact gu.of _ bh rfl m.ext))
def XK(a:iI)(b:Nat)(c:Int)(e:v8 a)(f: (aG b [ad c] 3).pred d):Calls prog 223 ([]++[LU a]++[ptr b]).toArray d (yf d):=by
 refine ba func223 ntmps223 ?_;refine ap ?_;intro i j k;refine aH ?_;refine bb bY rfl rfl (λl g=>g.cc f (by (simp;done)) rfl) ?_;refine kH (XJ · a c e) λh _=>?_;refine aI ?_;exact eN h bh
def XL(h:List iI)(j:Rd mz d f e g i h)(m: ∀n∈h,v8 n)(D:g<=1000000)(b:Nat)(k:Int)(o: (aG b [ad k] 3).pred d):
 ay 222 [.slice e g i,.func (.func 223) #[] #[ptr b]] d (gu (λc:Int=>ad c) (λc=> -1<=c/\c<g) d):=by
 have E:=j.len
 refine ba func222 ntmps222 ?_;refine cZ ?_;refine cd (ι:=Nat) (λa=>[(0,.slice e g i),(1,.func (.func 223) #[] #[ptr b]),(6,.slice e g i),(7,ad (g:Int)),(8,ad (a:Int))]) (λ_=>ag d [] []) (λa=>a<=g) (λa=>g - a) ?_ ?_;exact λF p=>⟨0,b4 _,(en rfl rfl rfl rfl rfl),p⟩
 intro a G;refine (aE) (λq=>?_) λq=>b6 ?_;obtain⟨v,l⟩ : ∃v,h[a]? = some v:=⟨_,bD aa⟩;obtain⟨H,r,I,s⟩:=j.at_ l;have t:=m v<|cR l
 refine dO ?_;refine bE (q:=a) qk rfl rfl rfl r rfl aa<|cE (vs:=v.enc) Gb rfl rfl rfl (λJ u w x y=>u.ch (s w x y) au)<|k_ (l0:=[]) (first:=[]) (cap:=[ptr b]) aP.nil rfl rfl cL rfl (λz A=>XK z v b k t<|A.ew o au) λK _=>?_;refine aA ?_;refine cD rfl (λB=>cn ?_) λB=>aU ?_;exact eN (a:Int) ⟨aa,aa⟩;exact bv (a+1) aa aa b5 λ_ C=>C;exact eN (-1) ⟨aa,aa⟩
def XM(b:List iI)(j:Rd mz d f e g i b)(k: ∀l∈b,v8 l)(m:g<=1000000)(c:Int):
 ay 148 [.slice e g i,ad c] d (gu (λa:Int × Bool=> .tuple #[ad a.1,.bool a.2]) (λa=>0<=a.1/\a.1<=g) d):=by
 refine ba func148 ntmps148 ?_;refine ap ?_;intro n q r;refine aY ?_;refine bK (l0:=[]) aP.nil (λo h=>XL o f e g i b (j.ext h.ext au) k m n c<|h.has bw) λs t=>dO ?_;exact λu p=>gu.of (_,_) bL rfl p.ext
def XN(j:List iI)(k:Rd mz d f e g i j)(u:g<=1000000)(c a:Int)(v: -10000000000000<=c/\c<=10000000000000)(w:0<=a/\a<=1000000):
 ay 89 [.slice e g i,ad c,ad a] d (aX (λb:ns × Int=> .tuple #[b.1.val,ad b.2]) [] (λb=>[b.1.aD]) (λb=>(b.1.l.length:Int)=min (g:Int) a/\0<=b.2/\b.2+b.1.l.length<=g/\ ∀m∈b.1.l,m∈j) d):=by
 have x:=k.len
 have y:=k.cap
 refine ba func89 ntmps89 ?_;obtain⟨p,n⟩ : ∃p:Nat,max 0 (min c<|(g:Int) - max 0 a)=(p:Int):=⟨(max 0<|min c<|(g:Int) - max 0 a).toNat,aa⟩;obtain⟨h,o⟩ : ∃h:Nat,min (g:Int) (max 0 (min c<|(g:Int) - max 0 a)+min (max 0 a) (g:Int))=(h:Int):=⟨(min (g:Int)<|max 0 (min c<|(g:Int) - max 0 a)+min (max 0 a) (g:Int)).toNat,aa⟩;have z: ((j.take h).drop p).length=h - p:=by rw[fL,dR];omega
 refine Ox ?_;refine gp p h qk rfl rfl (.inl ⟨_,_,rfl,rfl,n⟩) (.inl ⟨_,_,rfl,rfl,o⟩) aa aa<|rv 94 3 ?_;refine rR (E:=mz) (src:=(j.take h).drop p) (F:=f) (m:=0) (xs:=[]) ((j.take h).drop p).length aa qk rfl rfl rfl (λ_=>by exact cJ) (λA q=>(k.cut aa aa).ext q.ext au) (by simp only[maxLen];omega) aa λr s=>?_;refine aU ?_;exact jG (⟨r,s,(j.take h).drop p⟩,max 0<|min c<|(g:Int) - max 0 a) ⟨by dsimp only;omega,by dsimp only;omega,by dsimp only;omega,λm t=>hz<|kv t⟩
def XO(a:List iH)(u:Rd oe d f e g i a)(M:g<=1000000)(b:Int):
 ay 227 [ad b,.slice e g i] d (Pure (.bool<|ez b 0 a) d):=by
 have N:=u.len
 refine ba func227 ntmps227 ?_;refine fT ?_;refine cd (ι:=Nat × Int) (λc=>[(0,ad b),(5,ad c.2),(8,.slice e g i),(9,ad (g:Int)),(10,ad (c.1 :Int))]) (λ_=>ag d [] []) (λc=>c.1<=g/\ez b 0 a=ez b c.2 (a.drop c.1)) (λc=>g - c.1) ?_ ?_;exact λO z=>⟨(0,0),⟨b4 _,rfl⟩,(en rfl rfl rfl rfl rfl),z⟩
 rintro⟨h,o⟩ ⟨A,w⟩;dsimp only at A w ⊢
 rw[w];refine (aE) (λB=>?_) λB=>b6 ?_;obtain⟨⟨l,j,id⟩,x⟩ : ∃v,a[h]? = some v:=⟨_,bD aa⟩;obtain⟨P,C,Q,D⟩:=u.at_ x;have y:a.drop h=⟨l,j,id⟩::a.drop (h+1):=by
  obtain⟨p,E⟩:=cH.1 x;rw[lY p,E]
 have F: ¬(l<o\/j<=l\/b<j)->ez b o (a.drop h)=ez b j (a.drop<|h+1):=λm=>by rw[y,ez,ai m]
 have q: (l<o\/j<=l\/b<j)->false=ez b o (a.drop h):=λm=>by rw[y,ez,aB m]
 refine aH ?_;refine bE (q:=h) ql rfl rfl rfl C rfl aa<|cE (vs:=[ad l,ad j,.int .u64 id]) BM rfl rfl rfl (λR p G H I=>p.ch (D G H I) au)<|av ?_;intro S T U;refine bP ?_;refine bl 18 rfl (λr=>?_) λr=>?_;have J:=bg r
 refine y8 ?_;exact λs k=>⟨a_ (λn=>Ending.returned<|Value.bool n)<|q aa,k.ext⟩
 have J:=bm r
 refine b6 ?_;refine bl 25 rfl (λt=>?_) λt=>?_;have K:=bg t
 refine lb ?_;exact λs k=>⟨a_ (λn=>Ending.returned<|Value.bool n)<|q aa,k.ext⟩
 have K:=bm t
 refine (aE) (λL=>cn ?_) λL=>cn ?_;exact λs k=>⟨a_ (λn=>Ending.returned<|Value.bool n)<|q aa,k.ext⟩
 exact bv (h+1,j) ⟨aa,F aa⟩ bL b5 λ_ m=>m.aF aP.nil;exact λs k=>⟨by rw[p5 (l:=a) aa];rfl,k.ext⟩
def XP(c:List iH)(s:Rd oe d f e g i c)(L:g<=1000000)(a:Int):
 ay 229 [ad a,.slice e g i] d (aX (λh:pZ=>h.val) [] (λh=>[h.aD]) (λh=>h.l=jw a 0 c) d):=by
 have M:=s.len
 refine ba func229 ntmps229 ?_;refine qp ?_;refine dh (H':=ag d [] [pZ.aD ⟨none,0,[]⟩]) (av ?_) (Sub.refl _) λN x=>x.e4 318 oe;refine cd (ι:=Nat × Int × pZ) (λb=>[(0,ad a),(5,b.2.2.val),(6,ad b.2.1),(9,.slice e g i),(10,ad (g:Int)),(11,ad (b.1 :Int))]) (λb=>ag d [] [b.2.2.aD]) (λb=>b.1<=g/\b.2.2.l.length<=b.1/\jw a 0 c=b.2.2.l++jw a b.2.1 (c.drop b.1)) (λb=>g - b.1) ?_ ?_;exact λO y=>⟨(0,0,⟨none,0,[]⟩),⟨b4 _,b4 _,rfl⟩,(jF rfl rfl rfl rfl rfl rfl),y⟩
 rintro⟨j,o,h⟩ ⟨z,A,p⟩;dsimp only at z A p ⊢
 refine (aE) (λB=>?_) λB=>cn ?_;obtain⟨⟨m,n,id⟩,t⟩ : ∃v,c[j]? = some v:=⟨_,bD aa⟩;obtain⟨P,C,Q,D⟩:=s.at_ t;have u:c.drop j=⟨m,n,id⟩::c.drop (j+1):=by
  obtain⟨q,E⟩:=cH.1 t;rw[lY q,E]
 have w: ¬(max 0 m<min n a/\o<=max 0 m)->jw a 0 c=h.l++jw a o (c.drop<|j+1):=λk=>by rw[p,u,jw,ai k]
 have F: (max 0 m<min n a/\o<=max 0 m)->jw a 0 c=(h.l++[⟨max 0 m,min n a,id⟩])++jw a (min n a) (c.drop<|j+1):=λk=>by rw[p,u,jw,aB k];simp
 refine aH ?_;refine bE (q:=j) ql rfl rfl rfl C rfl aa<|cE (vs:=[ad m,ad n,.int .u64 id]) BM rfl rfl rfl (λR q G H I=>q.ch (D G H I) au)<|av ?_;intro S T U;refine oI ?_;refine bl 29 rfl (λr=>?_) λr=>?_;have J:=bg r
 refine (aE) (λK=>a7 ?_) λK=>aU ?_;refine ef (E:=oe) ⟨_,_,_⟩ ql rfl rfl rfl rfl rfl λV W X=>fu (E:=oe) ql rfl rfl rfl bx (λ_ _=>fs) cg cg λY Z=>cZ ?_;exact bv (j+1,min n a,⟨_,_,h.l++[⟨max 0 m,min n a,id⟩]⟩) ⟨aa,by dsimp only;rw[b3,kt];omega,F aa⟩ bL (jF rfl rfl rfl rfl rfl rfl) λ_ k=>k.aF ah;exact bv (j+1,o,h) ⟨aa,by dsimp only;omega,w aa⟩ bL b5 λ_ k=>k.aF ah;have J:=bm r
 refine dO ?_;exact bv (j+1,o,h) ⟨aa,by dsimp only;omega,w aa⟩ bL b5 λ_ k=>k.aF ah;exact jG h (by rw[p,p5 (l:=c) aa];simp[jw])
abbrev q9(a:ns)(b:Int):List Chunk:=[aG g [a.val] 90,aG i [ad b] 3,a.aD]
def XQ :nr q (g+1)=nr q g++[⟨q+g,0,0⟩]:=rfl
def LV(e:ns)(a b:Int)(m:bc d (q9 g i e a))(x:0<=a)(y:b<=1000000)(z:e.l.length<=1000000):
 Calls prog 228 ([]++[Value.int .i64 b]++[ptr i,ptr g]).toArray d (aX (λ_:ns=> .tuple #[]) (q9 g i e a) (q9 g i · (max a b)) (λf=>f.l=e.l++nr a (b - a).toNat) d):=by
 refine bX func228 ntmps228 m ?_;refine av ?_;refine cd (ι:=Nat × ns) (λ_=>[(0,ad b),(1,ptr i),(2,ptr g)]) (λc=>ag d (aK<|q9 g i e a)<|q9 g i c.2<|a+c.1) (λc=>(c.1=0\/a+c.1<=b)/\c.2.l=e.l++nr a c.1) (λc=>(b - a).toNat - c.1) ?_ ?_;exact λA n=>⟨(0,e),⟨.inl rfl,by simp[nr]⟩,(ed rfl rfl rfl),by rw[show a+((0 :Nat):Int)=a by omega];exact n⟩
 rintro⟨k,f⟩ ⟨o,h⟩;dsimp only at o h ⊢
 have B:f.l.length=e.l.length+k:=by rw[h,b3,ye]
 obtain⟨q,j⟩ : ∃q,q=a+(k:Int):=⟨_,rfl⟩;rw[<-j];refine (aE) (λp=>aY ?_) λp=>aI ?_;refine ef (E:=mz) ⟨_,_,_⟩ qk rfl rfl rfl rfl rfl λC D E=>fu (E:=mz) qk rfl rfl rfl bx (λ_ _=>l4) cg cg λr s=>a6 ?_;refine bv (k+1,⟨r,s,f.l++[⟨q,0,0⟩]⟩) ⟨.inr bL,by dsimp only;rw[h,XQ,ec,<-j]⟩ bL (ed rfl rfl rfl) λ_ t=>?_;rw[show a+((k+1 :Nat):Int)=q+1 by omega];exact t.aF ah;intro F u;have v:max a b=q:=by omega
 have w: (b - a).toNat=k:=by omega
 refine aX.cf f (by rw[h,w]) rfl ?_;rw[v];exact u.aF ah
def XR(d:Int)(c:iH)(l:List iH):o6 q d (c::l)=nr d (c.a - d).toNat++⟨c.a,c.id,c.b - c.a⟩::o6 q c.b l:=rfl
def XS(c:List iH)(y:Rd oe d f e g i c)(E:g<=1000000)(b:Int)(F:0<=b/\b<=200000)(B:ez b 0 c=true):
 ay 151 [ad b,.slice e g i] d (aX (λh:ns=> .tuple #[h.val,z0]) [] (λh=>[h.aD]) (λh=>h.l=o6 b 0 c) d):=by
 have V:=y.len
 refine ba func151 ntmps151 ?_;refine b6 ?_;refine bO rfl rfl (bJ aa)<|av ?_;refine bO rfl rfl (bJ aa)<|av ?_;refine hd rfl rfl (bJ aa) rfl<|av ?_;refine bO rfl rfl (bJ aa)<|av ?_;refine bO rfl rfl (bJ aa)<|av ?_;refine bO rfl rfl (bJ aa) ?_;refine bd (λs t=>(by have o:=XO s f e g i c (y.ext t.ext au) E b;rw[B] at o;exact o)) ?_;refine bO rfl rfl (bJ aa)<|av ?_;refine hd rfl rfl (bJ aa) rfl<|aU ?_;refine sP NV rfl λj W X=>a7 ?_;refine sP bY rfl λk Y Z=>ft ?_;refine dh (H':=ag d []<|q9 j k ⟨none,0,[]⟩ 0) (av ?_) (Sub.refl _) λZa G=>(G.e4 94 mz).aF ah;refine cd (ι:=Nat × ns × Int) (λa=>[(0,ad b),(6,ptr j),(7,ptr k),(8,.func (.func 228) #[] #[ptr k,ptr j]),(24,.slice e g i),(25,ad (g:Int)),(26,ad (a.1 :Int))]) (λa=>ag d []<|q9 j k a.2.1 a.2.2) (λa=>a.1<=g/\(a.2.1.l.length:Int)<=a.2.2/\0<=a.2.2/\a.2.2<=b/\ez b a.2.2 (c.drop a.1)=true/\o6 b 0 c=a.2.1.l++o6 b a.2.2 (c.drop a.1)) (λa=>g - a.1) ?_ ?_;exact λZb H=>⟨(0,⟨none,0,[]⟩,0),⟨b4 _,by simp,by simp,F.1,B,rfl⟩,(jg rfl rfl rfl rfl rfl rfl rfl),H⟩
 rintro⟨u,h,p⟩ ⟨I,J,z,K,n,q⟩;dsimp only at I J z K n q ⊢
 refine (aE) (λL=>?_) λL=>?_;obtain⟨⟨m,r,id⟩,C⟩ : ∃v,c[u]? = some v:=⟨_,bD aa⟩;obtain⟨Zc,M,Zd,N⟩:=y.at_ C;have D:c.drop u=⟨m,r,id⟩::c.drop (u+1):=by
  obtain⟨A,O⟩:=cH.1 C;rw[lY A,O]
 rw[D,ez] at n
 rw[D,XR] at q
 dsimp only at n q
 have P: ¬(m<p\/r<=m\/b<r):=λo=>by rw[aB o] at n;cases n
 rw[ai P] at n
 refine aH ?_;refine bE (q:=u) ql rfl rfl rfl M rfl aa<|cE (vs:=[ad m,ad r,.int .u64 id]) BM rfl rfl rfl (λZe A Q R S=>A.ch (N Q R S) au)<|av ?_;intro Zf Zg Zh;refine aY ?_;refine k_ (l0:=q9 j k h p) (first:=[]) (cap:=[ptr k,ptr j]) ah rfl rfl cL rfl (λs t=>LV s j k h p m (t.cb ah) z aa aa) λw x=>?_;have Zi:w.l.length=h.l.length+(m - p).toNat:=by rw[x,b3,ye]
 refine dO ?_;refine ef (E:=mz) ⟨_,_,_⟩ qk rfl rfl rfl rfl rfl λZj Zk Zl=>fu (E:=mz) qk rfl rfl rfl bx (λ_ _=>l4) cg cg λT U=>cZ ?_;refine bv (u+1,⟨T,U,w.l++[⟨m,id,r - m⟩]⟩,r) ⟨aa,by dsimp only;rw[b3,kt];omega,by dsimp only;omega,by dsimp only;omega,n,by dsimp only;rw[q,x];simp⟩ bL (jg rfl rfl rfl rfl rfl rfl rfl) λ_ o=>o.aF ah;rw[p5 (l:=c) aa] at q
 refine a6 ?_;refine k_ (l0:=q9 j k h p) (first:=[]) (cap:=[ptr k,ptr j]) ah rfl rfl cL rfl (λs t=>LV s j k h p b (t.cb ah) z aa aa) λw x=>bP ?_;exact jG w (by rw[q,x];rfl)
def XT:Shelf.Ren:=⟨λ| 125=>319 | 128=>402 | 129=>403 | 189=>225 | 215=>464 | 216=>399 | 257=>318 | 294=>393 | 295=>394 | 296=>395 | 297=>396 | 298=>397 | 299=>398 | 300=>400 | 301=>401 | 328=>459 | 329=>460 | 330=>461 | 331=>462 | 332=>463 | 343=>489 | n=>n,λ| 0=>0 | 3=>3 | 4=>4 | 5=>5 | 9=>9 | 28=>176 | 46=>276 | 51=>118 | 53=>63 | 131=>254 | 182=>419 | 183=>420 | 218=>457 | 222=>461 | 228=>474 | 229=>98 | n=>n,λn=>n⟩
def LW:Lays.n189 prog XT where
 mixed:=by kernel_rfl
 f125:=func319.trans<|a_ some ak
 f128:=func402.trans<|a_ some ak
 f129:=func403.trans<|a_ some ak
 f189:=func225.trans<|a_ some ak
 f215:=func464.trans<|a_ some ak
 f216:=func399.trans<|a_ some ak
 f257:=func318.trans<|a_ some ak
 f294:=func393.trans<|a_ some ak
 f295:=func394.trans<|a_ some ak
 f296:=func395.trans<|a_ some ak
 f297:=func396.trans<|a_ some ak
 f298:=func397.trans<|a_ some ak
 f299:=func398.trans<|a_ some ak
 f300:=func400.trans<|a_ some ak
 f301:=func401.trans<|a_ some ak
 f328:=func459.trans<|a_ some ak
 f329:=func460.trans<|a_ some ak
 f330:=func461.trans<|a_ some ak
 f331:=func462.trans<|a_ some ak
 f332:=func463.trans<|a_ some ak
 f343:=func489.trans<|a_ some ak
 t0:=underlying0
 a0:=isAgg0
 z0:=sizeOf0
 v0:=zeroValue0
 t3:=underlying3
 a3:=isAgg3
 z3:=sizeOf3
 v3:=zeroValue3
 t4:=underlying4
 a4:=isAgg4
 z4:=sizeOf4
 v4:=zeroValue4
 t5:=underlying5
 a5:=isAgg5
 z5:=sizeOf5
 v5:=zeroValue5
 t9:=underlying9
 a9:=isAgg9
 z9:=sizeOf9
 v9:=zeroValue9
 t28:=underlying176
 a28:=isAgg176
 z28:=sizeOf176
 v28:=zeroValue176
 t46:=underlying276
 a46:=isAgg276
 z46:=sizeOf276
 v46:=zeroValue276
 t51:=underlying118
 a51:=isAgg118
 z51:=sizeOf118
 v51:=zeroValue118
 t53:=underlying63
 a53:=isAgg63
 z53:=sizeOf63
 v53:=zeroValue63
 t131:=underlying254
 a131:=isAgg254
 z131:=sizeOf254
 v131:=zeroValue254
 t182:=underlying419
 a182:=isAgg419
 z182:=sizeOf419
 v182:=zeroValue419
 t183:=underlying420
 a183:=isAgg420
 z183:=sizeOf420
 v183:=zeroValue420
 t218:=underlying457
 a218:=isAgg457
 z218:=sizeOf457
 v218:=zeroValue457
 t222:=underlying461
 a222:=isAgg461
 z222:=sizeOf461
 v222:=zeroValue461
 t228:=underlying474
 a228:=isAgg474
 z228:=sizeOf474
 v228:=zeroValue474
 t229:=underlying98
 a229:=isAgg98
 z229:=sizeOf98
 v229:=zeroValue98
def XU:Shelf.Ren:=⟨λ| 20=>226 | n=>n,λ| 0=>0 | 3=>3 | 4=>4 | 22=>176 | n=>n,λn=>n⟩
def LX:Lays2.n20 prog XU where
 mixed:=by kernel_rfl
 f20:=func226.trans<|a_ some ak
 t0:=underlying0
 a0:=isAgg0
 z0:=sizeOf0
 v0:=zeroValue0
 t3:=underlying3
 a3:=isAgg3
 z3:=sizeOf3
 v3:=zeroValue3
 t4:=underlying4
 a4:=isAgg4
 z4:=sizeOf4
 v4:=zeroValue4
 t22:=underlying176
 a22:=isAgg176
 z22:=sizeOf176
 v22:=zeroValue176
 i3:=by kernel_rfl
structure hU where
 A:Option Addr
 c:Nat
 l:List Int
abbrev hU.val(a:hU):Value:= .slice a.A a.l.length a.c
abbrev hU.aD(a:hU):Chunk:=Mq.aD 3 ct a.A a.c a.l
def t_: ∀b:List Int,ct.all b=b.map (Value.int .i64)
 | []=>rfl
 | a::b=>by
  show [Value.int .i64 a]++ct.all b=_
  rw[t_ b];rfl
def LY{c:Nat}{z:List Int}(l: (aD h ct (some ⟨s,0,none⟩) c o).pred j)(y:z.length=o.length)(g:Nat)(d:Array Obj):
 (aD h ct (some ⟨s,0,none⟩) c z).pred (Sort.grow (Sort.putRow (Value.int .i64) (Sort.ahead j g) s 0 z.toArray) d)/\Ext [s] j (Sort.grow (Sort.putRow (Value.int .i64) (Sort.ahead j g) s 0 z.toArray) d):=by
 obtain⟨A,m | ⟨B,C,e,n,_,i,D,p,k,E⟩⟩:=(l:j.ownsRow 0 h 1 (.slice (some ⟨s,0,none⟩) o.length c) o.length (ct.all o));cases m.1
 injection n with b F q
 injection b with b
 injection b with b
 subst b;subst q
 have r:s<j.heap.size:=(lr.1 i).1
 refine⟨?_,rfl,rfl,rfl,by simp[Sort.grow,Sort.putRow,Sort.mapBlock],λt u v=>?_⟩;refine⟨by rw[ct.eD],.inr ⟨s,c,Sort.putCells (Value.int .i64) 0 z.toArray e,rfl,b4 _,?_,aa,p,by rw[Sort.putCells,Array.size_mapIdx];exact k,?_⟩⟩;show ((j.heap.modify s _)++d)[s]? = _
 rw[wn (by simpa using r),rg,aB rfl,i];rfl
 rw[t_];apply jY
 intro a;rw[iu,fw];by_cases f:a<z.length
 have G:e.size=c:=by rw[k];exact Nat.mul_one _
 have w:a<e.size:=by omega
 rw[aB (show a<z.length*ct.ax by show a<z.length*1;omega),Array.getElem?_toList,Sort.putCells,Array.getElem?_mapIdx,rf w,o_,aB ⟨b4 _,by simpa using f⟩,bD f,o_,getElem!_pos z.toArray (a - 0)<|by simpa using f];simp
 rw[ai (show ¬a<z.length*ct.ax by show ¬a<z.length*1;omega),hK aa];rfl
 show ((j.heap.modify s _)++d)[t]? = _
 rw[wn (by simpa using u),rg,ai λx=>v<|by simp[x]]
def LZ{b:Nat}(g: (aD h ct (some ⟨s,0,none⟩) b o).pred j):Sort.Holds (Value.int .i64) j s 0 o.toArray/\s<j.heap.size/\o.length<=b/\b<=maxLen:=by
 obtain⟨t,i | ⟨u,v,k,l,_,e,m,n,w,p⟩⟩:=(g:j.ownsRow 0 h 1 (.slice (some ⟨s,0,none⟩) o.length b) o.length (ct.all o));cases i.1
 injection l with a x q
 injection a with a
 injection a with a
 subst a;subst q
 refine⟨λc f=>⟨?_,by simp[World.frozen?,e]⟩,(lr.1 e).1,m,n⟩;have r:c<o.length:=by simpa using f
 rw[cell_of_row j s _ k h (0,0) e,ev];have d: (ct.all o)[c]? = some (ad o[c]):=by rw[t_,fw,bD r];rfl
 rw[<-p,iu] at d
 split at d
 rw[getElem!_pos _ c f];simpa using d
 cases d
def XV{w:World}{j:Nat}(a:j<=u.length)(c: (Mq.aD h G k s u).pred w): (Mq.aD h G k s<|u.take j).pred w:=by
 have b:=Ey (e:=h) (sz:=G.ax) a c
 rw[<-b1.EB] at b
 show w.ownsRow 0 _ _ (.slice k (u.take j).length s) (u.take j).length _
 rw[dR,jZ a];exact b
def L0{e:Nat}(a: (Mq.aD e G k h u).pred j)(b:0<u.length): ∃c,k=some ⟨c,0,none⟩:=xD a b
def XW(w:World)(z:hU)(b:bc w [z.aD])(n:z.l.length<=1000000):ay 225 [z.val] w
 (aX (λ_:List Int=> .tuple #[]) [z.aD] (λa=>[hU.aD ⟨z.A,z.c,a⟩]) (λa=>a.length=z.l.length) w):=by
 have h:=b.start w rfl
 rcases hV z.l.length with ar | ar
 have:=calls_of_every_depth λo=>AnyS.slices_Sort_int_none_alone LW o z.A z.c w
 show Calls prog _ #[.slice z.A z.l.length z.c] w _
 rw[ar];refine Calls.mono this ?_;rintro p q ⟨rfl,rfl⟩;exact aX.cf z.l ar rfl h;obtain⟨d,i⟩:=L0 (e:=3) (b.all z.aD au) ar;obtain⟨v,e,a⟩:=z;dsimp only at i
 subst i;have j: (aD 3 ct (some ⟨d,0,none⟩) e a).pred w:=b.all (hU.aD ⟨some ⟨d,0,none⟩,e,a⟩) au
 obtain⟨r,s,x,y⟩:=LZ j;refine Calls.mono (Any.slices_Sort_int LW d 0 e a w r s<|by dsimp only at n;omega) ?_;rintro p q ⟨rfl,k,t,rfl⟩;have m:=LY j (z:=a.mergeSort λf g=>decide<|f<=g) (by rw[List.length_mergeSort]) k t
 exact aX.cf (a.mergeSort λf g=>decide<|f<=g) (by rw[List.length_mergeSort]) rfl<|h.iM bC.head m.2 m.1 (λk u=> .inl u) (by simp[Mq.aD,own,Value.ownBlock])
def XX(w:World)(z:hU)(f:bc w [z.aD])(o:z.l.length<=1000000):ay 226 [z.val] w
 (aX (λb:hU=>b.val) [z.aD] (λb=>[b.aD]) (λb=>b.l.length<=z.l.length) w):=by
 have i:=f.start w rfl
 rcases hV z.l.length with ar | ar
 have:=calls_of_every_depth λg=>AnyS.slices_Compact_int_empty_in LX g z.A z.c w
 show Calls prog _ #[.slice z.A z.l.length z.c] w _
 rw[ar];refine Calls.mono this ?_;rintro p q ⟨rfl,rfl⟩;exact aX.cf z aa (by rw[hU.val,ar]) i;obtain⟨d,j⟩:=L0 (e:=3) (f.all z.aD au) ar;obtain⟨v,e,a⟩:=z;dsimp only at j
 subst j;have k: (aD 3 ct (some ⟨d,0,none⟩) e a).pred w:=f.all (hU.aD ⟨some ⟨d,0,none⟩,e,a⟩) au
 obtain⟨r,x,s,y⟩:=LZ k;refine Calls.mono (calls_of_every_depth λg=>AnyS.slices_Compact_int_in LX g d 0 e a w r (by dsimp only at o;omega) s) ?_;rintro p q ⟨rfl,m,rfl⟩;have t:=Lib.compact_length_le a
 have h:=LY k (z:=Lib.compact a++List.replicate (a.length - (Lib.compact a).length) 0) (by simp;omega) m #[]
 rw[Sort.grow_empty] at h
 have n:=XV (j:=(Lib.compact a).length) au h.1
 rw[List.take_left] at n
 exact aX.cf ⟨some ⟨d,0,none⟩,e,Lib.compact a⟩ t rfl<|i.iM bC.head h.2 n (λm u=> .inl u) (by simp[Mq.aD,own,Value.ownBlock])
