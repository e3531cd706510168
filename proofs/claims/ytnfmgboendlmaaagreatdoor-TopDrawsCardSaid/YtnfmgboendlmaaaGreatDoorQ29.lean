/- part 29 of the proof -/
import Derived.Test.YtnfmgboendlmaaaGreatDoorQ28
set_option linter.all false
namespace Go.Proofs.YtnfmgboendlmaaaGreatDoor.Mq
open RowKit Tryz
variable {P:Program}{n d:Nat}{ops:Array Oper}{Q:cN}{rest:List Oper}{l:Fr}{ty:TypeId}{pos:String}{bf:Array Edge}{b:World}{S:List Nat}
variable [Inhabited vP]{J:Bool}{Y:Code}{F:Fr}{u:Int}{e:List (List Int)}{o:Nat}{W:Program}{x:Type}{Z:World}{E:cN}{w:eO}{D:fW}{C:mm}(a:World)(O:cN)(K:Int)(s:Nat->Prop)(i:Nat)(r:Option Addr)(B:List (List Int))(z:Nat)(t:Chunk)(y:bM){V:x->Fr}{M:x->Prop}{I:x->World->Prop}(U:x->Fr)(H:x->World->Prop)(L:x->Prop)
structure cA where
 am:a1
 br:a1
 use:Bool
 cr:Nat
 cy:List UInt8
 buf:List UInt8
 aQ:List n1
def bM.abs(a:bM):cA:=⟨a.am.abs,a.br.abs,a.use,a.cr,a.cy,a.buf.l,a.aQ.l⟩
def n_(g par:Nat)(X:Chunk)(R:Int)(m:Nat)(T:bM)(q:Option cA)(c:World):Ending->World->Prop:=aX (λ_:bM=> .tuple #[]) (b0 g par X T) (b0 g par X) (λa=>cK g R m a/\ ∀b,q=some b->a.abs=b) c
section
variable {args:List Operand}{di:Array TypeId}{f:FuncId}{vs:List Value}{v:Value}{g par k m p:Nat}{R:Int}{T:bM}{X gm:Chunk}{q:a1}
def q2(j:cK g R m T)(o:ds k T.am.abs q)(r:dd T.am.abs->dd q)(s:p=T.am.g)
 (t: ∀c,bc c (a8 T.am)->Calls P f (ptr T.am.g::vs).toArray c (e2 T.am v q c))
 (u: ∀a:bM,cK g R (m+k) a->p=a.am.g->mr T a->a.abs= { T.abs with am:=q }->a.cr=T.cr->aM P n ops Q rest ((d,v)::l) (ag b S<|gm::b0 g par X a)) (hargs:db l args=some (ptr p::vs):=by exact rfl) (w:Nat.blt d n=true:=by exact rfl) (x:dX P f:=by exact cL):
 aM P n ops Q (⟨some d,.call ⟨.value<|.func f,args.toArray,di⟩,ty,pos,bf,none⟩::rest) l (ag b S<|gm::b0 g par X T):=by
 subst s;refine ml (l0:=a8 T.am) (l':=a8) (cs1:=λh=>[gm,eu g par T,aZ<|a8 h,aZ<|a8 T.br,T.buf.aD,T.aQ.aD,X]) (λh=>bC.tail<|bC.tail bC.head) (hd:=w) (hcb:=x) (hargs:=hargs) (λc y=>t c<|y.mj<|Has.tail<|Has.tail Has.head) λh e=>?_;have i:=u { T with am:=h } (j.tG<|e.im o r) e.g.symm ⟨rfl,e.g,rfl⟩ (by simp only[bM.abs,e.abs]) rfl
 simp only[b0] at i
 rw[tH e.g] at i
 exact i
def Vw(j:cK g R m T)(o:ds k T.am.abs q)(p:dd T.am.abs->dd q)
 (r: ∀h,ag b S (gm::b0 g par X T) h->Calls P f vs.toArray h (e2 T.am v q h))
 (s: ∀a:bM,cK g R (m+k) a->mr T a->a.abs= { T.abs with am:=q }->aM P n ops Q rest ((d,v)::l) (ag b S<|gm::b0 g par X a)) (t:db l args=some vs:=by exact rfl) (u:Nat.blt d n=true:=by exact rfl) (w:dX P f:=by exact cL):
 aM P n ops Q (⟨some d,.call ⟨.value<|.func f,args.toArray,di⟩,ty,pos,bf,none⟩::rest) l (ag b S<|gm::b0 g par X T):=by
 refine ml (l0:=a8 T.am) (l':=a8) (cs1:=λc=>[gm,eu g par T,aZ<|a8 c,aZ<|a8 T.br,T.buf.aD,T.aQ.aD,X]) (λc=>bC.tail<|bC.tail bC.head) (hd:=u) (hcb:=w) (hargs:=t) r λc e=>?_;have i:=s { T with am:=c } (j.tG<|e.im o p) ⟨rfl,e.g,rfl⟩ (by simp only[bM.abs,e.abs])
 simp only[b0] at i
 rw[tH e.g] at i
 exact i
end
def kX(a:Int):Int:=max 1<|cp.oY B a 1
def pS(a:cA)(b:Int)(c:List (List Int)):Option (Bool × cA):=
 if b=72 then some (true,{ a with am:=me a.am (kX c 0 - 1) (kX c 1 - 1) }) else if b=88\/b=109 then some (false,a) else none
def oa(a:cA)(b:Int)(c:List (List Int)):Option (Bool × cA):=
 if b=88 then some (true,{ a with am:=qD a.am (kX c 0) }) else if b=109 then some (true,{ a with am:=sb a.am c }) else none
def AL(d:cA)(b:Int)(c:List (List Int)):Option cA:=((pS d b c).bind λa=>if a.1=true then some a else oa a.2 b c).map Prod.snd
def Eb(g par:Nat)(X:Chunk)(R:Int)(m:Nat)(T:bM)(q:Option (Bool × cA))(c:World):Ending->World->Prop:=aX (λa:Bool × bM=> .bool a.1) (b0 g par X T) (λa=>b0 g par X a.2) (λa=>cK g R m a.2/\ ∀b,q=some b->a.1=b.1/\a.2.abs=b.2) c
variable {h:Bool × cA}{G j:cA}
def Vx{b:Int}(a:pS j b e=some h)(d:b≠88/\b≠109)(c:b=72->G= { j with am:=me j.am (kX e 0 - 1) (kX e 1 - 1) }):true=h.1/\G=h.2:=by
 unfold pS at a
 split at a
 cases a;exact⟨rfl,c bR⟩
 rw[ai aa] at a;cases a
def Vy{b:Int}(a:pS j b e=some h)(c:b≠72):h=(false,j):=by
 unfold pS at a
 rw[ai c] at a
 split at a
 cases a;rfl
 cases a
def pT{b:Int}(a:oa j b e=some h)(c:b≠88/\b≠109):False:=by
 unfold oa at a
 rw[ai c.1,ai c.2] at a;cases a
def Vz{b:Int}(a:oa j b e=some h)(c:b=88):h=(true,{ j with am:=qD j.am (kX e 0) }):=by
 unfold oa at a
 rw[aB c] at a;cases a;rfl
def VA{b:Int}(a:oa j b e=some h)(c:b=109):h=(true,{ j with am:=sb j.am e }):=by
 unfold oa at a
 rw[ai aa,aB c] at a;cases a;rfl
def cp.VB(b d:Nat)(c:List (List Int))(g:cp.e3 a s r b d c)(h:b<=1000000)(i: ∀j∈c,j.length<=1000000)(e:Int):
 ay 282 [.slice r b d,ad e] a (λk f=>k= .returned (ad<|max 1<|cp.oY c e 1)/\Ext [] a f):=by
 refine ba func282 ntmps282 ?_;refine a6 ?_;refine bd (λf l=>cp.IW f s r b d c (g.ext l.ext au) h i e 1)<|aH ?_;exact λn m=>⟨rfl,m.ext⟩
def Kq(gs:List (List Int))(a b:Int)(j: -1<=b/\b<=65535): -1<=cp.oY gs a b/\cp.oY gs a b<=65535:=by
 have f:=Jx gs
 have k: -1<=cp.oX (cp.fM gs) a/\cp.oX (cp.fM gs) a<=65535:=by
  unfold cp.oX;split
  unfold cp.xw;generalize c: (cp.fM gs).getD a.toNat []=g
  cases g with
  | nil=>simp
  | cons d h=>
   have i: (d::h)∈cp.fM gs:=by
    rw[<-c,fY];cases e: (cp.fM gs)[a.toNat]? with
    | none=>rw[fY,e] at c;cases c
    | some l=>exact cR e
   exact (f.2 _ i).2.2 d List.mem_cons_self
  omega
 unfold cp.oY;split <;> omega
def qR.xJ(b:qR C): ∀a∈C.gs,a.length<=1000000:=λa c=>by have:=b.g a c;omega
def AM(d e:Nat)(g:cp.e3 a s r d e C.gs)(h:qR C)(f b:Int)(i: -1<=b/\b<=65535):
 ay 186 [.slice r d e,ad f,ad b] a (gu (λc:Int=>ad c) (λc=> -1<=c/\c<=65535) a):=
 (cp.IW a s r d e C.gs g (by have:=g.len;have:=h.n;omega) h.xJ f b).mono (λ_ _ ⟨j,k⟩=>by rw[j];exact gu.of _ (Kq C.gs f b i) rfl k)
def AN(d e:Nat)(f:cp.e3 a s r d e C.gs)(g:qR C)(b:Int):
 ay 282 [.slice r d e,ad b] a (gu (λc:Int=>ad c) (λc=>(1<=c/\c<=65535)/\c=kX C.gs b) a):=
 (cp.VB a s r d e C.gs f (by have:=f.len;have:=g.n;omega) g.xJ b).mono (λ_ _ ⟨h,i⟩=>by rw[h];exact gu.of (kX C.gs b) ⟨by have:=Kq C.gs b 1 aW;unfold kX;omega,rfl⟩ rfl i)
def Ec :cN
 | .normal,a,b=> ∃c,L c/\Sub a (U c)/\H c b
 | e,a,b=>O e a b
def jP{H:World->Prop}(a:x)(c:M a)(d:Sub F (V a))(e: ∀b,H b->I a b):eK (Ec E V I M) .normal F H:=λb f=>⟨a,c,d,e b f⟩
def Ed{H:World->Prop}(a:eK E .ret F H):eK (Ec E V I M) .ret F H:=λb c=>a b c
def Kr{H:World->Prop}(c:x->World->Prop)(d:x->Prop)(h:dA W o Y (Ec E U c d) F H)(i: ∀a,d a->eK E .normal (U a) (c a)):dA W o Y E F H:=by
 intro b j e k;refine wp_mono (h b j e k) ?_;rintro l e b ⟨m,f,g⟩;cases l with
 | normal=>
  obtain⟨a,n,p,q⟩:=g;exact⟨U a,f.sub p,i a n b q⟩
 | _=>exact⟨m,f,g⟩
set_option maxHeartbeats 1000000 in
def VC(Z:bc a (b0 i z t y))(q:n9 t w)(b:cK i u o y)(Zt:o<=1460000000000):
 ay 194 [ptr i,.agg w.enc.toArray] a (Eb i z t u (o+1000) y (pS y.abs w.byte w.nums.gs) a):=by
 have Q:=q.q1
 have Zu:=b.am.ok.nums
 have Zv:0<=y.am.x/\y.am.x<=1000:=by have Zw:=b.am.ok.x;have Zx:=b.am.ok.nums.2.1;simp only[bA.abs,a1.al] at *;omega
 refine bX func194 ntmps194 Z ?_;refine ap ?_;intro R Zy Zz;refine aH ?_;refine cU (gl · i z y ·)<|a7 ?_;refine bN [0,1,3,4] 2 [[(2,false,[]),(5,false,[6,7])]] ?_;refine aH ?_;refine bK (l0:=[]) aP.nil (λf l=>AN f _ _ _ _ (q.rd f<|l.has hM) q.ok.nums _) λZa Zb=>?_;refine ap ?_;refine bK (l0:=[]) aP.nil (λf l=>AN f _ _ _ _ (q.rd f<|l.has hM) q.ok.nums _) λZc Zd=>?_;refine cn ?_;refine Kr (λ_:bM=>[(0,ptr i),(3,ptr R),(5,ptr y.am.g)]) (λm=>ag a (aK<|b0 i z t y)<|aG R w.enc 129::b0 i z t m) (λm=>cK i u (o+10) m/\(w.byte=69\/w.byte=70->y.am.g=m.am.g)/\(w.byte≠88/\w.byte≠109)/\(w.byte=72->m.abs= { y.abs with am:=me y.abs.am (Za - 1) (Zc - 1) })) ?_ ?_
 ·refine (aE) (λn=>?_) λn=>?_
  ·have S:=n
   refine aA ?_;refine e_ rfl ((bI S))<|ap ?_;refine qi rfl rfl (wrap64 aa aa)<|fX (k:=0) b bo (λf e k=>pM e b.am _ _) λy b d j=>?_;refine aA ?_;exact jP y ⟨b.mono aa,λc=>by exact d,aa,λc=>by first | (exfalso;omega) | (exact h)⟩ b5 λ_ c=>c
  ·have S:=n
   refine (aE) (λr=>?_) λr=>?_
   ·have Ze:=r
    refine ap ?_;refine qi rfl rfl (wrap64 aa aa)<|fX (k:=0) b bo (λf e k=>pM e b.am _ _) λy b d j=>?_;refine aA ?_;exact jP y ⟨b.mono aa,λc=>by exact d,aa,λc=>by first | (exfalso;omega) | (exact h)⟩ b5 λ_ c=>c
   ·have Ze:=r
    refine (aE) (λv=>?_) λv=>?_
    ·have T:=v
     refine aA ?_;refine e_ rfl ((bI T))<|ap ?_;refine fX (k:=0) b bo (λf e k=>pM e b.am _ _) λy b d j=>?_;refine aA ?_;exact jP y ⟨b.mono aa,λc=>by exact d,aa,λc=>by first | (exfalso;omega) | (exact h)⟩ b5 λ_ c=>c
    ·have T:=v
     refine (aE) (λA=>?_) λA=>?_
     ·have U:=A
      refine aA ?_;refine e_ rfl ((bI U))<|ap ?_;refine fX (k:=0) b bo (λf e k=>pM e b.am _ _) λy b d j=>?_;refine aA ?_;exact jP y ⟨b.mono aa,λc=>by exact d,aa,λc=>by first | (exfalso;omega) | (exact h)⟩ b5 λ_ c=>c
     ·have U:=A
      refine (aE) (λB=>?_) λB=>?_
      ·have Zf:=B
       refine ap ?_;refine fX (k:=0) b bo (λf e k=>pM e b.am _ _) λy b d j=>?_;refine aA ?_;exact jP y ⟨b.mono aa,λc=>by exact d,aa,λc=>by first | (exfalso;omega) | (exact h)⟩ b5 λ_ c=>c
      ·have Zf:=B
       refine (aE) (λC=>?_) λC=>?_
       ·have V:=C
        refine aA ?_;refine e_ rfl ((bI V))<|ap ?_;refine fX (k:=0) b bo (λf e k=>pM e b.am _ _) λy b d j=>?_;refine aA ?_;exact jP y ⟨b.mono aa,λc=>by exact d,aa,λc=>by first | (exfalso;omega) | (exact h)⟩ b5 λ_ c=>c
       ·have V:=C
        refine (aE) (λD=>?_) λD=>?_
        ·have Zg:=D
         refine ap ?_;refine fX (k:=0) b bo (λf e k=>pM e b.am _ _) λy b d j=>?_;refine aA ?_;exact jP y ⟨b.mono aa,λc=>by exact d,aa,λc=>by first | (exfalso;omega) | (exact h)⟩ b5 λ_ c=>c
        ·have Zg:=D
         refine (aE) (λE=>?_) λE=>?_
         ·have Zh:=E
          refine ap ?_;refine qi rfl rfl (wrap64 aa aa)<|fX (k:=0) b bo (λf e k=>pM e b.am _ _) λy b d j=>?_;refine aA ?_;exact jP y ⟨b.mono aa,λc=>by exact d,aa,λc=>by first | (exfalso;omega) | (exact h)⟩ b5 λ_ c=>c
         ·have Zh:=E
          refine (aE) (λF=>?_) λF=>?_
          ·have W:=F
           refine aA ?_;refine e_ rfl ((bI W))<|aI ?_;refine bd (λf l=>vQ f i z y (l.has cz) (l.fk (l:=a8 y.am) cW Has.head) (l.fk (l:=a8 y.am) cW<|Has.tail Has.head) b.am.ok.nums.2.1)<|av ?_;refine fX (k:=0) b bo (λf e k=>pM e b.am _ _) λy b d j=>?_;refine aA ?_;exact jP y ⟨b.mono aa,λc=>by exact d,aa,λc=>by first | (exfalso;omega) | (exact h)⟩ b5 λ_ c=>c
          ·have W:=F
           refine (aE) (λG=>?_) λG=>?_
           ·have Zi:=G
            refine aI ?_;refine bd (λf l=>vQ f i z y (l.has cz) (l.fk (l:=a8 y.am) cW Has.head) (l.fk (l:=a8 y.am) cW<|Has.tail Has.head) b.am.ok.nums.2.1)<|av ?_;refine fX (k:=0) b bo (λf e k=>pM e b.am _ _) λy b d j=>?_;refine aA ?_;exact jP y ⟨b.mono aa,λc=>by exact d,aa,λc=>by first | (exfalso;omega) | (exact h)⟩ b5 λ_ c=>c
           ·have Zi:=G
            refine (aE) (λH=>?_) λH=>?_
            ·have Zj:=H
             refine aI ?_;refine bd (λf l=>vQ f i z y (l.has cz) (l.fk (l:=a8 y.am) cW Has.head) (l.fk (l:=a8 y.am) cW<|Has.tail Has.head) b.am.ok.nums.2.1)<|q2 (k:=0) b (xg _ _ _) (xp _ _) bo (xh · y.am · b.am.g b.am.ok _ _) λy b d j h _=>?_;refine aA ?_;exact jP y ⟨b.mono aa,λc=>by exact d,aa,λc=>by first | (exfalso;omega) | (exact h)⟩ b5 λ_ c=>c
            ·have Zj:=H
             refine (aE) (λI=>?_) λI=>?_
             ·have X:=I
              refine aA ?_;refine e_ rfl ((bI X))<|aH ?_;refine q2 (k:=0) b (xg _ _ _) (xp _ _) bo (xh · y.am · b.am.g b.am.ok _ _) λy b d j h _=>?_;refine aA ?_;exact jP y ⟨b.mono aa,λc=>by exact d,aa,λc=>by first | (exfalso;omega) | (exact h)⟩ b5 λ_ c=>c
             ·have X:=I
              refine (aE) (λJ=>?_) λJ=>?_
              ·have Zk:=J
               refine aH ?_;refine q2 (k:=0) b (xg _ _ _) (xp _ _) bo (xh · y.am · b.am.g b.am.ok _ _) λy b d j h _=>?_;refine aA ?_;exact jP y ⟨b.mono aa,λc=>by exact d,aa,λc=>by first | (exfalso;omega) | (exact h)⟩ b5 λ_ c=>c
              ·have Zk:=J
               refine (aE) (λK=>?_) λK=>?_
               ·have Zl:=K
                refine ap ?_;refine fX (k:=0) b bo (λf e k=>DV e b.am (λs c=>(Q s<|k s c).AG) _) λy b d j=>?_;refine aA ?_;exact jP y ⟨b.mono aa,λc=>by exact d,aa,λc=>by first | (exfalso;omega) | (exact h)⟩ b5 λ_ c=>c
               ·have Zl:=K
                refine (aE) (λL=>?_) λL=>?_
                ·have Zm:=L
                 refine ap ?_;refine qi rfl rfl (wrap64 aa aa)<|fX (k:=0) b bo (λf e k=>DV e b.am (λs c=>(Q s<|k s c).AG) _) λy b d j=>?_;refine aA ?_;exact jP y ⟨b.mono aa,λc=>by exact d,aa,λc=>by first | (exfalso;omega) | (exact h)⟩ b5 λ_ c=>c
                ·have Zm:=L
                 refine (aE) (λM=>?_) λM=>?_
                 ·have Zn:=M
                  refine aA ?_;refine fX (k:=0) b bo (λf e k=>vF e b.am) λy b d j=>aA ?_;exact jP y ⟨b.mono aa,λc=>by exact d,aa,λc=>by first | (exfalso;omega) | (exact h)⟩ b5 λ_ c=>c
                 ·have Zn:=M
                  refine (aE) (λN=>?_) λN=>?_
                  ·have Zo:=N
                   refine aA ?_;refine iX (n8 · i z t y · b) λy b=>aA ?_;exact jP y ⟨b.mono aa,λc=>by (exfalso;omega),aa,λc=>by (exfalso;omega)⟩ b5 λ_ c=>c
                  ·have Zo:=N
                   refine aU ?_;refine Ed<|yA<|av ?_;exact bT (false,y) ⟨b.mono aa,λZp O=>by rw[Vy O aa];exact⟨rfl,rfl⟩⟩
 ·rintro m ⟨p,Y,Zq,P⟩
  have P:w.byte=72->m.abs= { y.abs with am:=me y.abs.am (kX w.nums.gs 0 - 1) (kX w.nums.gs 1 - 1) }:=λc=>by rw[P c,Zb.2,Zd.2]
  refine aY ?_;focus (refine bl 93 rfl (λn=>?_) λn=>?_;have Zr:=bg n;refine a6 ?_;refine fX (k:=0) p (Y aa) (λf e k=>vE e p.am) λm p d j=>?_;rotate_left;have Zr:=bm n;refine a6 ?_;refine (cj) (λr=>?_) λr=>?_;refine aA ?_;refine fX (k:=0) p (Y aa) (λf e k=>vE e p.am) λm p d j=>?_;all_goals (refine a6 ?_;intro ZA Zs;exact eV (true,m) ⟨p.mono aa,λZp O=>Vx O Zq (λc=>by first | (exact P c) | (exfalso;omega))⟩ Zs))
structure vU where
 A:Option Addr
 n:Nat
 c:Nat
 bZ:Nat
 aw:Nat
 l:List Int
abbrev vU.val(a:vU):Value:= .slice a.A a.n a.c
def vU.aQ(a:vU):Chunk:=tE a.bZ a.aw (Rd cp.ct · (λb=>a.bZ<=b/\b<a.aw) a.A a.n a.c a.l) λ_ _ e f=>Rd.loc f λb d=>e b d.1 d.2
def VD(c d:Nat)(g:cp.e3 a s r c d C.gs)(h:qR C):
 ay 272 [.slice r c d] a (gr (λb:vU=>b.val) vU.aQ (λb=>b.l.length=b.n/\b.n<=32/\(0<b.n-> ∃e,b.A=some e)) a):=by
 refine (cp.Sy a s r c d C.gs g (by have:=g.len;have:=h.n;omega) h.xJ).mono ?_;rintro v i ⟨j,k,m,rfl,o,f⟩;have w: (cp.xx C.gs).length<=32:=by rw[cp.xx,c8];exact cp.Da C.gs
 have p:=f.len
 exact⟨⟨j,k,m,a.heap.size,i.heap.size,cp.xx C.gs⟩,⟨p,by dsimp only;omega,λq=>by obtain⟨e,t,_⟩:=f.cells q;exact⟨e,t⟩⟩,rfl,o,⟨λ_=>cC _,f.iz aW⟩,λx u=>(p8.1 u).1,Ac _ _ _ _⟩
def VE{d:World}{k:List Nat}{l e:Chunk}{m i:Nat}{b:bM}{p:Nat}(f:n9 e w)(j:cK o u p b)(q:i=b.am.g)(h:ag Z k (l::b0 o m e b) d):ay 292 [ptr i,w.nums.val] d (e2 b.am (.tuple #[]) (sb b.am.abs w.nums.gs) d):=by
 subst q;refine TF d b.am (h.mj<|Has.tail<|Has.tail Has.head) j.am.g j.am.iB.a w.nums.A w.nums.n w.nums.c w.nums.gs ⟨(f.rd d<|h.has hM).d8 λr s=>?_,f.ok.nums.n,f.ok.nums.g⟩;have:=h.apart (l:=[aZ (a8 b.am)]) ah (c:=e) kG r s
 simpa [aK,aZ] using this
def VF(r:bc a (b0 i z t y))(h:n9 t w)(b:cK i u o y)(K:o<=1460000000000):
 ay 195 [ptr i,.agg w.enc.toArray] a (Eb i z t u (o+3000000) y (oa y.abs w.byte w.nums.gs) a):=by
 have L:=h.q1
 refine bX func195 ntmps195 r ?_;refine ap ?_;intro M N O;refine aH ?_;refine cU (gl · i z y ·)<|aU ?_;refine bK (l0:=[]) aP.nil (λd k=>AN d _ _ _ _ (h.rd d<|k.has hM) h.ok.nums _) λP s=>?_;refine (aE) (λv=>ap ?_) λv=>?_;refine fX (k:=0) b bo (λd e m=>T3 e b.am _) λy b l j=>?_;refine be ?_;exact bT (true,y) ⟨b.mono aa,λf c=>(pT c aa).elim⟩;refine (aE) (λn=>?_) λn=>?_;have q:=n
 refine aA ?_;refine e_ rfl ((bI q)) ?_;refine bN [0,1,2,3,4] 2 [[(5,false,[]),(6,true,[])]] ?_;refine aU ?_;refine bK (l0:=[]) aP.nil (hargs:=rfl) (λd k=>AM d _ _ _ _ (h.rd d<|k.has hM) h.ok.nums _ _ aW) λx A=>ap ?_;refine iX (hargs:=rfl) (AJ · i z t y · b aa _ _) λy b=>b6 ?_;exact bT (true,y) ⟨b.mono aa,λf c=>(pT c aa).elim⟩;have q:=n
 refine (aE) (λB=>?_) λB=>?_;refine bN [0,1,2,3,4] 2 [[(5,false,[]),(6,true,[])]] ?_;refine aU ?_;refine bK (l0:=[]) aP.nil (hargs:=rfl) (λd k=>AM d _ _ _ _ (h.rd d<|k.has hM) h.ok.nums _ _ aW) λx A=>ap ?_;refine iX (hargs:=rfl) (AJ · i z t y · b aa _ _) λy b=>b6 ?_;exact bT (true,y) ⟨b.mono aa,λf c=>(pT c aa).elim⟩;refine (aE) (λC=>ap ?_) λC=>?_;refine fX (k:=2000) b bo (hargs:=rfl) (λd e m=>T5 e b.am (by have:=b.bu;omega) _) λy b l j=>?_;refine be ?_;exact bT (true,y) ⟨b.mono aa,λf c=>(pT c aa).elim⟩;refine (aE) (λD=>ap ?_) λD=>?_;refine fX (k:=2000) b bo (hargs:=rfl) (λd e m=>T6 e b.am (by have:=b.bu;omega) _) λy b l j=>?_;refine be ?_;exact bT (true,y) ⟨b.mono aa,λf c=>(pT c aa).elim⟩;refine (aE) (λE=>ap ?_) λE=>?_;refine fX (k:=0) b bo (λd e m=>T4 e b.am _) λy b l j=>?_;refine be ?_;exact bT (true,y) ⟨b.mono aa,λf c=>(pT c aa).elim⟩;refine (aE) (λF=>ap ?_) λF=>?_;refine fX (k:=2000) b bo (hargs:=rfl) (λd e m=>JG e b.am (by have:=b.bu;omega) _) λy b l j=>?_;refine be ?_;exact bT (true,y) ⟨b.mono aa,λf c=>(pT c aa).elim⟩;refine (aE) (λG=>ap ?_) λG=>?_;refine qi rfl rfl (wrap64 aa aa) ?_;refine fX (k:=2000) b bo (hargs:=rfl) (λd e m=>JG e b.am (by have:=b.bu;omega) _) λy b l j=>?_;refine be ?_;exact bT (true,y) ⟨b.mono aa,λf c=>(pT c aa).elim⟩;refine (aE) (λH=>ap ?_) λH=>?_;refine q2 (k:=0) b (QC _ _) (RX _) bo (QF · y.am · b.am.g b.am.ok _) λy b l j p _=>?_;refine be ?_;exact bT (true,y) ⟨b.mono aa,λf c=>by rw[Vz c aa,p,s.2];exact⟨rfl,rfl⟩⟩;refine (aE) (λI=>ap ?_) λI=>?_;refine fX (k:=2000000) b bo (hargs:=rfl) (λd e m=>T7 e b.am (by have:=b.bu;omega) _) λy b l j=>?_;refine be ?_;exact bT (true,y) ⟨b.mono aa,λf c=>(pT c aa).elim⟩;refine (aE) (λJ=>a7 ?_) λJ=>a6 ?_;refine Vw (k:=0) b (vd _ _) (TE _) (λd k=>VE h b bo k) λy b j p=>be ?_;exact bT (true,y) ⟨b.mono aa,λf c=>by rw[VA c aa,p];exact⟨rfl,rfl⟩⟩;exact bT (false,y) ⟨b.mono aa,λf c=>(pT c aa).elim⟩
def AO(p:bc a (b0 i z t y))(f:n9 t w)(d:cK i u o y)(H:o<=1440000000000)(g:Bool):
 ay 187 [ptr i,.bool g,.agg w.enc.toArray] a (js i z t u (o+100) (.tuple #[]) y a):=by
 have I:=f.q1
 refine bX func187 ntmps187 p ?_;refine ap ?_;intro h J K;refine aH ?_;refine hf (λj q=>VD j _ _ _ _ (f.rd j<|q.has hM) f.ok.nums) λc r=>?_;refine aI ?_;obtain⟨L,M,s⟩:=r;refine cd (ι:=Nat × bM) (λb=>[(0,ptr i),(1,.bool g),(5,ptr h),(10,c.val),(11,ad (c.n:Int)),(12,ad (b.1 :Int))]) (λb=>ag a (aK<|b0 i z t y)<|c.aQ::aG h w.enc 129::b0 i z t b.2) (λb=>b.1<=c.n/\cK i u (o+b.1) b.2) (λb=>c.n - b.1) ?_ ?_;exact λN x=>⟨(0,y),⟨b4 _,d⟩,(jF rfl rfl rfl rfl rfl rfl),x⟩
 rintro⟨e,y⟩ ⟨A,d⟩;dsimp only at A d ⊢
 refine (aE) (λB=>?_) λB=>aI ?_;obtain⟨v,C⟩ : ∃v,c.l[e]? = some v:=⟨c.l[e]'aa,bD _⟩;obtain⟨O,k⟩:=s aa;refine aH ?_;refine bE (q:=e) eE rfl rfl rfl k rfl aa ?_;refine bb (v:=ad v) bY rfl rfl (λD E=>by obtain⟨P,m,_,F⟩:=((E.has bw:c.aQ.pred D).2).at_ C;rw[k] at m;cases m;exact F 0 _ rfl) ?_;refine be ?_;refine Kj (hargs:=rfl) (Vt · i z t y · d aa _ _ _) λy d=>aU ?_;exact bv (e+1,y) ⟨aa,d⟩ bL b5 λ_ G=>G;exact bT y<|d.mono aa
def VG(a:Int): (bj.zW (bj.fV K)<|bj.fV a).length<=1000:=by
 have b:=vR (bj.fV K) (by have:=bj.nU K;omega)
 have c:=vR (bj.fV a) (by have:=bj.nU a;omega)
 unfold bj.zW;simp
 omega
def VH(g par:Nat)(X:Chunk)(T:bM)(z:bc a (b0 g par X T))(f:n9 X w){R:Int}{m:Nat}(c:cK g R m T)(H:m<=1440000000000)(A:Int):
 ay 196 [ptr g,.agg w.enc.toArray,ad A] a (js g par X R (m+1000) (.tuple #[]) T a):=by
 have o:=f.q1
 have B:=VG
 have I:=c.am.ok.nums
 have J:0<=T.am.x/\T.am.x<=1000:=by have K:=c.am.ok.x;have L:=c.am.ok.nums.2.1;simp only[bA.abs,a1.al] at *;omega
 refine bX func196 ntmps196 z ?_;refine ap ?_;intro M N O;refine aI ?_;refine cU (gl · g par T ·)<|aH ?_;refine bd (λb d=>kc b T.am<|d.fk (l:=a8 T.am) cW Has.head)<|fa ?_;focus (refine (cj) (λq=>?_) λq=>?_;(focus have C:=q;refine aH ?_;refine (cj) (λk=>?_) λk=>?_;refine aA ?_;refine cU (λb l=>bj.Ik b (o b l).it) ?_;refine iX (hargs:=rfl) (q0 · g par X T · c _ aa aW) λT c=>?_;all_goals (refine ap ?_));rotate_left 2;(focus have C:=q;refine aH ?_;refine (cj) (λk=>?_) λk=>?_;(focus have D:=k;refine b6 ?_;refine (cj) (λh=>?_) λh=>?_;have p:=h;refine aA ?_;refine bd (λb d=>zU b T.am<|d.fk (l:=a8 T.am) cW Has.head)<|av ?_;refine bd (λb d=>vQ b g par T (d.has cz) (d.fk (l:=a8 T.am) cW Has.head) (d.fk (l:=a8 T.am) cW<|Has.tail Has.head) c.am.ok.nums.2.1) ?_;refine Ki (k:=0) c (hargs:=rfl) (λb n v=>Vp n c.am _ aa) λT c y=>?_;rotate_left;have p:=h;refine aH ?_;refine (cj) (λi=>?_) λi=>?_;have r:=i;refine aA ?_;refine bd (λb d=>zU b T.am<|d.fk (l:=a8 T.am) cW Has.head) ?_;refine Ki (k:=0) c (λb n v=>Kn n c.am) λT c y=>?_;rotate_left;have r:=i;all_goals (refine a7 ?_));rotate_left 3;(focus have D:=k;refine aU ?_;refine (cj) (λh=>?_) λh=>?_;have p:=h;refine aA ?_;refine e_ rfl ((bI p))<|ap ?_;refine iX (hargs:=rfl) (AO · g par X T · f c aa _) λT c=>ap ?_;rotate_left;(focus have p:=h;refine aI ?_;refine (cj) (λi=>?_) λi=>?_;have r:=i;refine ap ?_;refine iX (hargs:=rfl) (AO · g par X T · f c aa _) λT c=>ap ?_;rotate_left;(focus have r:=i;refine aH ?_;refine (cj) (λs=>?_) λs=>?_;(focus have E:=s;refine b6 ?_;refine (cj) (λj=>?_) λj=>?_;have t:=j;refine aA ?_;refine cU (λb l=>bj.Rt b (o b l).it) ?_;refine iX (hargs:=rfl) (q0 · g par X T · c _ aa aW) λT c=>?_;rotate_left;have t:=j;refine aH ?_;refine (cj) (λe=>?_) λe=>?_;have u:=e;refine aA ?_;refine iX (hargs:=rfl) (Kp · g par X T · o c aa _) λT c=>?_;rotate_left;have u:=e;all_goals (refine a7 ?_));rotate_left 3;(focus have E:=s;refine aH ?_;refine (cj) (λj=>?_) λj=>?_;(focus have t:=j;refine a7 ?_;refine bK (l0:=[]) aP.nil (hargs:=rfl) (λb d=>AM b _ _ _ _ (f.rd b<|d.has hM) f.ok.nums _ _ aW) λP Q=>be ?_;refine (cj) (λe=>?_) λe=>?_;refine aA ?_;refine bd (λb d=>oK b T.am.az<|d.fk (l:=a8 T.am) cW<|Has.tail Has.head)<|aU ?_;rotate_left;refine aH ?_;all_goals (refine bK (l0:=[]) aP.nil (λb d=>AN b _ _ _ _ (f.rd b<|d.has hM) f.ok.nums _) λS U=>?_;refine ap ?_;refine fX (k:=0) c bo (λb n v=>T1 n c.am _ _) λT c V y=>?_));rotate_left 2;have t:=j;refine aH ?_;refine (cj) (λe=>?_) λe=>?_;(focus have u:=e;refine aH ?_;refine (cj) (λF=>?_) λF=>?_;refine ap ?_;refine bd (λb d=>oK b T.am.az<|d.fk (l:=a8 T.am) cW<|Has.tail Has.head)<|av ?_;refine bd (λb d=>zf b T.am.az<|d.fk (l:=a8 T.am) cW<|Has.tail Has.head) ?_;refine cU (λb l=>bj.tc b (o b l).it _ _) ?_;refine iX (hargs:=rfl) (q0 · g par X T · c _ aa (by apply B)) λT c=>?_);rotate_left 2;have u:=e;all_goals (refine ap ?_))))));all_goals (intro W G;exact eV T (c.mono aa) G))
section
variable {args:List Operand}{di:Array TypeId}{f:FuncId}{vs:List Value}{g par m:Nat}{R:Int}{T:bM}{X gm:Chunk}
def Ks{i:Option (Bool × cA)}
 (o: ∀c,bc c (b0 g par X T)->Calls P f vs.toArray c (Eb g par X R m T i c))
 (p: ∀(e:Bool)(a:bM),cK g R m a->(∀h,i=some h->e=h.1/\a.abs=h.2)->aM P n ops Q rest ((d,.bool e)::l) (ag b S<|gm::b0 g par X a)) (q:db l args=some vs:=by exact rfl) (r:Nat.blt d n=true:=by exact rfl) (s:dX P f:=by exact cL):
 aM P n ops Q (⟨some d,.call ⟨.value<|.func f,args.toArray,di⟩,ty,pos,bf,none⟩::rest) l (ag b S<|gm::b0 g par X T):=by
 refine iw rfl (hd:=r) (hcb:=s) (hargs:=q) λc j=>?_
 have:=o c<|j.cb ah
 simp only[jV,kr];refine this.mono ?_;rintro u v ⟨⟨e,a⟩,k,rfl,t⟩;exact⟨.bool e,rfl,(p e a k.1 k.2).at<|(j.mR ah t).perm<|p9 (l₁:=b0 g par X a) (l₂:=[gm])⟩
end
def q3(b:cA)(a:fW):Option cA:=if a.pre=0/\a.inter=[] then AL b a.byte a.nums else none
def VI{a d:UInt8}{c b:List UInt8}(e: (a.toNat:Int)=0)(f:c=[])(g: [a]++c++[d]=b)(h:decide (b.length=2/\b.head?=some 0)=false):False:=by
 subst f;subst g
 have:a=0:=UInt8.toNat_inj.1 (by simpa using e)
 simp[this] at h
def VJ{b:Int}(a:oa j b e=some h):h.1=true:=by
 unfold oa at a
 split at a
 cases a;rfl
 split at a
 cases a;rfl
 cases a
def Kt(c:q3 j D=some G):D.pre=0/\D.inter=[]/\ ∃a,pS j D.byte D.nums=some a/\(a.1=true/\a.2=G\/a.1=false/\ ∃d,oa a.2 D.byte D.nums=some d/\d.2=G):=by
 unfold q3 AL at c
 split at c
 rename_i f;obtain⟨d,b,g⟩:=sO.1 c;obtain⟨a,h,b⟩:=k7.1 b;refine⟨f.1,f.2,a,h,?_⟩;split at b
 rename_i e;cases b
 exact .inl ⟨e,g⟩;rename_i e;exact .inr ⟨by simpa using e,d,b,g⟩;cases c
variable {N:cA}
def VK{b:Bool}(d:D.pre=0->D.inter=[]->G=j)(e: ∀r,pS G D.byte D.nums=some r->b=r.1/\N=r.2)(f:b=true): ∀r,q3 j D=some r->N=r:=λr g=>by
 obtain⟨h,i,k,l,m⟩:=Kt g;have c:=e k (by rw[d h i];exact l)
 rcases m with ⟨a,n⟩ | ⟨a,_⟩
 exact c.2.trans n;rw[<-c.1,f] at a;cases a
def Ku{d e:cA}{b:Bool}(i:D.pre=0->D.inter=[]->G=j)(k: ∀r,pS G D.byte D.nums=some r->b=r.1/\N=r.2)(l:b=false)(m: ∀r,oa N D.byte D.nums=some r->J=r.1/\d=r.2)(n:J=true->e=d): ∀r,q3 j D=some r->e=r:=λr o=>by
 obtain⟨p,q,s,t,a⟩:=Kt o;have f:=k s (by rw[i p q];exact t)
 rcases a with ⟨c,g⟩ | ⟨c,u,a,g⟩
 rw[<-f.1,l] at c;cases c
 have h:=m u (by rw[f.2];exact a)
 rw[n (h.1.trans<|VJ a),h.2,g]
def Kv(b: ¬(D.pre=0/\D.inter=[])): ∀r,q3 j D=some r->G=r:=λr a=>by
 unfold q3 at a
 rw[ai b] at a;cases a
def Kw(b:Nat)(a:Bool)(n:Int)(c: -1<=n/\n<=65535): (eh.se b a n).length<=1000:=by
 have:=eh.JJ a n aa
 simp only[eh.se,b3,dV,gN];omega
set_option maxHeartbeats 1000000 in
def VL(g par:Nat)(X:Chunk)(T:bM)(S:bc a (b0 g par X T))(e:n9 X w){R:Int}{m:Nat}(b:cK g R m T)(Zm:m<=1430000000000):
 ay 115 [ptr g,.agg w.enc.toArray] a (n_ g par X R (m+4000000) T (q3 T.abs w.abs) a):=by
 have s:=e.q1
 obtain⟨⟨U,V⟩,W,Y⟩:=e.ok.u8;have Z:=e.ok.inter
 obtain⟨E,F,G,H,I,v,J,K⟩:=w;dsimp only at U V W Y Z
 obtain⟨L,rfl⟩ : ∃x:UInt8,G=(x.toNat:Int):=⟨UInt8.ofNat G.toNat,by rw[ky];omega⟩;obtain⟨y,rfl⟩ : ∃x:UInt8,H=(x.toNat:Int):=⟨UInt8.ofNat H.toNat,by rw[ky];omega⟩;refine bX func115 ntmps115 S ?_;refine ap ?_;intro z Zn Zo;refine aH ?_;refine bK (l0:=[]) aP.nil (hargs:=rfl) (λd Za=>AM d _ _ _ _ (e.rd d<|Za.has hM) e.ok.nums _ _ aW) λA Zp=>aY ?_;refine ef (E:=cI) _ hC rfl rfl rfl rfl rfl λZq Zr Zs=>kF underlying48 underlying5 underlying9 rfl rfl (λZb B=>hF<|B.has bw)<|aA ?_;refine eb rfl rfl rfl cg<|aA ?_;refine ef (E:=cI) _ hC rfl rfl rfl rfl rfl λZt Zu Zv=>kF underlying48 underlying5 underlying9 rfl rfl (λZb B=>hF<|B.has bw)<|eb rfl rfl rfl cg<|aA ?_;refine dh (H':=ag a (aK<|b0 g par X T)<|aG z (eO.enc ⟨E,F,L.toNat,y.toNat,I,v,J,K⟩) 129::b0 g par X T) (gA (λ_:bM=>[(0,ptr g),(3,ptr z),(4,ad A)]) (λt=>ag a (aK<|b0 g par X T)<|aG z (eO.enc ⟨E,F,L.toNat,y.toNat,I,v,J,K⟩) 129::b0 g par X t) (λt=>cK g R (m+1000) t/\((y.toNat:Int)=0->v=[]->t.abs=T.abs)) (aY ?_) ?_) (Sub.refl _) λ_ Zc=>Zc.aF ah
 ·focus (refine (cj) (λh=>?_) λh=>?_;have M:=h;(simp only[cq] at h);refine aA ?_;refine e_ rfl ((bI M))<|ap ?_;refine iX (hargs:=rfl) (AO · g par X T · e b aa _) λT b=>?_;rotate_left;have M:=h;(simp only[cq] at h);refine aI ?_;refine (cj) (λi=>?_) λi=>?_;have Zd:=i;(simp only[cq] at i);refine ap ?_;refine iX (hargs:=rfl) (AO · g par X T · e b aa _) λT b=>?_;rotate_left;have Zd:=i;(simp only[cq] at i);refine aH ?_;refine (cj) (λf=>?_) λf=>?_;(focus have Ze:=f;(simp only[cq] at f);refine aH ?_;refine (cj) (λc=>?_) λc=>?_;refine aA ?_;refine iX (hargs:=rfl) (Kp · g par X T · s b aa _) λT b=>?_);rotate_left 2;have Ze:=f;(simp only[cq] at f);refine aU ?_;refine (cj) (λc=>?_) λc=>?_;have N:=c;(simp only[cq] at c);refine aA ?_;refine e_ rfl ((bI N))<|aI ?_;refine iX (hargs:=rfl) (AJ · g par X T · b aa _ _) λT b=>?_;rotate_left;have N:=c;(simp only[cq] at c);refine aI ?_;refine (cj) (λl=>?_) λl=>?_;have Zf:=l;(simp only[cq] at l);refine aI ?_;refine iX (hargs:=rfl) (AJ · g par X T · b aa _ _) λT b=>?_;rotate_left;have Zf:=l;(simp only[cq] at l);refine aH ?_;refine (cj) (λn=>?_) λn=>?_;(focus have Zg:=n;(simp only[cq] at n);refine aH ?_;refine (cj) (λj=>?_) λj=>?_;refine aA ?_;refine cU (λd o=>bj.Rs d (s d o).it) ?_;refine iX (hargs:=rfl) (q0 · g par X T · b _ aa aW) λT b=>?_);rotate_left 2;have Zg:=n;(simp only[cq] at n);refine aH ?_;refine (cj) (λj=>?_) λj=>?_;have Zh:=j;(simp only[cq] at j);(have C: ∀p,(eh.se T.cr p A).length<=1000:=λp=>Kw _ _ _ aa);refine aU ?_;refine cU (hargs:=rfl) (λd o=>eh.JK d (s d o).it T.cr b.md _ _ aa) ?_;refine iX (hargs:=rfl) (q0 · g par X T · b _ aa (by apply C)) λT b=>?_;rotate_left;have Zh:=j;(simp only[cq] at j);refine aH ?_;refine (cj) (λq=>?_) λq=>?_;have Zi:=q;(simp only[cq] at q);(have C: ∀p,(eh.se T.cr p A).length<=1000:=λp=>Kw _ _ _ aa);refine aU ?_;refine cU (hargs:=rfl) (λd o=>eh.JK d (s d o).it T.cr b.md _ _ aa) ?_;refine iX (hargs:=rfl) (q0 · g par X T · b _ aa (by apply C)) λT b=>?_;rotate_left;have Zi:=q;(simp only[cq] at q);refine aH ?_;refine (cj) (λr=>?_) λr=>?_;have Zj:=r;(simp only[cq] at r);refine aA ?_;refine iX (Vo · g par X T · b) λT b=>?_;rotate_left;have Zj:=r;(simp only[cq] at r);all_goals (refine aA ?_;exact dN T ⟨b.mono aa,λZk Zl=>by first | rfl | exact (VI Zk Zl bR aW).elim⟩ b5 λ_ k=>k))
 ·intro T u
  have b:=u.1
  refine aU ?_;refine bl 74 rfl (λh=>?_) λh=>?_
  ·have O:=bg h
   refine aY ?_;refine bl 79 rfl (λi=>?_) λi=>?_
   ·have P:=bg i
    refine aI ?_;refine Ks (VC · g par X T · e b aa) λZw T b D=>a7 ?_;refine bl 85 rfl (λf=>aI ?_) λf=>be ?_
    ·refine Ks (VF · g par X T · e b aa) λZx T b Q=>aI ?_
     refine cD rfl (λc=>?_) λc=>?_
     ·simp only[cq] at c
      refine a7 ?_;refine iX (hargs:=rfl) (VH · g par X T · e b aa _) λT b=>aA ?_;exact bT T ⟨b.mono aa,Ku u.2 D (by simpa using f) Q λk=>by rw[k] at c;cases c⟩
     ·simp only[cq] at c
      refine aA ?_;exact bT T ⟨b.mono aa,Ku u.2 D (by simpa using f) Q λ_=>rfl⟩
    ·exact bT T ⟨b.mono aa,VK u.2 D<|by simpa using f⟩
   ·have P:=bm i
    refine fa ?_;exact bT T ⟨b.mono aa,Kv λk=>P k.2⟩
  ·have O:=bm h
   refine lb ?_;exact bT T ⟨b.mono aa,Kv λk=>O k.1⟩
def VM(d:bc a (b0 i z t y))(b:cK i u o y)(k:o<=1460000000000)(c:eO):
 ay 112 [ptr i,.agg c.enc.toArray] a (n_ i z t u (o+2) y (some { y.abs with am:=ke y.abs.am c.r }) a):=by
 refine bX func112 ntmps112 d ?_;refine ap ?_;intro l m n;refine aA ?_;refine bN [0,2,3] 2 [[(1,false,[]),(4,true,[])]] ?_;refine aI ?_;refine cU (gl · i z y ·)<|ap ?_;refine q2 (k:=2) b (Q9 _ _) (RT _) rfl (hargs:=rfl) (Ra · y.am · b.am.g b.am.ok (by have:=b.bu;omega) _) λe f p q h _=>?_;refine a7 ?_;exact bT e ⟨f,λs j=>by cases j;exact h⟩
def Ee(b:i<4294967296)(c:i=o)(d:J=eh.tK o false 20):ay 179 [eh.tJ i,.bool false,ad 20] a (Pure (.bool J) a):=by
 subst c;subst d
 exact eh.sd a i b false 20
def AP(a:cA)(b:Int):Option cA:=if b=13 then some { a with am:={ a.am with x:=0 } } else if b=10/\eh.tK a.cr false 20=false then some { a with am:=(jm a.am).1 } else none
def VN(N:bc a (b0 i z t y))(O:xS t)(b:cK i u o y)(U:o<=1460000000000)(I:eO):
 ay 113 [ptr i,.agg I.enc.toArray] a (n_ i z t u (o+2) y (AP y.abs I.byte) a):=by
 obtain⟨s,A⟩ : ∃s,s=eh.tK y.cr false 20:=⟨_,rfl⟩;have l: ∀B k,AP y.abs B=some k->(B=13/\{ y.abs with am:={ y.abs.am with x:=0 } } = k)\/(B=10/\s=false/\{ y.abs with am:=(jm y.abs.am).1 } = k):=λB k p=>by
  unfold AP at p
  split at p
  ·exact .inl ⟨bR,by injection p⟩
  ·split at p
   ·rename_i c
    exact .inr ⟨c.1,A.trans c.2,by injection p⟩
   ·cases p
 refine bX func113 ntmps113 N ?_;refine ap ?_;intro V W X;refine aI ?_;refine cU (gl · i z y ·) ?_;refine (aE) (λP=>aA ?_) λP=>?_
 ·refine fX (k:=0) b bo (λm h x=>T0 h b.am) λy b j n=>ap ?_
  exact λr d=>eV y ⟨b.mono aa,λk e=>by rcases l _ _ e with ⟨f,c⟩ | ⟨f,c,q⟩ <;> (exfalso;omega)⟩ d
 ·refine (aE) (λQ=>aA ?_) λQ=>?_
  ·refine fX (k:=0) b bo (λm h x=>DV h b.am (λJ p=>(O J<|x J p).AG) _) λy b j n=>?_
   refine ap ?_;exact λr d=>eV y ⟨b.mono aa,λk e=>by rcases l _ _ e with ⟨f,c⟩ | ⟨f,c,q⟩ <;> (exfalso;omega)⟩ d
  ·refine (aE) (λC=>?_) λC=>?_
   ·have K:=C
    refine aA ?_;refine e_ rfl ((bI K))<|ap ?_;refine q2 (k:=2) b (u9 _) xo rfl (zH · y.am · b.am.g b.am.ok (by have:=b.bu;omega)) λy b j n D v=>?_;refine aY ?_;refine bF (v:= .bool s) (Ee · y.cr b.md v A)<|aA ?_;refine cD rfl (λw=>aA ?_) λw=>ap ?_
    ·refine fX (k:=0) b j (λm h x=>vE h b.am) λy b j n=>ap ?_
     exact λr d=>eV y ⟨b.mono aa,λk e=>by rcases l _ _ e with ⟨f,c⟩ | ⟨f,c,q⟩ <;> first | (exfalso;omega) | (exfalso;subst c;contradiction)⟩ d
    ·exact λr d=>eV y ⟨b.mono aa,λk e=>by rcases l _ _ e with ⟨f,c⟩ | ⟨f,c,q⟩ <;> first | (exfalso;omega) | (subst q;exact D)⟩ d
   ·have K:=C
    refine (aE) (λw=>?_) λw=>?_
    ·have L:=w
     refine aA ?_;refine e_ rfl ((bI L))<|ap ?_;refine q2 (k:=2) b (u9 _) xo rfl (zH · y.am · b.am.g b.am.ok (by have:=b.bu;omega)) λy b j n D v=>?_;refine aY ?_;refine bF (v:= .bool s) (Ee · y.cr b.md v A)<|aA ?_;focus (refine cD rfl (λE=>?_) λE=>?_;refine aA ?_;refine fX (k:=0) b j (λm h x=>vE h b.am) λy b j n=>?_;all_goals (refine ap ?_;intro r d;exact eV y ⟨b.mono aa,λk e=>by rcases l _ _ e with ⟨f,c⟩ | ⟨f,c,q⟩ <;> (exfalso;omega)⟩ d))
    ·have L:=w
     refine (aE) (λE=>ap ?_) λE=>?_
     ·refine q2 (k:=2) b (u9 _) xo rfl (zH · y.am · b.am.g b.am.ok (by have:=b.bu;omega)) λy b j n D v=>?_
      refine aY ?_;refine bF (v:= .bool s) (Ee · y.cr b.md v A)<|aA ?_;focus (refine cD rfl (λF=>?_) λF=>?_;refine aA ?_;refine fX (k:=0) b j (λm h x=>vE h b.am) λy b j n=>?_;all_goals (refine ap ?_;intro r d;exact eV y ⟨b.mono aa,λk e=>by rcases l _ _ e with ⟨f,c⟩ | ⟨f,c,q⟩ <;> (exfalso;omega)⟩ d))
     ·refine (aE) (λF=>aA ?_) λF=>aU ?_
      ·refine q2 (k:=0) b (va _) (tA _) rfl (H5 · y.am · b.am.g) λy b j n R _=>?_
       refine ap ?_;exact λr d=>eV y ⟨b.mono aa,λk e=>by rcases l _ _ e with ⟨f,c⟩ | ⟨f,c,q⟩ <;> first | (exfalso;omega) | (subst c;exact R)⟩ d
      ·focus (refine (cj) (λG=>?_) λG=>?_;have M:=G;refine aA ?_;refine e_ rfl ((bI M)) ?_;refine bN [0,1,4,5] 3 [[(2,false,[3]),(6,false,[]),(7,true,[])]] ?_;refine aH ?_;refine bd (λm H=>kj m y.am<|H.fk (l:=a8 y.am) cW Has.head)<|av ?_;refine aO rfl (λS l=>(lM (t:=140) (off:=7) ak nF rfl rfl rfl aJ)) ?_;refine aA ?_;refine bF (Ib · ⟨_,_,_,_,_,_⟩ _) ?_;refine ap ?_;refine fX (k:=0) b bo (λm h x=>pN h b.am ⟨_,_,_,_,_,_⟩) λy b j n=>aI ?_;rotate_left;have M:=G;refine aI ?_;refine (cj) (λT=>?_) λT=>?_;refine bN [0,1,4,5] 3 [[(2,false,[3]),(6,false,[]),(7,true,[])]] ?_;refine aH ?_;refine bd (λm H=>kj m y.am<|H.fk (l:=a8 y.am) cW Has.head)<|av ?_;refine aO rfl (λS l=>(lM (t:=140) (off:=7) ak nF rfl rfl rfl aJ)) ?_;refine aA ?_;refine bF (Ib · ⟨_,_,_,_,_,_⟩ _) ?_;refine ap ?_;refine fX (k:=0) b bo (λm h x=>pN h b.am ⟨_,_,_,_,_,_⟩) λy b j n=>aI ?_;rotate_left;refine ap ?_;all_goals (intro r d;exact eV y ⟨b.mono aa,λk e=>by rcases l _ _ e with ⟨f,c⟩ | ⟨f,c,q⟩ <;> (exfalso;omega)⟩ d))
