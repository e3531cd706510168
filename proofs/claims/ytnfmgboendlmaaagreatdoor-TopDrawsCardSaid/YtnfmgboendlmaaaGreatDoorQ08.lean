/- part 8 of the proof -/
import Derived.Test.YtnfmgboendlmaaaGreatDoorQ07
set_option linter.all false
namespace Go.Proofs.YtnfmgboendlmaaaGreatDoor.Mq
open RowKit Tryz
variable {P:Program}{n d:Nat}{ops:Array Oper}{Q:cN}{rest:List Oper}{l:Fr}{ty:TypeId}{pos:String}{bf:Array Edge}
variable {h:Array TypeId}{D s x:Bool}{N:Chunk}{C w:Code}{u:Fr->Prop}{y:Func}{v:FuncId}{p:List (List (Nat × Bool × List Nat))}{G I b:List Chunk}{f:List Nat}{j:List Oper}{g:List Operand}{c:List Value}{A q:Nat}{r:Nat × Bool × List Nat}{z:Op}{t:Oper}{E F k:Operand}{J:Option Nat}{a:Prop}{o:Type}{O:TypeId}{i:Value}{B e:World}{m:World->Prop}(K:List Nat)(L:Nat)(M:List (List (Nat × Bool × List Nat)))
class eF (P:Program) (t:TypeId) (d:outParam TypeDesc):Prop where
 u:P.underlying t=some d
instance afp:eF prog 3 (.int .i64):=⟨underlying3⟩
instance afq:eF prog 5 (.int .u8):=⟨underlying5⟩
instance afr:eF prog 9 (.string):=⟨underlying9⟩
instance afs:eF prog 24 (.slice 33):=⟨underlying24⟩
instance aft:eF prog 27 (.pointer 89):=⟨underlying27⟩
instance afu:eF prog 29 (.pointer 124):=⟨underlying29⟩
instance afv:eF prog 30 (.slice 39):=⟨underlying30⟩
instance afw:eF prog 37 (.slice 81):=⟨underlying37⟩
instance afx:eF prog 48 (.slice 5):=⟨underlying48⟩
instance afy:eF prog 51 (.pointer 153):=⟨underlying51⟩
instance afz:eF prog 52 (.pointer 149):=⟨underlying52⟩
instance afA:eF prog 64 (.slice 67):=⟨underlying64⟩
instance afB:eF prog 72 (.slice 44):=⟨underlying72⟩
instance afC:eF prog 85 (.pointer 224):=⟨underlying85⟩
instance afD:eF prog 86 (.pointer 226):=⟨underlying86⟩
instance afE:eF prog 90 (.slice 94):=⟨underlying90⟩
instance afF:eF prog 102 (.pointer 104):=⟨underlying102⟩
instance afG:eF prog 114 (.pointer 208):=⟨underlying114⟩
instance afH:eF prog 122 (.slice 234):=⟨underlying122⟩
instance afI:eF prog 125 (.slice 129):=⟨underlying125⟩
instance afJ:eF prog 127 (.slice 176):=⟨underlying127⟩
instance afK:eF prog 145 (.pointer 271):=⟨underlying145⟩
instance afL:eF prog 150 (.pointer 220):=⟨underlying150⟩
instance afM:eF prog 151 (.slice 232):=⟨underlying151⟩
instance afN:eF prog 176 (.slice 3):=⟨underlying176⟩
instance afO:eF prog 211 (.slice 21):=⟨underlying211⟩
instance afP:eF prog 222 (.slice 243):=⟨underlying222⟩
instance afQ:eF prog 243 (.pointer 249):=⟨underlying243⟩
instance afR:eF prog 260 (.slice 318):=⟨underlying260⟩
instance afS:eF prog 269 (.slice 63):=⟨underlying269⟩
instance afT:eF prog 274 (.pointer 206):=⟨underlying274⟩
instance afU:eF prog 276 (.int .u64):=⟨underlying276⟩
instance afV:eF prog 303 (.slice 305):=⟨underlying303⟩
instance afW:eF prog 354 (.slice 9):=⟨underlying354⟩
instance afX:eF prog 380 (.slice 427):=⟨underlying380⟩
structure fy (q:Prop):Prop where
 af:q
def gB{p:Prop}(a:p:=by repeat (first | exact Has.head | apply Has.tail)):p:=a
def y6{p:Prop}(a:p:=by repeat (first | exact bC.head | apply bC.tail)):p:=a
def GI{p:Prop}(a:p:=by repeat (first | exact aV.nil | exact b1.kz _ _ | (apply aV.cons;exact rfl))):p:=a
def On{p:Prop}(a:p:=by repeat (first | exact bH.head | apply bH.tail)):p:=a
def ah{p:Prop}(a:p:=by repeat (first | exact aP.nil | (apply aP.cons;exact On))):p:=a
def b5{p:Prop}(a:p:=by repeat (first | exact Sub.nil | (apply Sub.cons;exact rfl))):p:=a
def cg{p:Prop}(a:p:=by simp only[b3,dV,gN,maxLen];omega):p:=a
def bL{p:Prop}(a:p:=by dsimp only;omega):p:=a
def cq: (∀a:Bool,((!a)=true)=(a=false))/\(∀a:Bool,((!a)=false)=(a=true))/\(∀(p:Prop)[Decidable p],(decide p=false)= ¬p)/\ ∀(p:Prop)[Decidable p],(decide p=true)=p:=⟨aW,aW,λp _=>by simp,λp _=>by simp⟩
def eV{a:o->Value}{l:List Chunk}{c:o->List Chunk}{d:o->Prop}{f:Value}{r:List Chunk}(i:o)(g:d i)(h:ag e (aK l) b B)(j:aP b (c i) r:=by exact ah)(k:f=a i:=by exact rfl):aX a l c d e (.returned f) B:=aX.cf i g k<|h.aF j
def bT{a:o->Value}{l:List Chunk}{c:o->List Chunk}{d:o->Prop}{f:Value}{r:List Chunk}(i:o)(h:d i)(j:aP b (c i) r:=by exact ah)(k:f=a i:=by exact rfl): ∀g,ag e (aK l) b g->aX a l c d e (.returned f) g:=λ_ m=>eV i h m j k
def jG{a:o->Value}{c:o->List Chunk}{d:o->Prop}{f:Value}{r:List Chunk}(i:o)(h:d i)(j:aP b (c i) r:=by exact ah)(k:f=a i:=by exact rfl): ∀g,ag e [] b g->aX a [] c d e (.returned f) g:=λ_ l=>eV i h l j k
def cj{P:Program}{n:Nat}{Q:cN}{l:Fr}{H:World->Prop}[Decidable a](b:bi l k=some (.bool<|decide a):=by exact rfl)(c:a->dA P n w Q l H)(d: ¬a->dA P n C Q l H):dA P n (.cond k w C) Q l H:=rz b c d
def rK{p:Prop}(a:p:=by first | with_reducible exact (rfl:true=true) | with_reducible exact (rfl:false=false) | assumption | exact bI bR | exact bJ bR | exact bJ (λa=>a rfl) | exact rfl):p:=a
section
variable {H:World->Prop}
def GJ(a:Nat.blt d n=true)(b: (ops[q]?).bind (·.dst)=some A)(c:look l A=some (.bool x))(e:x=D)(f:D= !s)(g:aM P n ops Q rest ((d,undef)::l) H):aM P n ops Q (⟨some d,z,ty,pos,bf,some (q,s)⟩::rest) l H:=e9 a b c (e.trans f) g
def GK(a: (ops[q]?).bind (·.dst)=some A)(b:look l A=some (.bool x))(c:x=D)(d:D=s)(e:aM P n ops Q (⟨J,z,ty,pos,bf,none⟩::rest) l H):aM P n ops Q (⟨J,z,ty,pos,bf,some (q,s)⟩::rest) l H:=bO a b (c.trans d) e
def GL(a:Nat.blt d n=true)(b:bi l k=some (.bool s))(c:s=x)(e:x=true)(f:bi l E=some i)(g:aM P n ops Q rest ((d,i)::l) H):aM P n ops Q (⟨some d,.pick k E F,ty,pos,bf,none⟩::rest) l H:=mF a b (c.trans e) f g
def GM(a:Nat.blt d n=true)(b:bi l k=some (.bool s))(c:s=x)(e:x=false)(f:bi l F=some i)(g:aM P n ops Q rest ((d,i)::l) H):aM P n ops Q (⟨some d,.pick k E F,ty,pos,bf,none⟩::rest) l H:=hd a b (c.trans e) f g
def bN{id:Nat} 
 (c:ie prog n j.toArray (ag e f b) (λd=>kE prog n j Q L M (ag e f b) d<|ag e f b) (K.map λg=>j.getD g default) l) (h:BP n K L M j=true:=by kernel_rfl):dA prog n (.region id j.toArray true) Q l (ag e f b):=fg K L M (ag e f b) mixed h (λ_ a=>a.drew) (λ_ a=>a) c
def bF{i:List Nat}{f:FuncId}{v:Value}(j: ∀a,Calls P f c.toArray a λk m=>k= .returned v/\Ext [] a m)(o:aM P n ops Q rest ((d,v)::l) (ag e i b))(hargs:db l g=some c:=by exact rfl)(p:Nat.blt d n=true:=by exact rfl)(q:dX P f:=by exact cL):aM P n ops Q (⟨some d,.call ⟨.value<|.func f,g.toArray,h⟩,ty,pos,bf,none⟩::rest) l (ag e i b):=bd (hargs:=hargs) (hd:=p) (hcb:=q) (λa _=>j a) o
def cU{j:List Nat}{c:Chunk}{f:FuncId}{k:List Value}(m: ∀a,c.pred a->Calls P f k.toArray a λo p=>o= .returned i/\Ext [] a p)(q:aM P n ops Q rest ((d,i)::l) (ag e j b))(r:Has b c:=by exact gB)(hargs:db l g=some k:=by exact rfl)(s:Nat.blt d n=true:=by exact rfl)(t:dX P f:=by exact cL):aM P n ops Q (⟨some d,.call ⟨.value<|.func f,g.toArray,h⟩,ty,pos,bf,none⟩::rest) l (ag e j b):=bd (hargs:=hargs) (hd:=s) (hcb:=t) (λa u=>m a<|u.has r) q
def fh{j:List Nat}{c:Chunk}{f:FuncId}{k:List Value}(o: ∀a,c.pred a->N.pred a->Calls P f k.toArray a λp q=>p= .returned i/\Ext [] a q)(r:aM P n ops Q rest ((d,i)::l) (ag e j b))(s:Has b c:=by exact gB)(t:Has b N:=by exact gB)(u:db l g=some k:=by exact rfl)(v:Nat.blt d n=true:=by exact rfl)(w:dX P f:=by exact cL):aM P n ops Q (⟨some d,.call ⟨.value<|.func f,g.toArray,h⟩,ty,pos,bf,none⟩::rest) l (ag e j b):=bd (hargs:=u) (hd:=v) (hcb:=w) (λa m=>o a (m.has s)<|m.has t) r
def dg{j:List Nat}{f:FuncId}{k:o->Value}{m:o->Prop}{p:o->List Chunk}(q:aP b I G:=by exact ah)(r: ∀a,bc a I->Calls P f c.toArray a (aX k I p m a))(s: ∀i,m i->aM P n ops Q rest ((d,k i)::l) (ag e j<|p i++G))
 (hargs:db l g=some c:=by exact rfl) (hd:Nat.blt d n=true:=by exact rfl) (hcb:dX P f:=by exact cL):aM P n ops Q (⟨some d,.call ⟨.value<|.func f,g.toArray,h⟩,ty,pos,bf,none⟩::rest) l (ag e j b):=bK q (hd:=hd) (hcb:=hcb) (hargs:=hargs) (λa t=>r a<|t.cb q) s
def kH{j:List Nat}{f:FuncId}{k:o->Value}{m:o->Prop}{p:o->List Chunk}(q: ∀a,Calls P f c.toArray a<|aX k [] p m a)(r: ∀i,m i->aM P n ops Q rest ((d,k i)::l) (ag e j<|p i++b))
 (s:db l g=some c:=by exact rfl) (t:Nat.blt d n=true:=by exact rfl) (u:dX P f:=by exact cL):aM P n ops Q (⟨some d,.call ⟨.value<|.func f,g.toArray,h⟩,ty,pos,bf,none⟩::rest) l (ag e j b):=bK aP.nil (hd:=t) (hcb:=u) (hargs:=s) (λa _=>q a) r
def dE{j:List Nat}{f:FuncId}{k:o->Value}{m:o->Prop}{p:o->List Chunk}(r: ∀a,bc a I->Calls P f c.toArray a (aX k I p m a))(s: ∀i,m i->aM P n ops Q rest ((d,k i)::l) (ag e j<|p i++G))
 (hargs:db l g=some c:=by exact rfl) (hd:Nat.blt d n=true:=by exact rfl) (q:aP b I G:=by exact ah) (hcb:dX P f:=by exact cL):aM P n ops Q (⟨some d,.call ⟨.value<|.func f,g.toArray,h⟩,ty,pos,bf,none⟩::rest) l (ag e j b):=bK q (hd:=hd) (hcb:=hcb) (hargs:=hargs) (λa t=>r a<|t.cb q) s
end
def wO{P:Program}{n:Nat}{Q:cN}{l:Fr}{H:World->Prop}{b:Nat × Bool × List Nat}{af:Oper}
 (h:aM P n j.toArray (sX λe c=>(r.2.1=true\/m c)/\ ∃d:World->Prop,d c/\ie P n j.toArray d (λf=>kE P n j Q q (mM r.1 p) (λa=>(r.2.1=true\/m a)/\d a) f λa=>a=c) (r.2.2.map λg=>j.getD g default) e) [af] l H)
 (i:aM P n j.toArray (sX λe c=>(b.2.1=true\/m c)/\ ∃d:World->Prop,d c/\ie P n j.toArray d (λf=>kE P n j Q q (mM b.1 p) (λa=>(b.2.1=true\/m a)/\d a) f λa=>a=c) (b.2.2.map λg=>j.getD g default) e) [t] l H)
 (k:mL p=[r,b]:=by exact rfl) (o:j.getD r.1 default=af:=by conv=>lhs;whnf) (s:j.getD b.1 default=t:=by conv=>lhs;whnf):kE P n j Q (q+1) p m l H:=uC [r,b] k<|sx.2 ⟨o▸h,sx.2 ⟨s▸i,by simp⟩⟩
def Oo{P:Program}{n:Nat}{ops:Array Oper}{l:Fr}{d:Nat}{ty:TypeId}{pos:String}{bf:Array Edge}{sz:Nat}{a g:List Value}{h:Nat}(i:de P q sz c)(j:Nat.blt d n=true)(m:bi l k=some (.pointer<|some ⟨A,h,none⟩))(o:ag e f b B)(p:Has b (aG A g O))(r: (g.drop h).take sz=a)(s:a.length=sz):
 aM P n ops (qh ((d,.agg a.toArray)::l) λk=>k=B) [⟨some d,.load q k,ty,pos,bf,none⟩] l (λk=>k=B):=cE i j m s (λx t u v w=>by subst t;exact o.mI (sz:=sz) p r u v w) aJ
def GN{p:Prop}(a:p:=by
 first
 | ((with_reducible apply gY);exact rfl;exact rfl;exact aJ)
 | ((with_reducible apply wB);exact rfl;exact rfl;exact aJ)
 | ((with_reducible apply pk);exact rfl;exact rfl;exact aJ)
 | ((with_reducible apply pc);exact inferInstance;exact rfl;exact rfl;exact aJ)
 | ((with_reducible apply k8);exact inferInstance;exact rfl;exact rfl;exact gB;exact rfl;exact aJ)
 | ((with_reducible apply Bu);exact inferInstance;exact rfl;exact rfl;exact gB;exact rfl;exact rfl;exact aJ)
 | ((with_reducible apply bb);exact inferInstance;exact rfl;exact rfl;intro c b;subst b;(first | apply ag.e8 bR | apply rF.e8 bR);exact gB;exact rfl;exact aJ)
 | ((with_reducible apply Oo);exact inferInstance;exact rfl;exact rfl;assumption;exact gB;exact rfl;exact rfl)
 | ((with_reducible apply FN);exact rfl;exact rfl;exact rfl;exact aJ)
 | ((with_reducible apply wC);exact rfl;exact rfl;exact rfl;exact aJ)
 | ((with_reducible apply FI);exact rfl;exact rfl;exact rfl;exact aJ)
 | ((with_reducible apply FJ);exact rfl;exact rfl;exact rfl;exact aJ)
 | ((with_reducible apply FK);exact rfl;exact rfl;exact rfl;exact aJ)
 | ((with_reducible apply FL);exact rfl;exact rfl;exact rfl;exact aJ)
 | ((with_reducible apply yB);exact rfl;exact rfl;exact aJ)
 | ((with_reducible apply jB);exact rfl;exact rfl;exact rfl;exact wrap64 aa aa;exact aJ)
 | ((with_reducible apply hB);exact rfl;exact rfl;exact rfl;exact wrap64 aa aa;exact aJ)
 | ((with_reducible apply yC);exact eF.u;exact rfl;exact rfl;exact aJ)
 | ((with_reducible apply F0);exact eF.u;exact rfl;exact rfl;exact aJ)
 | ((with_reducible apply FY);exact rfl;exact rfl;exact rfl;exact aJ)
 | ((with_reducible apply FO);exact rfl;exact rfl;exact rfl;exact aJ)
 | ((with_reducible apply FP);exact rfl;exact rfl;exact rfl;exact aJ)
 | ((with_reducible apply kB);exact inferInstance;exact rfl;exact rfl;exact rfl;exact aJ)
 | ((with_reducible apply Bx);exact inferInstance;exact rfl;exact rfl;exact rfl;exact aJ)
 | ((with_reducible apply y2);exact eF.u;exact rfl;exact rfl;exact rfl;exact aJ)
 | ((with_reducible apply GF);exact eF.u;exact rfl;exact rfl;exact rfl;exact aJ)
 | ((with_reducible apply BA);exact rfl;exact rfl;exact rfl;exact aJ)
 | ((with_reducible apply GL);exact rfl;exact rfl;exact rK;exact rfl;exact rfl;exact aJ)
 | ((with_reducible apply GM);exact rfl;exact rfl;exact rK;exact rfl;exact rfl;exact aJ)
 | ((with_reducible apply uw);exact inferInstance;exact rfl;exact rfl;exact aJ)
 | ((with_reducible apply dW);exact rfl;exact rfl;exact eF.u;exact eF.u;exact wrap64 aa aa;exact aJ)
 | ((with_reducible apply yK);exact rfl;exact rfl;exact rfl;exact aJ)):p:=a
def Oq{p:Prop}(a:p:=by
 first
 | ((with_reducible apply GJ);exact rfl;exact rfl;exact rfl;exact rK;exact rfl;exact aJ)
 | ((with_reducible apply F7);exact rfl;exact rfl;exact rfl;exact aJ)
 | ((with_reducible apply GK);exact rfl;exact rfl;exact rK;exact rfl;exact GN)
 | exact GN):p:=a
def Ot{P:Program}{n:Nat}{ops:Array Oper}{l:Fr}{rest:List Oper}{a:Oper}{d:Nat}(e:j=t::rest)(f:t=a)(g:a.dst=some d)
 (h: ∀b,m b->aM P n ops (qh ((d,i)::l) λc=>c=b) [a] l λc=>c=b) (k:ie P n ops m u rest ((d,i)::l)):ie P n ops m u j l:=by subst e;subst f;exact aO g h k
def Ou{P:Program}{n:Nat}{ops:Array Oper}{l:Fr}(a:j=[])(b:u l):ie P n ops m u j l:=by subst a;exact rG b
def Ov{P:Program}{n:Nat}{Q:cN}{l:Fr}{H:World->Prop}(d:mL p=[r])(e:j.getD r.1 default=t)
 (f:aM P n j.toArray (sX λg b=>(r.2.1=true\/m b)/\ ∃c:World->Prop,c b/\ie P n j.toArray c (λh=>kE P n j Q q (mM r.1 p) (λa=>(r.2.1=true\/m a)/\c a) h λa=>a=b) (r.2.2.map λi=>j.getD i default) g) [t] l H):
 kE P n j Q (q+1) p m l H:=uC [r] d<|sx.2 ⟨e▸f,by simp⟩
def fG{p:Prop}(b:a)(c:fy a->p:=by
 intro b;first
 | ((with_reducible apply mC);exact b.af)
 | ((with_reducible apply gY);exact rfl;exact rfl;exact b.af)
 | ((with_reducible apply cv λ_=>True);(first | exact (λ_ _=> .inl rfl) | exact (λ_ c=> .inr c) | exact (λ_ c=> .inr ⟨.inr c,bh⟩));exact (λ_ _=>bh);exact b.af)
 | ((with_reducible apply nD);exact b.af)
 | ((with_reducible apply lx);exact b.af)
 | ((with_reducible apply ly);exact b.af)
 | ((with_reducible apply wB);exact rfl;exact rfl;exact b.af)
 | ((with_reducible apply Ot);(conv=>lhs;whnf);(conv=>lhs;whnf);exact rfl;intro d e;exact Oq;exact b.af)
 | ((with_reducible apply GJ);exact rfl;exact rfl;exact rfl;exact rK;exact rfl;exact b.af)
 | ((with_reducible apply GK);exact rfl;exact rfl;exact rK;exact rfl;exact b.af)
 | ((with_reducible apply Np);exact b.af)
 | ((with_reducible apply No);exact b.af)
 | ((with_reducible apply pc);exact inferInstance;exact rfl;exact rfl;exact b.af)
 | ((with_reducible apply Bq);exact b.af)
 | ((with_reducible apply Nr);exact b.af)
 | ((with_reducible apply Nu);exact rfl;exact rfl;exact b.af)
 | ((with_reducible apply Br);exact rfl;exact b.af)
 | ((with_reducible apply k8);exact inferInstance;exact rfl;exact rfl;exact gB;exact rfl;exact b.af)
 | ((with_reducible apply Ou);exact rfl;exact b.af)
 | ((with_reducible apply yA);exact b.af)
 | ((with_reducible apply FN);exact rfl;exact rfl;exact rfl;exact b.af)
 | ((with_reducible apply pk);exact rfl;exact rfl;exact b.af)
 | ((with_reducible apply GL);exact rfl;exact rfl;exact rK;exact rfl;exact rfl;exact b.af)
 | ((with_reducible apply GM);exact rfl;exact rfl;exact rK;exact rfl;exact rfl;exact b.af)
 | ((with_reducible apply jB);exact rfl;exact rfl;exact rfl;exact wrap64 aa aa;exact b.af)
 | ((with_reducible apply hB);exact rfl;exact rfl;exact rfl;exact wrap64 aa aa;exact b.af)
 | ((with_reducible apply Ov);exact rfl;(conv=>lhs;whnf);exact b.af)
 | ((with_reducible apply Nq);exact b.af)
 | ((with_reducible apply fR);exact inferInstance;exact rfl;exact rfl;exact y6;exact rfl;exact GI;exact y5 rfl;exact b.af)
 | ((with_reducible apply Ns);exact b.af)
 | ((with_reducible apply rr);exact b.af)
 | ((with_reducible apply ur);exact b.af)
 | ((with_reducible apply ru);exact b.af)
 | ((with_reducible apply Nt);exact b.af)
 | ((with_reducible apply Bu);exact inferInstance;exact rfl;exact rfl;exact gB;exact rfl;exact rfl;exact b.af)
 | ((with_reducible apply iN);exact inferInstance;exact rfl;exact rfl;exact y6;exact rfl;exact y5 rfl;exact b.af)
 | ((with_reducible apply FI);exact rfl;exact rfl;exact rfl;exact b.af)
 | ((with_reducible apply yX);exact b.af)
 | ((with_reducible apply FY);exact rfl;exact rfl;exact rfl;exact b.af)
 | ((with_reducible apply yC);exact eF.u;exact rfl;exact rfl;exact b.af)
 | ((with_reducible apply ff);exact rfl;exact rfl;exact b.af)
 | ((with_reducible apply e_);exact rfl;exact rfl;exact b.af)
 | ((with_reducible apply NC);exact inferInstance;exact rfl;exact b.af)
 | ((with_reducible apply ND);exact rfl;exact rfl;exact b.af)
 | ((with_reducible apply kB);exact inferInstance;exact rfl;exact rfl;exact rfl;exact b.af)
 | ((with_reducible apply NQ);exact rfl;exact c_.fx inferInstance rfl gB rfl rfl;exact b.af)
 | ((with_reducible apply Nv);exact rfl;exact rfl;exact rfl;exact b.af)
 | ((with_reducible apply F7);exact rfl;exact rfl;exact rfl;exact b.af)
 | ((with_reducible apply FL);exact rfl;exact rfl;exact rfl;exact b.af)
 | ((with_reducible apply By);exact inferInstance;exact rfl;exact rfl;exact rfl;exact rfl;exact b.af)
 | ((with_reducible apply y2);exact eF.u;exact rfl;exact rfl;exact rfl;exact b.af)
 | ((with_reducible apply Bx);exact inferInstance;exact rfl;exact rfl;exact rfl;exact b.af)
 | ((with_reducible apply FK);exact rfl;exact rfl;exact rfl;exact b.af)
 | ((with_reducible apply yB);exact rfl;exact rfl;exact b.af)
 | ((with_reducible apply wC);exact rfl;exact rfl;exact rfl;exact b.af)
 | ((with_reducible apply BA);exact rfl;exact rfl;exact rfl;exact b.af)
 | ((with_reducible apply FJ);exact rfl;exact rfl;exact rfl;exact b.af)
 | ((with_reducible apply F0);exact eF.u;exact rfl;exact rfl;exact b.af)
 | ((with_reducible apply NE);exact rfl;exact rfl;exact rfl;exact b.af)
 | ((with_reducible apply uw);exact inferInstance;exact rfl;exact rfl;exact b.af)
 | ((with_reducible apply yK);exact rfl;exact rfl;exact rfl;exact b.af)
 | ((with_reducible apply FO);exact rfl;exact rfl;exact rfl;exact b.af)
 | ((with_reducible apply FP);exact rfl;exact rfl;exact rfl;exact b.af)
 | ((with_reducible apply GF);exact eF.u;exact rfl;exact rfl;exact rfl;exact b.af)
 | ((with_reducible apply dW);exact rfl;exact rfl;exact eF.u;exact eF.u;exact wrap64 aa aa;exact b.af)
 | ((with_reducible apply Nw);exact rfl;exact rfl;exact rfl;exact rfl;exact b.af)
 | ((with_reducible apply FF);exact rfl;exact b.af)
 | (apply nD;exact b.af)
 | (apply iN;exact inferInstance;exact rfl;exact rfl;exact y6;exact rfl;exact y5 rfl;exact b.af)
 | (apply fR;exact inferInstance;exact rfl;exact rfl;exact y6;exact rfl;exact GI;exact y5 rfl;exact b.af)
 | (apply k8;exact inferInstance;exact rfl;exact rfl;exact gB;exact rfl;exact b.af)
 | (apply Bu;exact inferInstance;exact rfl;exact rfl;exact gB;exact rfl;exact rfl;exact b.af)
 | (apply gY;exact rfl;exact rfl;exact b.af)
 | (apply wB;exact rfl;exact rfl;exact b.af)):p:=c ⟨b⟩
def aE{cG:Prop}{P:Program}{n:Nat}{Q:cN}{l:Fr}{H:World->Prop}[Decidable a](b:fy (dA P n (.cond k w C) Q l H)->cG:=by intro c;(repeat refine fG ?_);exact c.af)(d:bi l k=some (.bool<|decide a):=by exact rfl)(e:a->dA P n w Q l H)(f: ¬a->dA P n C Q l H):cG:=b ⟨cj d e f⟩
def av{p:Prop}(b:a)(c:fy a->p:=by intro b;(iterate 1 refine fG ?_);exact b.af):p:=c ⟨b⟩
def aA{p:Prop}(b:a)(c:fy a->p:=by intro b;(iterate 2 refine fG ?_);exact b.af):p:=c ⟨b⟩
def ap{p:Prop}(b:a)(c:fy a->p:=by intro b;(iterate 3 refine fG ?_);exact b.af):p:=c ⟨b⟩
def a7{p:Prop}(b:a)(c:fy a->p:=by intro b;(iterate 4 refine fG ?_);exact b.af):p:=c ⟨b⟩
def aI{p:Prop}(b:a)(c:fy a->p:=by intro b;(iterate 5 refine fG ?_);exact b.af):p:=c ⟨b⟩
def aH{p:Prop}(b:a)(c:fy a->p:=by intro b;(iterate 6 refine fG ?_);exact b.af):p:=c ⟨b⟩
def aU{p:Prop}(b:a)(c:fy a->p:=by intro b;(iterate 7 refine fG ?_);exact b.af):p:=c ⟨b⟩
def aY{p:Prop}(b:a)(c:fy a->p:=by intro b;(iterate 8 refine fG ?_);exact b.af):p:=c ⟨b⟩
def a6{p:Prop}(b:a)(c:fy a->p:=by intro b;(iterate 9 refine fG ?_);exact b.af):p:=c ⟨b⟩
def be{p:Prop}(b:a)(c:fy a->p:=by intro b;(iterate 10 refine fG ?_);exact b.af):p:=c ⟨b⟩
def bP{p:Prop}(b:a)(c:fy a->p:=by intro b;(iterate 11 refine fG ?_);exact b.af):p:=c ⟨b⟩
def b6{p:Prop}(b:a)(c:fy a->p:=by intro b;(iterate 12 refine fG ?_);exact b.af):p:=c ⟨b⟩
def cn{p:Prop}(b:a)(c:fy a->p:=by intro b;(iterate 13 refine fG ?_);exact b.af):p:=c ⟨b⟩
def cZ{p:Prop}(b:a)(c:fy a->p:=by intro b;(iterate 14 refine fG ?_);exact b.af):p:=c ⟨b⟩
def dO{p:Prop}(b:a)(c:fy a->p:=by intro b;(iterate 15 refine fG ?_);exact b.af):p:=c ⟨b⟩
def fa{p:Prop}(b:a)(c:fy a->p:=by intro b;(iterate 16 refine fG ?_);exact b.af):p:=c ⟨b⟩
def ft{p:Prop}(b:a)(c:fy a->p:=by intro b;(iterate 17 refine fG ?_);exact b.af):p:=c ⟨b⟩
def gQ{p:Prop}(b:a)(c:fy a->p:=by intro b;(iterate 18 refine fG ?_);exact b.af):p:=c ⟨b⟩
def fT{p:Prop}(b:a)(c:fy a->p:=by intro b;(iterate 19 refine fG ?_);exact b.af):p:=c ⟨b⟩
def gR{p:Prop}(b:a)(c:fy a->p:=by intro b;(iterate 20 refine fG ?_);exact b.af):p:=c ⟨b⟩
def lb{p:Prop}(b:a)(c:fy a->p:=by intro b;(iterate 21 refine fG ?_);exact b.af):p:=c ⟨b⟩
def nI{p:Prop}(b:a)(c:fy a->p:=by intro b;(iterate 22 refine fG ?_);exact b.af):p:=c ⟨b⟩
def qp{p:Prop}(b:a)(c:fy a->p:=by intro b;(iterate 23 refine fG ?_);exact b.af):p:=c ⟨b⟩
def lB{p:Prop}(b:a)(c:fy a->p:=by intro b;(iterate 24 refine fG ?_);exact b.af):p:=c ⟨b⟩
def y7{p:Prop}(b:a)(c:fy a->p:=by intro b;(iterate 25 refine fG ?_);exact b.af):p:=c ⟨b⟩
def oI{p:Prop}(b:a)(c:fy a->p:=by intro b;(iterate 26 refine fG ?_);exact b.af):p:=c ⟨b⟩
def wP{p:Prop}(b:a)(c:fy a->p:=by intro b;(iterate 27 refine fG ?_);exact b.af):p:=c ⟨b⟩
def y8{p:Prop}(b:a)(c:fy a->p:=by intro b;(iterate 28 refine fG ?_);exact b.af):p:=c ⟨b⟩
def B1{p:Prop}(b:a)(c:fy a->p:=by intro b;(iterate 29 refine fG ?_);exact b.af):p:=c ⟨b⟩
def wQ{p:Prop}(b:a)(c:fy a->p:=by intro b;(iterate 30 refine fG ?_);exact b.af):p:=c ⟨b⟩
def GO{p:Prop}(b:a)(c:fy a->p:=by intro b;(iterate 31 refine fG ?_);exact b.af):p:=c ⟨b⟩
def Ow{p:Prop}(b:a)(c:fy a->p:=by intro b;(iterate 32 refine fG ?_);exact b.af):p:=c ⟨b⟩
def GP{p:Prop}(b:a)(c:fy a->p:=by intro b;(iterate 33 refine fG ?_);exact b.af):p:=c ⟨b⟩
def Ox{p:Prop}(b:a)(c:fy a->p:=by intro b;(iterate 38 refine fG ?_);exact b.af):p:=c ⟨b⟩
def Oy{p:Prop}(b:a)(c:fy a->p:=by intro b;(iterate 40 refine fG ?_);exact b.af):p:=c ⟨b⟩
def Oz{p:Prop}(b:a)(c:fy a->p:=by intro b;(iterate 64 refine fG ?_);exact b.af):p:=c ⟨b⟩
def ba{P:Program}{c:Code}{a:List Value}{R:Ending->World->Prop}{n:Nat}(b:P.funcs[v]? = some y)(d:y.ntmps=n)(f:dA P n c (Fin P n y R) (pa a 0) (ag e [] []))(g:y.body=some c:=by exact rfl)(h:Nat.ble a.length n=true:=by exact rfl):Calls P v a.toArray e R:=Ol b d g h f
def bX{P:Program}{c:Code}{a:List Value}{R:Ending->World->Prop}{n:Nat}(d:P.funcs[v]? = some y)(f:y.ntmps=n)(g:bc e b)(h:dA P n c (Fin P n y R) (pa a 0) (ag e (aK b) b))(i:y.body=some c:=by exact rfl)(j:Nat.ble a.length n=true:=by exact rfl):Calls P v a.toArray e R:=Om d f g i j h
