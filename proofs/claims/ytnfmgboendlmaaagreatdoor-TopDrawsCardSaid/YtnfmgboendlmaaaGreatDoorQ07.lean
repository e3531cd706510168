/- part 7 of the proof -/
import Derived.Test.YtnfmgboendlmaaaGreatDoorQ06
import Derived.Lib.SliceRun
import Derived.Laws.Pointers
set_option linter.all false
namespace Go.Proofs.YtnfmgboendlmaaaGreatDoor.Mq
open RowKit
variable {P:Program}{n d:Nat}{ops:Array Oper}{Q:cN}{rest:List Oper}{l:Fr}{ty:TypeId}{pos:String}{bf:Array Edge}{b:World}{S:List Nat}{cs:List Chunk}
variable {H:Array TypeId}{W:Bool}{E M c h k o q u:Chunk}{z:Code}{j:Fr}{Y:Func}{U:FuncId}{a:List Chunk}{G:List Operand}{s:List Value}{A D L O X g t:Nat}{m:Operand}{I:Option Addr}{p:Type}{T Z6 Z7:TypeId}{B F K N Z e r x:Value}{i:World}{J:p->Chunk}{C:p->Prop}{y:p->Value}(Z9:p->Value)
def both(c d:Chunk):Chunk where
 cT:=c.cT++d.cT
 pred w:=c.pred w/\d.pred w
 low w h k a:=by
  rcases dq.1 a with a | a
  exact c.low w h.1 k a
  exact d.low w h.2 k a
 loc w b h ao:=⟨c.loc w b (λk a=>h k<|p7 _ a) ao.1,d.loc w b (λk a=>h k<|wr _ a) ao.2⟩
def bH.perm{cs:List Chunk}(b:bH cs c a):List.Perm cs (c::a):=by
 obtain⟨l,d,rfl,rfl⟩:=b.split;exact p_
def GD{b:List Chunk}(c:List.Perm a b):List.Perm (aK a) (aK b):=by
 unfold aK;exact c.flatMap_right _
def ag.perm{b:World}{S:List Nat}{cs:List Chunk}{w:World}(c:ag b S cs w)(d:List.Perm cs a):ag b S a w:=
 ⟨c.ext,(GD d).nodup_iff.1 c.nodup,λe f=>c.all e<|d.mem_iff.2 f,λg h=>c.eU g<|(GD d).mem_iff.2 h⟩
def ag.Oh{b:World}{S:List Nat}{cs:List Chunk}{w:World}{d:Chunk}(i:ag b S cs w)(j:bH cs (both c d) a):ag b S (c::d::a) w:=by
 have e:=i.perm j.perm
 have g:aK (both c d::a)=aK (c::d::a):=by simp[aK,both]
 refine⟨e.ext,g▸e.nodup,λk f=>?_,λl m=>e.eU l<|g▸m⟩;have h: (both c d).pred w:=e.all _ au
 rcases eJ.1 f with rfl | f
 exact h.1;rcases eJ.1 f with rfl | f
 exact h.2;exact e.all k (by simp[f])
def ag.both{b:World}{S:List Nat}{cs f:List Chunk}{w:World}{d:Chunk}(i:ag b S cs w)(j:bH cs c a)(k:bH a d f):ag b S (both c d::f) w:=by
 have e:=i.perm<|j.perm.trans<|k.perm.cons c
 have h:aK (Mq.both c d::f)=aK (c::d::f):=by simp[aK,Mq.both]
 refine⟨e.ext,h▸e.nodup,λl g=>?_,λm n=>e.eU m<|h▸n⟩;rcases eJ.1 g with rfl | g
 exact⟨e.all c au,e.all d au⟩;exact e.all l (by simp[g])
def mP(c:Chunk)(b:p->Chunk)(g:p->Prop)(d:World):Ending->World->Prop:=λh e=>
 ∃a,g a/\h= .returned (Z9 a)/\Ext c.cT d e/\(b a).pred e/\(∀f∈(b a).cT,f∈c.cT\/d.heap.size<=f)/\(b a).cT.Nodup
def mP.of{d:World}(a:p)(g:C a)(b:ag i c.cT [J a] d):mP y c J C i (.returned<|y a) d:=by
 have e:aK [J a]=(J a).cT:=by simp[aK]
 refine⟨a,g,rfl,b.ext,b.all _ au,λf h=>?_,e▸b.nodup⟩;rcases fd f i.heap.size with j | k
 exact .inl<|b.eU f (e.symm▸h) j;exact .inr k
def gr(b:p->Chunk)(e:p->Prop)(c:World):Ending->World->Prop:=λf d=>
 ∃a,e a/\f= .returned (Z9 a)/\Ext [] c d/\(b a).pred d/\(∀g∈(b a).cT,c.heap.size<=g)/\(b a).cT.Nodup
def gr.of{c:World}(a:p)(f:C a)(b:ag i [] [J a] c):gr y J C i (.returned<|y a) c:=by
 have d:aK [J a]=(J a).cT:=by simp[aK]
 refine⟨a,f,rfl,b.ext,b.all _ au,λe g=>?_,d▸b.nodup⟩;rcases fd e i.heap.size with h | j
 exact absurd (b.eU e (d.symm▸g) h) au;exact j
def y1(d:bH cs (Mq.both c h) a)(e:dA P n z Q l (ag b S<|c::h::a)):dA P n z Q l (ag b S cs):=dh e (Sub.refl _) λ_ f=>f.Oh d
def BW{f:FuncId}(g:p->List Chunk)(i: ∀a,bC cs c (J a)<|g a)
 (j: ∀e,ag b S cs e->Calls P f s.toArray e (mP y c J C e))
 (k: ∀a,C a->aM P n ops Q rest ((d,y a)::l) (ag b S<|g a)) (m:db l G=some s:=by exact rfl) (o:Nat.blt d n=true:=by exact rfl) (q:dX P f:=by exact cL):
 aM P n ops Q (⟨some d,.call ⟨.value<|.func f,G.toArray,H⟩,ty,pos,bf,none⟩::rest) l (ag b S cs):=by
 refine iw rfl (hd:=o) (hcb:=q) (hargs:=m) λe h=>?_
 have:=j e h
 simp only[jV,kr];refine this.mono ?_;rintro x z ⟨a,r,rfl,t,u,v,w⟩;exact⟨y a,rfl,(k a r).at<|h.iM (i a) t u v w⟩
def hf{ι:Type}{f:FuncId}{vs:List Value}{e:ι->Value}{c':ι->Chunk}{g:ι->Prop}
 (i: ∀c,ag b S cs c->Calls P f vs.toArray c (gr e c' g c))
 (j: ∀a,g a->aM P n ops Q rest ((d,e a)::l) (ag b S<|c' a::cs)) (hargs:db l G=some vs:=by exact rfl) (k:Nat.blt d n=true:=by exact rfl) (m:dX P f:=by exact cL):
 aM P n ops Q (⟨some d,.call ⟨.value<|.func f,G.toArray,H⟩,ty,pos,bf,none⟩::rest) l (ag b S cs):=by
 refine iw rfl (hd:=k) (hcb:=m) (hargs:=hargs) λc h=>?_
 have:=i c h
 simp only[jV,kr];refine this.mono ?_;rintro t u ⟨a,o,rfl,p,q,r,s⟩;exact⟨e a,rfl,(j a o).at<|h.add p q r s⟩
def GE{H:World->Prop}{d:Op}
 (h: ∀e a,ox l e->H a-> ∃c b,(execOp e ⟨none,d,ty,pos,bf,none⟩).run P a= .ok (.value c) b/\aM P n ops Q rest l λf=>f=b):
 aM P n ops Q (⟨none,d,ty,pos,bf,none⟩::rest) l H:=by
 intro a i j g;obtain⟨c,b,k,m⟩:=h j.eval a (λf c o=>g.bi o) i;unfold wpList;rw[aB (by simp[Region.wanted])];refine .inl ?_;simp only[Oper.wp,k,Oper.upon_value];exact m b rfl _ g
def Oi{d:Operand}{z:Value}{m:Nat}{xs:List Value}(j:P.underlying g=some (.slice t))(k: ∀e,(zeroValue t).run P e= .ok z e)(o:z.cells= #[z])(h:z.oneCell'=true)(C:0<m)
 (p:bi l d=some (.slice (some ⟨A,0,none⟩) m D)) (c:bC cs (own t 1 (.slice (some ⟨A,0,none⟩) m D) m xs) (own t 1 (.slice (some ⟨A,0,none⟩) m D) m<|List.replicate m z) a)
 (q:aM P n ops Q rest l (ag b S a)):
 aM P n ops Q (⟨none,.call ⟨.builtin .clear,#[d],#[g]⟩,ty,pos,bf,none⟩::rest) l (ag b S cs):=by
 refine GE λE e r i=>?_
 have s:=i.has c.has
 have f:xs.length=m:=by simpa using s.1
 have u:dJ xs 0 (List.replicate m z)=List.replicate m z:=by
  rw[kC 0 (by simp[f])];simp[f]
 rw[<-u] at c
 obtain⟨v,w,x⟩:=i.ux (P:=P) (xs:=xs) (o:=0) (vs:=List.replicate m z) (by simp[f]) (λF c=>by rw[k6 c];exact h) c;have y: (Builtin.zeroCells z.cells m).toList=List.replicate m z:=by
  rw[o];simp[Builtin.zeroCells]
  apply List.ext_getElem
  simp
  intro G h H;simp[Nat.mod_one]
 obtain⟨m,rfl⟩ : ∃B,m=B+1:=⟨m - 1,aa⟩;refine⟨.tuple #[],v,?_,q.at x⟩;simp[execOp,resolve,invoke,builtin,r d _ p,Builtin.clear_,run_underlying j,k,y,w]
def y2{H:World->Prop}(b:P.underlying T=some (.pointer Z6))(c:Nat.blt d n=true)(e:bi l m=some (.pointer I))(f:I.isNone=W)
 (g:aM P n ops Q rest ((d,.bool W)::l) H):aM P n ops Q (⟨some d,.binOp .eql T m (.const<|.pointer none) Z7,ty,pos,bf,none⟩::rest) l H:=
 dB _ c (λh i a=>by
  have j:h (.const<|.pointer none)= .pointer none:=a _ _ rfl
  have k:=run_eql_pointer_nil (P:=P) i T I (by simp[Program.pointee,b])
  subst f;simp[execOp,a m _ e,j,eqGuard,k]) g
def GF{H:World->Prop}(b:P.underlying T=some (.pointer Z6))(c:Nat.blt d n=true)(e:bi l m=some (.pointer I))(f: (!I.isNone)=W)
 (g:aM P n ops Q rest ((d,.bool W)::l) H):aM P n ops Q (⟨some d,.binOp .neq T m (.const<|.pointer none) Z7,ty,pos,bf,none⟩::rest) l H:=
 dB _ c (λh i a=>by
  have j:h (.const<|.pointer none)= .pointer none:=a _ _ rfl
  have k:=run_neq_pointer_nil (P:=P) i T I (by simp[Program.pointee,b])
  subst f;simp[execOp,a m _ e,j,eqGuard,k]) g
def pk{H:World->Prop}{a:Addr}(b:Nat.blt d n=true)(c:bi l m=some (.pointer<|some a))
 (e:aM P n ops Q rest ((d,.pointer<|some a)::l) H):aM P n ops Q (⟨some d,.nilCheck m,ty,pos,bf,none⟩::rest) l H:=
 dB _ b (λg h f=>by simp[execOp,f m _ c]) e
def aZ(cs:List Chunk):Chunk where
 cT:=aK cs
 pred w:= ∀c∈cs,c.pred w
 low w h k b:=by
  obtain⟨c,a,d⟩:=er.1 b
  exact c.low w (h c a) k d
 loc w e h ao c a:=c.loc w e (λk b=>h k<|er.2 ⟨c,a,b⟩)<|ao c a
structure bc (w:World) (cs:List Chunk):Prop where
 all: ∀c∈cs,c.pred w
 nodup: (aK cs).Nodup
section
variable {cs':List Chunk}{w:World}
def bc.start(a:bc w cs)(x:World)(b:x=w):ag w (aK cs) cs x:=by
 subst b;exact⟨Ext.refl _ _,a.nodup,a.all,λ_ c _=>c⟩
def y3(l cs:List Chunk):aK (aZ l::cs)=aK (l++cs):=by simp[aK,aZ]
def ag.mQ{l:List Chunk}(a:ag b S (aZ l::cs) w):ag b S (l++cs) w:=by
 have d:=y3 l cs
 refine⟨a.ext,d▸a.nodup,λe c=>?_,λf g=>a.eU f<|d▸g⟩;rcases dq.1 c with c | c
 exact a.all (aZ l) au e c;exact a.all e (by simp[c])
def ag.close'{l:List Chunk}(a:ag b S (l++cs) w):ag b S (aZ l::cs) w:=by
 have e:=y3 l cs
 refine⟨a.ext,e▸a.nodup,λd c=>?_,λf g=>a.eU f<|e▸g⟩;rcases eJ.1 c with rfl | c
 exact λd c=>a.all d (by simp[c])
 exact a.all d (by simp[c])
def ag.open{l:List Chunk}(a:ag b S cs w)(c:bH cs (aZ l) cs'):ag b S (l++cs') w:=(a.perm c.perm).mQ
inductive aP:List Chunk->List Chunk->List Chunk->Prop
 | nil {cs:List Chunk}:aP cs [] cs
 | cons {cs hD s9:List Chunk} {c:Chunk} {l:List Chunk}:bH cs c hD->aP hD l s9->aP cs (c::l) s9
def aP.perm{l:List Chunk}(a:aP cs l cs'):List.Perm cs (l++cs'):=by
 induction a with
 | nil=>exact List.Perm.refl _
 | cons b _ c=>exact b.perm.trans<|c.cons _
def ag.close{l:List Chunk}(a:ag b S cs w)(c:aP cs l cs'):ag b S (aZ l::cs') w:=(a.perm c.perm).close'
def ag.cb{l:List Chunk}(c:ag b S cs w)(d:aP cs l cs'):bc w l:=by
 have a:=c.perm d.perm
 refine⟨λe f=>a.all e<|by simp[f],?_⟩;have:=a.nodup
 rw[jb] at this
 exact (gO.1 this).1
def ag.drop(d:List Chunk): ∀(a:List Chunk),ag b S (a++d) w->ag b S d w:=λa=>by
 induction a with
 | nil=>exact λc=>c
 | cons f a e=>exact λc=>e<|c.rem bH.head
def ag.aF{l:List Chunk}(a:ag b S cs w)(c:aP cs l cs'):ag b S l w:=by
 have d:=a.perm<|c.perm.trans p9
 exact ag.drop _ _ d
def bc.open{l:List Chunk}(b:bc w (aZ l::cs)):bc w (l++cs):=by
 refine⟨λc a=>?_,?_⟩;rcases dq.1 a with a | a
 exact b.all (aZ l) au c a;exact b.all c (by simp[a]);have:=b.nodup
 rwa [y3] at this
def ag.mR{l0:List Chunk}(e:ag b S cs w)(f:aP cs l0 cs')(c:ag w (aK l0) a i):ag b S (a++cs') i:=
 ((e.close f).iM (c':=aZ a) bC.head c.ext c.all (λd g=>by
  rcases fd d w.heap.size with h | j
  exact .inl<|c.eU d g h;exact .inr j) c.nodup).mQ
end
def aX{ι:Type}(v:ι->Value)(l:List Chunk)(l':ι->List Chunk)(ok:ι->Prop)(w:World):Ending->World->Prop:=λa b=>
 ∃i,ok i/\a= .returned (v i)/\ag w (aK l) (l' i) b
def aX.of{ι:Type}{v:ι->Value}{l:List Chunk}{b:ι->List Chunk}{ok:ι->Prop}{w:World}(a:ι)(c:ok a)(d:ag w (aK l) (b a) i):aX v l b ok w (.returned<|v a) i:=⟨a,c,rfl,d⟩
def aX.cf{ι:Type}{v:ι->Value}{l:List Chunk}{a:ι->List Chunk}{ok:ι->Prop}{w b:World}(i:ι)(c:ok i)(d:e=v i)(f:ag w (aK l) (a i) b):aX v l a ok w (.returned e) b:=⟨i,c,by rw[d],f⟩
def aX.mono{ι:Type}{v:ι->Value}{l:List Chunk}{b:ι->List Chunk}{ok:ι->Prop}{c:p->List Chunk}{w:World}{d:Ending}(e:aX v l b ok w d i)
 (f: ∀a,ok a-> ∃k,C k/\v a=y k/\b a=c k):aX y l c C w d i:=by
 obtain⟨a,g,rfl,h⟩:=e;obtain⟨k,j,m,n⟩:=f a g;exact⟨k,j,by rw[m],n▸h⟩
section
variable {cs':List Chunk}{ι:Type}{args:List Operand}{di:Array TypeId}{f:FuncId}{vs:List Value}{v:ι->Value}{l0:List Chunk}{ok:ι->Prop}
def bK{l':ι->List Chunk}(e:aP cs l0 cs')
 (g: ∀w,ag b S cs w->Calls P f vs.toArray w (aX v l0 l' ok w))
 (h: ∀a,ok a->aM P n ops Q rest ((d,v a)::l) (ag b S<|l' a++cs')) (hargs:db l args=some vs:=by exact rfl) (hd:Nat.blt d n=true:=by exact rfl) (hcb:dX P f:=by exact cL):
 aM P n ops Q (⟨some d,.call ⟨.value<|.func f,args.toArray,di⟩,ty,pos,bf,none⟩::rest) l (ag b S cs):=by
 refine iw rfl (hd:=hd) (hcb:=hcb) (hargs:=hargs) λw c=>?_
 have:=g w c
 simp only[jV,kr];refine this.mono ?_;rintro k m ⟨a,i,rfl,j⟩;exact⟨v a,rfl,(h a i).at<|c.mR e j⟩
def k_{first cap:List Value}{l':ι->List Chunk}(e:aP cs l0 cs')(hd:Nat.blt d n=true)(g:bi l m=some (.func (.func f) first.toArray cap.toArray))(hcb:dX P f)(hargs:db l args=some vs)
 (h: ∀w,ag b S cs w->Calls P f (first++vs++cap).toArray w (aX v l0 l' ok w))
 (i: ∀a,ok a->aM P n ops Q rest ((d,v a)::l) (ag b S<|l' a++cs')):
 aM P n ops Q (⟨some d,.call ⟨.value m,args.toArray,di⟩,ty,pos,bf,none⟩::rest) l (ag b S cs):=by
 refine iw g (hd:=hd) (hcb:=hcb) (hargs:=hargs) λw c=>?_
 have:=h w c
 simp only[List.append_toArray];refine this.mono ?_;rintro o p ⟨a,j,rfl,k⟩;exact⟨v a,rfl,(i a j).at<|c.mR e k⟩
def la{lc:List Chunk}(a:bH cs (aZ lc) cs')(c:aM P n ops Q rest l (ag b S<|lc++cs')):aM P n ops Q rest l (ag b S cs):=iL c (Sub.refl _) λ_ d=>d.open a
def uI{lc:List Chunk}(a:bH cs (aZ lc) cs')(c:dA P n z Q l (ag b S<|lc++cs')):dA P n z Q l (ag b S cs):=dh c (Sub.refl _) λ_ d=>d.open a
end
def bw{c:Chunk} :Has (c::a) c:=Has.head
def bx :bH (c::a) c (a):=bH.head
def cJ :bC (c::a) c h (h::a):=bC.head
def cz{b c:Chunk} :Has (b::c::a) c:=Has.tail Has.head
def c6 :bH (c::h::a) h (c::a):=bH.tail bH.head
def fs :bC (c::h::a) h k (c::k::a):=bC.tail bC.head
def cW{b c:Chunk} :Has (b::h::c::a) c:=Has.tail<|Has.tail Has.head
def pm :bH (c::h::k::a) k (c::h::a):=bH.tail<|bH.tail bH.head
def l4 :bC (c::h::k::a) k o (c::h::o::a):=bC.tail<|bC.tail bC.head
def hL{b c:Chunk} :Has (b::h::k::c::a) c:=Has.tail<|Has.tail<|Has.tail Has.head
def qn :bH (c::h::k::o::a) o (c::h::k::a):=bH.tail<|bH.tail<|bH.tail bH.head
def oH :bC (c::h::k::o::a) o q (c::h::k::q::a):=bC.tail<|bC.tail<|bC.tail bC.head
def j4{b c:Chunk} :Has (b::h::k::o::c::a) c:=Has.tail<|Has.tail<|Has.tail<|Has.tail Has.head
def pn :bH (c::h::k::o::q::a) q (c::h::k::o::a):=bH.tail<|bH.tail<|bH.tail<|bH.tail bH.head
def j5 :bC (c::h::k::o::q::a) q u (c::h::k::o::u::a):=bC.tail<|bC.tail<|bC.tail<|bC.tail bC.head
def kG{b c:Chunk} :Has (b::h::k::o::q::c::a) c:=Has.tail<|Has.tail<|Has.tail<|Has.tail<|Has.tail Has.head
def uJ :bC (c::h::k::o::q::u::a) u E (c::h::k::o::q::E::a):=bC.tail<|bC.tail<|bC.tail<|bC.tail<|bC.tail bC.head
def hM{b c:Chunk} :Has (b::h::k::o::q::u::c::a) c:=Has.tail<|Has.tail<|Has.tail<|Has.tail<|Has.tail<|Has.tail Has.head
def BX :bH (c::h::k::o::q::u::E::a) E (c::h::k::o::q::u::a):=bH.tail<|bH.tail<|bH.tail<|bH.tail<|bH.tail<|bH.tail bH.head
def wN :bC (c::h::k::o::q::u::E::a) E M (c::h::k::o::q::u::M::a):=bC.tail<|bC.tail<|bC.tail<|bC.tail<|bC.tail<|bC.tail bC.head
def BY{b c:Chunk} :Has (b::h::k::o::q::u::E::c::a) c:=Has.tail<|Has.tail<|Has.tail<|Has.tail<|Has.tail<|Has.tail<|Has.tail Has.head
def BZ :bH (c::h::k::o::q::u::E::M::a) M (c::h::k::o::q::u::E::a):=bH.tail<|bH.tail<|bH.tail<|bH.tail<|bH.tail<|bH.tail<|bH.tail bH.head
def GG{b:Chunk} :bC (c::h::k::o::q::u::E::M::a) M b (c::h::k::o::q::u::E::b::a):=bC.tail<|bC.tail<|bC.tail<|bC.tail<|bC.tail<|bC.tail<|bC.tail bC.head
def Oj{b c:Chunk} :Has (b::h::k::o::q::u::E::M::c::a) c:=Has.tail<|Has.tail<|Has.tail<|Has.tail<|Has.tail<|Has.tail<|Has.tail<|Has.tail Has.head
def GH{b d:Chunk} :bC (c::h::k::o::q::u::E::M::b::a) b d (c::h::k::o::q::u::E::M::d::a):=bC.tail<|bC.tail<|bC.tail<|bC.tail<|bC.tail<|bC.tail<|bC.tail<|bC.tail bC.head
def jE{v0:Value}(a:v0.oneCell'=true):aV (v0::[]):=aV.cons a aV.nil
def y4{v0:Value}(a:v0.oneCell'=true)(b:e.oneCell'=true):aV (v0::e::[]):=aV.cons a<|aV.cons b aV.nil
def Ok{v0 :Value}(a:v0.oneCell'=true)(b:e.oneCell'=true)(c:r.oneCell'=true)(d:x.oneCell'=true)(f:B.oneCell'=true):aV (v0::e::r::x::B::[]):=aV.cons a<|aV.cons b<|aV.cons c<|aV.cons d<|aV.cons f aV.nil
def B0{v0 :Value}(a:v0.oneCell'=true)(b:e.oneCell'=true)(c:r.oneCell'=true)(d:x.oneCell'=true)(f:B.oneCell'=true)(g:F.oneCell'=true)(h:K.oneCell'=true)(i:N.oneCell'=true):aV (v0::e::r::x::B::F::K::N::[]):=aV.cons a<|aV.cons b<|aV.cons c<|aV.cons d<|aV.cons f<|aV.cons g<|aV.cons h<|aV.cons i aV.nil
def hg{v0 a:Value}(b:v0.oneCell'=true)(c:e.oneCell'=true)(d:r.oneCell'=true)(f:x.oneCell'=true)(g:B.oneCell'=true)(h:F.oneCell'=true)(i:K.oneCell'=true)(j:N.oneCell'=true)(k:Z.oneCell'=true)(l:a.oneCell'=true):aV (v0::e::r::x::B::F::K::N::Z::a::[]):=aV.cons b<|aV.cons c<|aV.cons d<|aV.cons f<|aV.cons g<|aV.cons h<|aV.cons i<|aV.cons j<|aV.cons k<|aV.cons l aV.nil
def ut{v0:Value}(a:look j g=some v0):Sub j [(g,v0)]:=Sub.cons a Sub.nil
def ig{v0:Value}(a:look j g=some v0)(b:look j t=some e):Sub j [(g,v0),(t,e)]:=Sub.cons a<|Sub.cons b Sub.nil
def ed{v0 :Value}(a:look j g=some v0)(b:look j t=some e)(c:look j A=some r):Sub j [(g,v0),(t,e),(A,r)]:=Sub.cons a<|Sub.cons b<|Sub.cons c Sub.nil
def da{v0 :Value}(a:look j g=some v0)(b:look j t=some e)(c:look j A=some r)(d:look j D=some x):Sub j [(g,v0),(t,e),(A,r),(D,x)]:=Sub.cons a<|Sub.cons b<|Sub.cons c<|Sub.cons d Sub.nil
def en{v0 :Value}(a:look j g=some v0)(b:look j t=some e)(c:look j A=some r)(d:look j D=some x)(f:look j L=some B):Sub j [(g,v0),(t,e),(A,r),(D,x),(L,B)]:=Sub.cons a<|Sub.cons b<|Sub.cons c<|Sub.cons d<|Sub.cons f Sub.nil
def jF{v0 :Value}(a:look j g=some v0)(b:look j t=some e)(c:look j A=some r)(d:look j D=some x)(f:look j L=some B)(h:look j O=some F):Sub j [(g,v0),(t,e),(A,r),(D,x),(L,B),(O,F)]:=Sub.cons a<|Sub.cons b<|Sub.cons c<|Sub.cons d<|Sub.cons f<|Sub.cons h Sub.nil
def jg{v0 :Value}(a:look j g=some v0)(b:look j t=some e)(c:look j A=some r)(d:look j D=some x)(f:look j L=some B)(h:look j O=some F)(i:look j X=some K):Sub j [(g,v0),(t,e),(A,r),(D,x),(L,B),(O,F),(X,K)]:=Sub.cons a<|Sub.cons b<|Sub.cons c<|Sub.cons d<|Sub.cons f<|Sub.cons h<|Sub.cons i Sub.nil
def po{a:Nat}{v0 :Value}(b:look j g=some v0)(c:look j t=some e)(d:look j A=some r)(f:look j D=some x)(h:look j L=some B)(i:look j O=some F)(k:look j X=some K)(l:look j a=some N):Sub j [(g,v0),(t,e),(A,r),(D,x),(L,B),(O,F),(X,K),(a,N)]:=Sub.cons b<|Sub.cons c<|Sub.cons d<|Sub.cons f<|Sub.cons h<|Sub.cons i<|Sub.cons k<|Sub.cons l Sub.nil
def uK{a b:Nat}{v0 :Value}(c:look j g=some v0)(d:look j t=some e)(f:look j A=some r)(h:look j D=some x)(i:look j L=some B)(k:look j O=some F)(l:look j X=some K)(m:look j a=some N)(n:look j b=some Z):Sub j [(g,v0),(t,e),(A,r),(D,x),(L,B),(O,F),(X,K),(a,N),(b,Z)]:=Sub.cons c<|Sub.cons d<|Sub.cons f<|Sub.cons h<|Sub.cons i<|Sub.cons k<|Sub.cons l<|Sub.cons m<|Sub.cons n Sub.nil
def qo{a b c:Nat}{v0 d:Value}(f:look j g=some v0)(h:look j t=some e)(i:look j A=some r)(k:look j D=some x)(l:look j L=some B)(m:look j O=some F)(n:look j X=some K)(o:look j a=some N)(p:look j b=some Z)(q:look j c=some d):Sub j [(g,v0),(t,e),(A,r),(D,x),(L,B),(O,F),(X,K),(a,N),(b,Z),(c,d)]:=Sub.cons f<|Sub.cons h<|Sub.cons i<|Sub.cons k<|Sub.cons l<|Sub.cons m<|Sub.cons n<|Sub.cons o<|Sub.cons p<|Sub.cons q Sub.nil
def y5{b:Nat}(a:Nat.ble g b=true):g<=b:=ej a
def Ol{a:Program}{R:Ending->World->Prop}(b:a.funcs[U]? = some Y)(c:Y.ntmps=g)(d:Y.body=some z)(e:Nat.ble s.length g=true)(f:dA a g z (Fin a g Y R) (pa s 0) (ag i [] [])):Calls a U s.toArray i R:=calls g b d c e<|dh f (Sub.refl _) λj h=>ag.FH _ _ h
def Om{b:Program}{R:Ending->World->Prop}(c:b.funcs[U]? = some Y)(d:Y.ntmps=g)(e:bc i a)(f:Y.body=some z)(h:Nat.ble s.length g=true)(j:dA b g z (Fin b g Y R) (pa s 0) (ag i (aK a) a)):Calls b U s.toArray i R:=calls g c f d h<|dh j (Sub.refl _) e.start
