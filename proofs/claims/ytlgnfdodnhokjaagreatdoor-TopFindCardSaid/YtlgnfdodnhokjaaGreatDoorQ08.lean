/- part 8 of the proof -/
import Derived.Test.YtlgnfdodnhokjaaGreatDoorQ05
import Derived.Test.YtlgnfdodnhokjaaGreatDoorQ07
import Derived.Lib.SliceRun
import Derived.Laws.Pointers
namespace Go.Proofs.YtlgnfdodnhokjaaGreatDoor.Mq
open Go Go.RowKit
section
def both (c d:Chunk):Chunk where
 ch:=c.ch++d.ch
 pred w:=c.pred w∧d.pred w
 low w h k a:=by
  rcases cZ.1 a with a | a
  exact c.low w h.1 k a
  exact d.low w h.2 k a
 loc w w' h ai:=⟨c.loc w w' (λk a=>h k (oq _ a)) ai.1,d.loc w w' (λk a=>h k (List.mem_append_right _ a)) ai.2⟩
theorem bw.perm {cs cs':List Chunk} {c:Chunk} (h:bw cs c cs'):List.Perm cs (c::cs'):=by
 obtain⟨l,r,rfl,rfl⟩:=h.split;exact ov
theorem FV {a b:List Chunk} (h:List.Perm a b):List.Perm (aB a) (aB b):=by
 unfold aB;exact h.flatMap_right _
theorem af.perm {b:World} {S:List Nat} {cs cs':List Chunk} {w:World} (h:af b S cs w) (ai:List.Perm cs cs'):af b S cs' w:=
 ⟨h.ext,(FV ai).nodup_iff.1 h.nodup,λc a=>h.all c (ai.mem_iff.2 a),λk d=>h.ek k ((FV ai).mem_iff.2 d)⟩
theorem af.PK {b:World} {S:List Nat} {cs cs':List Chunk} {w:World} {c d:Chunk} (h:af b S cs w) (i:bw cs (both c d) cs'):af b S (c::d::cs') w:=by
 have a:=h.perm i.perm
 have e:aB (both c d::cs')=aB (c::d::cs'):=by simp[aB,both]
 refine⟨a.ext,e▸a.nodup,λx f=>?_,λk j=>a.ek k (e▸j)⟩;have g: (both c d).pred w:=a.all _ av
 rcases e1.1 f with rfl | f
 exact g.1;rcases e1.1 f with rfl | f
 exact g.2;exact a.all x (by simp[f])
theorem af.both {b:World} {S:List Nat} {cs cs1 rc:List Chunk} {w:World} {c d:Chunk} (h:af b S cs w) (g:bw cs c cs1) (i:bw cs1 d rc):af b S (both c d::rc) w:=by
 have a:=h.perm (g.perm.trans (i.perm.cons c))
 have e:aB (Mq.both c d::rc)=aB (c::d::rc):=by simp[aB,Mq.both]
 refine⟨a.ext,e▸a.nodup,λx f=>?_,λk j=>a.ek k (e▸j)⟩;rcases e1.1 f with rfl | f
 exact⟨a.all c av,a.all d av⟩;exact a.all x (by simp[f])
def la {ι:Type} (v:ι→Value) (c:Chunk) (c':ι→Chunk) (ok:ι→Prop) (w:World):Ending→World→Prop:=λe w'=>
 ∃i,ok i∧e= .returned (v i)∧Ext c.ch w w'∧(c' i).pred w'∧(∀k∈(c' i).ch,k∈c.ch∨w.heap.size≤k)∧(c' i).ch.Nodup
theorem la.of {ι:Type} {v:ι→Value} {c:Chunk} {c':ι→Chunk} {ok:ι→Prop} {w w':World} (i:ι) (hi:ok i) (h:af w c.ch [c' i] w'):la v c c' ok w (.returned (v i)) w':=by
 have e:aB [c' i]=(c' i).ch:=by simp[aB]
 refine⟨i,hi,rfl,h.ext,h.all _ av,λk a=>?_,e▸h.nodup⟩;rcases ej k w.heap.size with b | d
 exact .inl (h.ek k (e.symm▸a) b);exact .inr d
def fi {ι:Type} (v:ι→Value) (c':ι→Chunk) (ok:ι→Prop) (w:World):Ending→World→Prop:=λe w'=>
 ∃i,ok i∧e= .returned (v i)∧Ext [] w w'∧(c' i).pred w'∧(∀k∈(c' i).ch,w.heap.size≤k)∧(c' i).ch.Nodup
theorem fi.of {ι:Type} {v:ι→Value} {c':ι→Chunk} {ok:ι→Prop} {w w':World} (i:ι) (hi:ok i) (h:af w [] [c' i] w'):fi v c' ok w (.returned (v i)) w':=by
 have e:aB [c' i]=(c' i).ch:=by simp[aB]
 refine⟨i,hi,rfl,h.ext,h.all _ av,λk a=>?_,e▸h.nodup⟩;rcases ej k w.heap.size with b | c
 exact absurd (h.ek k (e.symm▸a) b) av;exact c
section
variable {P:Program} {n:Nat} {ops:Array Oper} {Q:cq} {rest:List Oper} {l:Fr} {d:Nat} {ty:TypeId} {pos:String} {a7:Array Edge}
variable {b:World} {S:List Nat} {cs:List Chunk}
theorem xi {a:Code} {cs':List Chunk} {c1 c:Chunk} (d:bw cs (Mq.both c1 c) cs') (h:dc P n a Q l (af b S (c1::c::cs'))):dc P n a Q l (af b S cs):=cH h (Sub.refl _) (λ_ e=>e.PK d)
theorem Ax {ι:Type} {args:List Operand} {db:Array TypeId} {f:FuncId} {vs:List Value} {v:ι→Value} {c:Chunk} {c':ι→Chunk} {ok:ι→Prop} (cs':ι→List Chunk) (ak:Nat.blt d n=true) (g:ad P f) (j:cI l args=some vs) (k: ∀i,bn cs c (c' i) (cs' i))
 (m: ∀w,af b S cs w→Calls P f vs.toArray w (la v c c' ok w))
 (h: ∀i,ok i→az P n ops Q rest ((d,v i)::l) (af b S (cs' i))):
 az P n ops Q (⟨some d,.call ⟨.value (.func f),args.toArray,db⟩,ty,pos,a7,none⟩::rest) l (af b S cs):=by
 refine gT rfl ak g j λw a=>?_
 have:=m w a
 simp only[iA,i8];refine this.mono ?_;rintro e w' ⟨i,hi,rfl,o,ai,p,q⟩;exact⟨v i,rfl,(h i hi).at (a.ie (k i) o ai p q)⟩
theorem gp {ι:Type} {args:List Operand} {db:Array TypeId} {f:FuncId} {vs:List Value} {v:ι→Value} {c':ι→Chunk} {ok:ι→Prop} (ak:Nat.blt d n=true) (c:ad P f) (g:cI l args=some vs)
 (j: ∀w,af b S cs w→Calls P f vs.toArray w (fi v c' ok w))
 (h: ∀i,ok i→az P n ops Q rest ((d,v i)::l) (af b S (c' i::cs))):
 az P n ops Q (⟨some d,.call ⟨.value (.func f),args.toArray,db⟩,ty,pos,a7,none⟩::rest) l (af b S cs):=by
 refine gT rfl ak c g λw a=>?_
 have:=j w a
 simp only[iA,i8];refine this.mono ?_;rintro e w' ⟨i,hi,rfl,k,ai,m,o⟩;exact⟨v i,rfl,(h i hi).at (a.add k ai m o)⟩
theorem FW {H:World→Prop} {b:Op}
 (h: ∀c w,mH l c→H w→ ∃v w',(execOp c ⟨none,b,ty,pos,a7,none⟩).run P w= .ok (.value v) w'∧az P n ops Q rest l (λx=>x=w')):
 az P n ops Q (⟨none,b,ty,pos,a7,none⟩::rest) l H:=by
 intro w e a d;obtain⟨v,w',f,g⟩:=h a.eval w (λx v i=>d.ba i) e;unfold wpList;rw[aw (by simp[Region.wanted])];refine .inl ?_;simp only[Oper.wp,f,Oper.upon_value];exact g w' rfl _ d
theorem PL {x:Operand} {t e:Nat} {z:Value} {g m c:Nat} {xs:List Value} {cs':List Chunk} (p:P.underlying t=some (.slice e)) (q: ∀w,(zeroValue e).run P w= .ok z w) (r:z.cells= #[z]) (f:z.oneCell'=true) (E:0<m)
 (s:ba l x=some (.slice (some ⟨g,0,none⟩) m c)) (a:bn cs (own e 1 (.slice (some ⟨g,0,none⟩) m c) m xs) (own e 1 (.slice (some ⟨g,0,none⟩) m c) m (List.replicate m z)) cs')
 (h:az P n ops Q rest l (af b S cs')):
 az P n ops Q (⟨none,.call ⟨.builtin .clear,#[x],#[t]⟩,ty,pos,a7,none⟩::rest) l (af b S cs):=by
 refine FW λF w v j=>?_
 have y:=j.has a.has
 have d:xs.length=m:=by simpa using y.1
 have A:df xs 0 (List.replicate m z)=List.replicate m z:=by
  rw[je 0 (by simp[d])];simp[d]
 rw[←A] at a
 obtain⟨w',B,C⟩:=j.so (P:=P) (xs:=xs) (o:=0) (vs:=List.replicate m z) (by simp[d]) (λu a=>by rw[ng a];exact f) a;have D: (Builtin.zeroCells z.cells m).toList=List.replicate m z:=by
  rw[r];simp[Builtin.zeroCells]
  apply List.ext_getElem
  simp
  intro i f G;simp[Nat.mod_one]
 obtain⟨m,rfl⟩ : ∃k,m=k+1:=⟨m - 1,aa⟩;refine⟨.tuple #[],w',?_,h.at C⟩;simp[execOp,resolve,invoke,builtin,v x _ s,Builtin.clear_,run_underlying p,q,D,B]
theorem xj {H:World→Prop} {cv dx e:TypeId} {x:Operand} {p:Option Addr} {r:Bool} (b:P.underlying cv=some (.pointer e)) (ak:Nat.blt d n=true) (c:ba l x=some (.pointer p)) (f:p.isNone=r)
 (h:az P n ops Q rest ((d,.bool r)::l) H):az P n ops Q (⟨some d,.binOp .eql cv x (.const (.pointer none)) dx,ty,pos,a7,none⟩::rest) l H:=
 dd _ ak (λg w a=>by
  have i:g (.const (.pointer none))= .pointer none:=a _ _ rfl
  have j:=run_eql_pointer_nil (P:=P) w cv p (by simp[Program.pointee,b])
  subst f;simp[execOp,a x _ c,i,eqGuard,j]) h
theorem FX {H:World→Prop} {cv dx e:TypeId} {x:Operand} {p:Option Addr} {r:Bool} (b:P.underlying cv=some (.pointer e)) (ak:Nat.blt d n=true) (c:ba l x=some (.pointer p)) (f: (!p.isNone)=r)
 (h:az P n ops Q rest ((d,.bool r)::l) H):az P n ops Q (⟨some d,.binOp .neq cv x (.const (.pointer none)) dx,ty,pos,a7,none⟩::rest) l H:=
 dd _ ak (λg w a=>by
  have i:g (.const (.pointer none))= .pointer none:=a _ _ rfl
  have j:=run_neq_pointer_nil (P:=P) w cv p (by simp[Program.pointee,b])
  subst f;simp[execOp,a x _ c,i,eqGuard,j]) h
theorem nA {H:World→Prop} {x:Operand} {p:Addr} (ak:Nat.blt d n=true) (a:ba l x=some (.pointer (some p)))
 (h:az P n ops Q rest ((d,.pointer (some p))::l) H):az P n ops Q (⟨some d,.nilCheck x,ty,pos,a7,none⟩::rest) l H:=
 dd _ ak (λc w b=>by simp[execOp,b x _ a]) h
end
end
end Go.Proofs.YtlgnfdodnhokjaaGreatDoor.Mq
namespace Go.Proofs.YtlgnfdodnhokjaaGreatDoor.Mq
open Go Go.RowKit Go.Proofs
section
def aR (cs:List Chunk):Chunk where
 ch:=aB cs
 pred w:= ∀c∈cs,c.pred w
 low w h k b:=by
  obtain⟨c,a,d⟩:=e_.1 b
  exact c.low w (h c a) k d
 loc w w' h ai c a:=c.loc w w' (λk b=>h k (e_.2 ⟨c,a,b⟩)) (ai c a)
structure a8 (w:World) (cs:List Chunk):Prop where
 all: ∀c∈cs,c.pred w
 nodup: (aB cs).Nodup
section
variable {b:World} {S:List Nat} {cs cs':List Chunk} {w:World}
theorem a8.start (h:a8 w cs) (x:World) (a:x=w):af w (aB cs) cs x:=by
 subst a;exact⟨Ext.refl _ _,h.nodup,h.all,λ_ b _=>b⟩
theorem xk (l cs:List Chunk):aB (aR l::cs)=aB (l++cs):=by simp[aB,aR]
theorem af.lb {l:List Chunk} (h:af b S (aR l::cs) w):af b S (l++cs) w:=by
 have e:=xk l cs
 refine⟨h.ext,e▸h.nodup,λc a=>?_,λk d=>h.ek k (e▸d)⟩;rcases cZ.1 a with a | a
 exact h.all (aR l) av c a;exact h.all c (by simp[a])
theorem af.close' {l:List Chunk} (h:af b S (l++cs) w):af b S (aR l::cs) w:=by
 have e:=xk l cs
 refine⟨h.ext,e▸h.nodup,λc a=>?_,λk d=>h.ek k (e▸d)⟩;rcases e1.1 a with rfl | a
 exact λc a=>h.all c (by simp[a])
 exact h.all c (by simp[a])
theorem af.open {l:List Chunk} (h:af b S cs w) (a:bw cs (aR l) cs'):af b S (l++cs') w:=(h.perm a.perm).lb
inductive aA:List Chunk→List Chunk→List Chunk→Prop
 | nil {cs:List Chunk}:aA cs [] cs
 | cons {cs cs1 rc:List Chunk} {c:Chunk} {l:List Chunk}:bw cs c cs1→aA cs1 l rc→aA cs (c::l) rc
theorem aA.perm {l:List Chunk} (h:aA cs l cs'):List.Perm cs (l++cs'):=by
 induction h with
 | nil=>exact List.Perm.refl _
 | cons a _ b=>exact a.perm.trans (b.cons _)
theorem af.close {l:List Chunk} (h:af b S cs w) (a:aA cs l cs'):af b S (aR l::cs') w:=(h.perm a.perm).close'
theorem af.bo {l:List Chunk} (h:af b S cs w) (d:aA cs l cs'):a8 w l:=by
 have a:=h.perm d.perm
 refine⟨λc e=>a.all c (by simp[e]),?_⟩;have:=a.nodup
 rw[iI] at this
 exact (fW.1 this).1
theorem af.drop (X:List Chunk): ∀(r:List Chunk),af b S (r++X) w→af b S X w:=λr=>by
 induction r with
 | nil=>exact λh=>h
 | cons x r a=>exact λh=>a (h.rem bw.head)
theorem af.ax {l:List Chunk} (h:af b S cs w) (a:aA cs l cs'):af b S l w:=by
 have c:=h.perm (a.perm.trans ou)
 exact af.drop _ _ c
theorem a8.open {l:List Chunk} (h:a8 w (aR l::cs)):a8 w (l++cs):=by
 refine⟨λc a=>?_,?_⟩;rcases cZ.1 a with a | a
 exact h.all (aR l) av c a;exact h.all c (by simp[a]);have:=h.nodup
 rwa [xk] at this
theorem af.pZ {l0 l1:List Chunk} {w':World} (h:af b S cs w) (c:aA cs l0 cs') (a:af w (aB l0) l1 w'):af b S (l1++cs') w':=
 ((h.close c).ie (c':=aR l1) bn.head a.ext a.all (λk d=>by
  rcases ej k w.heap.size with e | f
  exact .inl (a.ek k d e);exact .inr f) a.nodup).lb
end
def aP {ι:Type} (v:ι→Value) (l:List Chunk) (l':ι→List Chunk) (ok:ι→Prop) (w:World):Ending→World→Prop:=λe w'=>
 ∃i,ok i∧e= .returned (v i)∧af w (aB l) (l' i) w'
theorem aP.of {ι:Type} {v:ι→Value} {l:List Chunk} {l':ι→List Chunk} {ok:ι→Prop} {w w':World} (i:ι) (hi:ok i) (h:af w (aB l) (l' i) w'):aP v l l' ok w (.returned (v i)) w':=⟨i,hi,rfl,h⟩
theorem aP.bQ {ι:Type} {v:ι→Value} {l:List Chunk} {l':ι→List Chunk} {ok:ι→Prop} {w w':World} {x:Value} (i:ι) (hi:ok i) (a:x=v i) (h:af w (aB l) (l' i) w'):aP v l l' ok w (.returned x) w':=⟨i,hi,by rw[a],h⟩
theorem aP.mono {ι a:Type} {v:ι→Value} {l:List Chunk} {l':ι→List Chunk} {ok:ι→Prop} {v2:a→Value} {l2:a→List Chunk} {b:a→Prop} {w w':World} {e:Ending} (h:aP v l l' ok w e w')
 (f: ∀i,ok i→ ∃k,b k∧v i=v2 k∧l' i=l2 k):aP v2 l l2 b w e w':=by
 obtain⟨i,hi,rfl,c⟩:=h;obtain⟨k,d,g,j⟩:=f i hi;exact⟨k,d,by rw[g],j▸c⟩
section
variable {P:Program} {n:Nat} {ops:Array Oper} {Q:cq} {rest:List Oper} {l:Fr} {d:Nat} {ty:TypeId} {pos:String} {a7:Array Edge}
variable {b:World} {S:List Nat} {cs cs':List Chunk} {ι:Type} {args:List Operand} {db:Array TypeId} {f:FuncId} {vs:List Value} {v:ι→Value} {l0:List Chunk} {ok:ι→Prop}
theorem a6 {l':ι→List Chunk} (c:aA cs l0 cs') (ak:Nat.blt d n=true) (g:ad P f) (j:cI l args=some vs)
 (k: ∀w,af b S cs w→Calls P f vs.toArray w (aP v l0 l' ok w))
 (h: ∀i,ok i→az P n ops Q rest ((d,v i)::l) (af b S (l' i++cs'))):
 az P n ops Q (⟨some d,.call ⟨.value (.func f),args.toArray,db⟩,ty,pos,a7,none⟩::rest) l (af b S cs):=by
 refine gT rfl ak g j λw a=>?_
 have:=k w a
 simp only[iA,i8];refine this.mono ?_;rintro e w' ⟨i,hi,rfl,m⟩;exact⟨v i,rfl,(h i hi).at (a.pZ c m)⟩
theorem lU {ih:Operand} {first cap:List Value} {l':ι→List Chunk} (c:aA cs l0 cs') (ak:Nat.blt d n=true) (g:ba l ih=some (.func (.func f) first.toArray cap.toArray)) (j:ad P f) (k:cI l args=some vs)
 (m: ∀w,af b S cs w→Calls P f (first++vs++cap).toArray w (aP v l0 l' ok w))
 (h: ∀i,ok i→az P n ops Q rest ((d,v i)::l) (af b S (l' i++cs'))):
 az P n ops Q (⟨some d,.call ⟨.value ih,args.toArray,db⟩,ty,pos,a7,none⟩::rest) l (af b S cs):=by
 refine gT g ak j k λw a=>?_
 have:=m w a
 simp only[List.append_toArray];refine this.mono ?_;rintro e w' ⟨i,hi,rfl,o⟩;exact⟨v i,rfl,(h i hi).at (a.pZ c o)⟩
theorem ld {lc:List Chunk} (a:bw cs (aR lc) cs') (h:az P n ops Q rest l (af b S (lc++cs'))):az P n ops Q rest l (af b S cs):=gR h (Sub.refl _) (λ_ c=>c.open a)
theorem re {c:Code} {lc:List Chunk} (a:bw cs (aR lc) cs') (h:dc P n c Q l (af b S (lc++cs'))):dc P n c Q l (af b S cs):=cH h (Sub.refl _) (λ_ d=>d.open a)
end
end
theorem aT {c:Chunk} {cs:List Chunk}:Has (c::cs) c:=Has.head
theorem bj {c:Chunk} {cs:List Chunk}:bw (c::cs) c (cs):=bw.head
theorem cA {c c':Chunk} {cs:List Chunk}:bn (c::cs) c c' (c'::cs):=bn.head
theorem bJ {a c:Chunk} {cs:List Chunk}:Has (a::c::cs) c:=Has.tail Has.head
theorem cw {a c:Chunk} {cs:List Chunk}:bw (a::c::cs) c (a::cs):=bw.tail bw.head
theorem ew {a c c':Chunk} {cs:List Chunk}:bn (a::c::cs) c c' (a::c'::cs):=bn.tail bn.head
theorem cr {a b c:Chunk} {cs:List Chunk}:Has (a::b::c::cs) c:=Has.tail (Has.tail Has.head)
theorem p0 {a b c:Chunk} {cs:List Chunk}:bw (a::b::c::cs) c (a::b::cs):=bw.tail (bw.tail bw.head)
theorem lf {a b c c':Chunk} {cs:List Chunk}:bn (a::b::c::cs) c c' (a::b::c'::cs):=bn.tail (bn.tail bn.head)
theorem gD {a b d c:Chunk} {cs:List Chunk}:Has (a::b::d::c::cs) c:=Has.tail (Has.tail (Has.tail Has.head))
theorem oO {a b d c:Chunk} {cs:List Chunk}:bw (a::b::d::c::cs) c (a::b::d::cs):=bw.tail (bw.tail (bw.tail bw.head))
theorem nB {a b d c c':Chunk} {cs:List Chunk}:bn (a::b::d::c::cs) c c' (a::b::d::c'::cs):=bn.tail (bn.tail (bn.tail bn.head))
theorem hM {a b d e c:Chunk} {cs:List Chunk}:Has (a::b::d::e::c::cs) c:=Has.tail (Has.tail (Has.tail (Has.tail Has.head)))
theorem nC {a b d e c:Chunk} {cs:List Chunk}:bw (a::b::d::e::c::cs) c (a::b::d::e::cs):=bw.tail (bw.tail (bw.tail (bw.tail bw.head)))
theorem jk {a b d e c c':Chunk} {cs:List Chunk}:bn (a::b::d::e::c::cs) c c' (a::b::d::e::c'::cs):=bn.tail (bn.tail (bn.tail (bn.tail bn.head)))
theorem kz {a b d e f c:Chunk} {cs:List Chunk}:Has (a::b::d::e::f::c::cs) c:=Has.tail (Has.tail (Has.tail (Has.tail (Has.tail Has.head))))
theorem sP {a b d e f c c':Chunk} {cs:List Chunk}:bn (a::b::d::e::f::c::cs) c c' (a::b::d::e::f::c'::cs):=bn.tail (bn.tail (bn.tail (bn.tail (bn.tail bn.head))))
theorem e4 {a b d e f g c:Chunk} {cs:List Chunk}:Has (a::b::d::e::f::g::c::cs) c:=Has.tail (Has.tail (Has.tail (Has.tail (Has.tail (Has.tail Has.head)))))
theorem Ay {a b d e f g c:Chunk} {cs:List Chunk}:bw (a::b::d::e::f::g::c::cs) c (a::b::d::e::f::g::cs):=bw.tail (bw.tail (bw.tail (bw.tail (bw.tail (bw.tail bw.head)))))
theorem uU {a b d e f g c c':Chunk} {cs:List Chunk}:bn (a::b::d::e::f::g::c::cs) c c' (a::b::d::e::f::g::c'::cs):=bn.tail (bn.tail (bn.tail (bn.tail (bn.tail (bn.tail bn.head)))))
theorem xl {a b d e f g h c:Chunk} {cs:List Chunk}:Has (a::b::d::e::f::g::h::c::cs) c:=Has.tail (Has.tail (Has.tail (Has.tail (Has.tail (Has.tail (Has.tail Has.head))))))
theorem Az {a b d e f g h c:Chunk} {cs:List Chunk}:bw (a::b::d::e::f::g::h::c::cs) c (a::b::d::e::f::g::h::cs):=bw.tail (bw.tail (bw.tail (bw.tail (bw.tail (bw.tail (bw.tail bw.head))))))
theorem FY {a b d e f g h c c':Chunk} {cs:List Chunk}:bn (a::b::d::e::f::g::h::c::cs) c c' (a::b::d::e::f::g::h::c'::cs):=bn.tail (bn.tail (bn.tail (bn.tail (bn.tail (bn.tail (bn.tail bn.head))))))
theorem PM {a b d e f g h i c:Chunk} {cs:List Chunk}:Has (a::b::d::e::f::g::h::i::c::cs) c:=Has.tail (Has.tail (Has.tail (Has.tail (Has.tail (Has.tail (Has.tail (Has.tail Has.head)))))))
theorem FZ {a b d e f g h i c c':Chunk} {cs:List Chunk}:bn (a::b::d::e::f::g::h::i::c::cs) c c' (a::b::d::e::f::g::h::i::c'::cs):=bn.tail (bn.tail (bn.tail (bn.tail (bn.tail (bn.tail (bn.tail (bn.tail bn.head)))))))
theorem io {v0:Value} (a:v0.oneCell'=true):aI (v0::[]):=aI.cons a aI.nil
theorem xm {v0 v1:Value} (a:v0.oneCell'=true) (b:v1.oneCell'=true):aI (v0::v1::[]):=aI.cons a (aI.cons b aI.nil)
theorem PN {v0 v1 v2 v3 v4:Value} (a:v0.oneCell'=true) (b:v1.oneCell'=true) (c:v2.oneCell'=true) (d:v3.oneCell'=true) (e:v4.oneCell'=true):aI (v0::v1::v2::v3::v4::[]):=aI.cons a (aI.cons b (aI.cons c (aI.cons d (aI.cons e aI.nil))))
theorem AA {v0 v1 v2 v3 v4 a b c:Value} (d:v0.oneCell'=true) (e:v1.oneCell'=true) (f:v2.oneCell'=true) (g:v3.oneCell'=true) (h:v4.oneCell'=true) (i:a.oneCell'=true) (j:b.oneCell'=true) (k:c.oneCell'=true):aI (v0::v1::v2::v3::v4::a::b::c::[]):=aI.cons d (aI.cons e (aI.cons f (aI.cons g (aI.cons h (aI.cons i (aI.cons j (aI.cons k aI.nil)))))))
theorem gg {v0 v1 v2 v3 v4 a b c d e:Value} (f:v0.oneCell'=true) (g:v1.oneCell'=true) (h:v2.oneCell'=true) (i:v3.oneCell'=true) (j:v4.oneCell'=true) (k:a.oneCell'=true) (l:b.oneCell'=true) (m:c.oneCell'=true) (n:d.oneCell'=true) (o:e.oneCell'=true):aI (v0::v1::v2::v3::v4::a::b::c::d::e::[]):=aI.cons f (aI.cons g (aI.cons h (aI.cons i (aI.cons j (aI.cons k (aI.cons l (aI.cons m (aI.cons n (aI.cons o aI.nil)))))))))
theorem uA {l:Fr} {a:Nat} {v0:Value} (b:look l a=some v0):Sub l [(a,v0)]:=Sub.cons b Sub.nil
theorem iK {l:Fr} {a b:Nat} {v0 v1:Value} (c:look l a=some v0) (d:look l b=some v1):Sub l [(a,v0),(b,v1)]:=Sub.cons c (Sub.cons d Sub.nil)
theorem em {l:Fr} {a b c:Nat} {v0 v1 v2:Value} (d:look l a=some v0) (e:look l b=some v1) (f:look l c=some v2):Sub l [(a,v0),(b,v1),(c,v2)]:=Sub.cons d (Sub.cons e (Sub.cons f Sub.nil))
theorem cj {l:Fr} {a b c d:Nat} {v0 v1 v2 v3:Value} (e:look l a=some v0) (f:look l b=some v1) (g:look l c=some v2) (h:look l d=some v3):Sub l [(a,v0),(b,v1),(c,v2),(d,v3)]:=Sub.cons e (Sub.cons f (Sub.cons g (Sub.cons h Sub.nil)))
theorem ec {l:Fr} {a b c d e:Nat} {v0 v1 v2 v3 v4:Value} (f:look l a=some v0) (g:look l b=some v1) (h:look l c=some v2) (i:look l d=some v3) (j:look l e=some v4):Sub l [(a,v0),(b,v1),(c,v2),(d,v3),(e,v4)]:=Sub.cons f (Sub.cons g (Sub.cons h (Sub.cons i (Sub.cons j Sub.nil))))
theorem ip {l:Fr} {a b c d e f:Nat} {v0 v1 v2 v3 v4 g:Value} (h:look l a=some v0) (i:look l b=some v1) (j:look l c=some v2) (k:look l d=some v3) (m:look l e=some v4) (n:look l f=some g):Sub l [(a,v0),(b,v1),(c,v2),(d,v3),(e,v4),(f,g)]:=Sub.cons h (Sub.cons i (Sub.cons j (Sub.cons k (Sub.cons m (Sub.cons n Sub.nil)))))
theorem gX {l:Fr} {a b c d e f g:Nat} {v0 v1 v2 v3 v4 h i:Value} (j:look l a=some v0) (k:look l b=some v1) (m:look l c=some v2) (n:look l d=some v3) (o:look l e=some v4) (p:look l f=some h) (q:look l g=some i):Sub l [(a,v0),(b,v1),(c,v2),(d,v3),(e,v4),(f,h),(g,i)]:=Sub.cons j (Sub.cons k (Sub.cons m (Sub.cons n (Sub.cons o (Sub.cons p (Sub.cons q Sub.nil))))))
theorem xn {l:Fr} {a b c d e f g h:Nat} {v0 v1 v2 v3 v4 i j k:Value} (m:look l a=some v0) (n:look l b=some v1) (o:look l c=some v2) (p:look l d=some v3) (q:look l e=some v4) (r:look l f=some i) (s:look l g=some j) (t:look l h=some k):Sub l [(a,v0),(b,v1),(c,v2),(d,v3),(e,v4),(f,i),(g,j),(h,k)]:=Sub.cons m (Sub.cons n (Sub.cons o (Sub.cons p (Sub.cons q (Sub.cons r (Sub.cons s (Sub.cons t Sub.nil)))))))
theorem uV {l:Fr} {a b c d e f g h i:Nat} {v0 v1 v2 v3 v4 j k m n:Value} (o:look l a=some v0) (p:look l b=some v1) (q:look l c=some v2) (r:look l d=some v3) (s:look l e=some v4) (t:look l f=some j) (u:look l g=some k) (v:look l h=some m) (w:look l i=some n):Sub l [(a,v0),(b,v1),(c,v2),(d,v3),(e,v4),(f,j),(g,k),(h,m),(i,n)]:=Sub.cons o (Sub.cons p (Sub.cons q (Sub.cons r (Sub.cons s (Sub.cons t (Sub.cons u (Sub.cons v (Sub.cons w Sub.nil))))))))
theorem mO {l:Fr} {a b c d e f g h i j:Nat} {v0 v1 v2 v3 v4 k m n o p:Value} (q:look l a=some v0) (r:look l b=some v1) (s:look l c=some v2) (t:look l d=some v3) (u:look l e=some v4) (v:look l f=some k) (w:look l g=some m) (x:look l h=some n) (y:look l i=some o) (z:look l j=some p):Sub l [(a,v0),(b,v1),(c,v2),(d,v3),(e,v4),(f,k),(g,m),(h,n),(i,o),(j,p)]:=Sub.cons q (Sub.cons r (Sub.cons s (Sub.cons t (Sub.cons u (Sub.cons v (Sub.cons w (Sub.cons x (Sub.cons y (Sub.cons z Sub.nil)))))))))
theorem xo {a b:Nat} (h:Nat.ble a b=true):a≤b:=dV h
theorem PO {P:Program} {f:FuncId} {fn:Func} {c:Code} {vs:List Value} {w:World} {R:Ending→World→Prop} {n:Nat} (a:P.funcs[f]? = some fn) (b:fn.ntmps=n) (d:fn.body=some c) (e:Nat.ble vs.length n=true) (h:dc P n c (Fin P n fn R) (oB vs 0) (af w [] [])):Calls P f vs.toArray w R:=calls n a d b e (cH h (Sub.refl _) (λx g=>af.LZ _ _ g))
theorem PP {P:Program} {f:FuncId} {fn:Func} {c:Code} {vs:List Value} {w:World} {R:Ending→World→Prop} {n:Nat} {cs:List Chunk} (a:P.funcs[f]? = some fn) (b:fn.ntmps=n) (d:a8 w cs) (e:fn.body=some c) (g:Nat.ble vs.length n=true) (h:dc P n c (Fin P n fn R) (oB vs 0) (af w (aB cs) cs)):Calls P f vs.toArray w R:=calls n a e b g (cH h (Sub.refl _) d.start)
end Go.Proofs.YtlgnfdodnhokjaaGreatDoor.Mq
