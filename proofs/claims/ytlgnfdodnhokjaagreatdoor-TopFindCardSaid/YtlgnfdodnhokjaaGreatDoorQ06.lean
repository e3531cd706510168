/- part 6 of the proof -/
import Derived.Test.YtlgnfdodnhokjaaGreatDoorQ04
import Derived.WalkKit
import Derived.ProofKit
import Derived.OpenShut
import Derived.ShutString
import Derived.ChangeOld
import Derived.ChangeSame
import Derived.Deep.Slices
import Derived.SizedLaws
namespace Go.Proofs.YtlgnfdodnhokjaaGreatDoor.Mq
open Go Go.RowKit
section
section
variable {P:Program} {n:Nat} {ops:Array Oper} {Q:cq} {rest:List Oper} {l:Fr} {d:Nat} {ty:TypeId} {pos:String} {a7:Array Edge} {b:World} {S:List Nat} {cs:List Chunk}
def nx (R:Value→World→Prop) (w:World):Ending→World→Prop:=λe w'=> ∃v,e= .returned v∧Ext [] w w'∧R v w'
theorem mM {R:World→Value→World→Prop} {args:List Operand} {db:Array TypeId} {f:FuncId} {vs:List Value} (ak:Nat.blt d n=true) (j:ad P f) (m:cI l args=some vs)
 (o: ∀w,af b S cs w→Calls P f vs.toArray w (nx (R w) w))
 (h: ∀c g v,af b S cs c→Ext [] c g→af b S cs g→(∀k∈aB cs,k<c.heap.size)→R c v g→az P n ops Q rest ((d,v)::l) (af g (aB cs) cs)):
 az P n ops Q (⟨some d,.call ⟨.value (.func f),args.toArray,db⟩,ty,pos,a7,none⟩::rest) l (af b S cs):=by
 refine gT rfl ak j m λw a=>?_
 have:=o w a
 simp only[iA,i8];refine this.mono ?_;rintro e w' ⟨v,rfl,i,p⟩;exact⟨_,rfl,(h w w' v a i (a.keep i) (λk q=>a.lt q) p).at (a.keep i).oC⟩
theorem Rd.hp {α:Type} {E:bA α} {w:World} (h:af b S cs w) {g t:Nat} {L:List α} {m:Nat} (c:Has cs (aD g (E.all L) t)) (d:L.length=m) (e:m≤maxLen):
 Rd E w (λk=>k=g) (some ⟨g,0,none⟩) m m L:=
 ⟨d,bW _,e,λ_=>⟨_,rfl,rfl,λk a j u f i=>by
  rw[add_add,Addr.add_lit];exact h.eP c (by rw[dE];exact E.lQ f i)⟩⟩
theorem af.FF {w:World} (h:af b S cs w) {g e sz m:Nat} {xs:List Value} {cs':List Chunk} (c:bn cs (aD g xs e) (own e sz (.slice (some ⟨g,0,none⟩) m m) m xs) cs') (a:xs.length=m*sz) (d:m≤maxLen):af b S cs' w:=by
 have f:w.heap[g]? = some (.cells xs.toArray e (0,0)):=h.has c.has
 refine h.ie c (Ext.refl _ _) ⟨a,.inr ⟨g,m,xs.toArray,rfl,bP _,f,bW _,d,by simpa using a,by simp[←a]⟩⟩ ?_ ?_;intro k i;left
 simpa [own,aD,Value.ownBlock] using i
 simp[own,Value.ownBlock]
theorem PH {c:Code} {g e sz m:Nat} {xs:List Value} {cs':List Chunk} (a:bn cs (aD g xs e) (own e sz (.slice (some ⟨g,0,none⟩) m m) m xs) cs') (d:xs.length=m*sz) (f:m≤maxLen) (h:dc P n c Q l (af b S cs')):dc P n c Q l (af b S cs):=
 cH h (Sub.refl _) (λ_ i=>i.FF a d f)
end
end
end Go.Proofs.YtlgnfdodnhokjaaGreatDoor.Mq
namespace Go.Proofs.YtlgnfdodnhokjaaGreatDoor.Mq
open Go Go.RowKit Go.ChangeShapes Go.WideShapes Go.Deep
section
inductive kx where
 | int (k:IntKind)
 | bool
 | str
 | FG (t:TypeId)
def uP (P:Program) (g:TypeId→Option (List kx)):List Field→Nat→Option (List kx)
 | [],_=>some []
 | f::c8,o=>match g f.type,uP P g c8 (o+P.cellsOf f.type) with
  | some a,some b=>if f.offset=o∧a.length=P.cellsOf f.type then some (a++b) else none
  | _,_=>none
def q_ (P:Program):Nat→TypeId→Option (List kx)
 | 0,_=>none
 | f+1,t=>match P.underlying t with
  | some (.struct c8)=>match uP P (q_ P f) c8.toList 0 with
   | some L=>if L.length=P.cellsOf t then some L else none
   | none=>none
  | some (.array n e)=>match q_ P f e with
   | some a=>if a.length=P.cellsOf e∧(List.replicate n a).flatten.length=P.cellsOf t then some (List.replicate n a).flatten else none
   | none=>none
  | some (.int k)=>some [.int k]
  | some .bool=>some [.bool]
  | some .string=>some [.str]
  | some (.slice _)=>some [.FG t]
  | _=>none
def pU {H:Type} (P:Program) (t:TypeId) (d:DataW H):Prop:= ∀n∈DataW.weights P t d,n≤reachBytes
theorem Ap {H:Type} {P:Program} {e:TypeId}: ∀{l:List (DataW H)} {d:DataW H},d∈l→ ∀n∈d.weights P e,n∈DataW.weightsAll P e l
 | [],_,h,_,_=>by simp at h
 | d0::l,d,h,n,a=>by
  simp only[DataW.weightsAll,cZ];rcases e1.1 h with rfl | h
  exact .inl a;exact .inr (Ap h n a)
section
variable {H:Type} (enc:TypeId × Value→H) (P:Program) (w:World) (base:Nat) (spare:Nat→Bool) (held:Bool)
def Fit:kx→Value→Prop
 | .int k,v=> ∃n,v= .int k n∧(Lit.int k n).wf=true
 | .bool,v=> ∃b,v= .bool b
 | .str,v=> ∃s,v= .string s∧s.size≤reachBytes
 | .FG t,v=> ∃A n c a x,v= .slice A n c∧DataW.trod enc P w base spare held a t [v]=some x∧pU P t x.1
def Fits:List kx→List Value→Prop
 | [],[]=>True
 | l::a,v::vs=>Fit enc P w base spare held l v∧Fits a vs
 | _,_=>False
end
section
variable {H:Type} {enc:TypeId × Value→H} {P:Program} {w:World} {base:Nat} {spare:Nat→Bool} {held:Bool}
theorem Fits.cons {l:kx} {a:List kx} {cs:List Value} (h:Fits enc P w base spare held (l::a) cs): ∃v vs,cs=v::vs∧Fit enc P w base spare held l v∧Fits enc P w base spare held a vs:=by
 cases cs with
 | nil=>exact h.elim
 | cons v vs=>exact⟨v,vs,rfl,h.1,h.2⟩
theorem Fits.FH {cs:List Value} (h:Fits enc P w base spare held [] cs):cs=[]:=by
 cases cs with
 | nil=>rfl
 | cons v vs=>exact h.elim
theorem Fits.hK: ∀{L M:List kx} {a b:List Value},Fits enc P w base spare held L a→Fits enc P w base spare held M b→Fits enc P w base spare held (L++M) (a++b)
 | [],_,[],_,_,c=>c
 | _::_,_,_::_,_,d,c=>⟨d.1,Fits.hK d.2 c⟩
 | [],_,_::_,_,h,_=>h.elim
 | _::_,_,[],_,h,_=>h.elim
theorem FI {g:TypeId→Option (List kx)} {n:Nat} {cs:List Value} (e: ∀c L i x,g c=some L→DataW.trod enc P w base spare held n c i=some x→pU P c x.1→Fits enc P w base spare held L i):
 ∀(c8:List Field) (o:Nat) (L:List kx),uP P g c8 o=some L→(∀f∈c8,∃y,DataW.trod enc P w base spare held n f.type ((cs.drop f.offset).take (P.cellsOf f.type))=some y∧pU P f.type y.1)→
 Fits enc P w base spare held L ((cs.drop o).take L.length)
 | [],o,L,h,_=>by
  simp only[uP,dA] at h
  subst h;simp[Fits]
 | f::c8,o,L,h,j=>by
  simp only[uP] at h
  split at h
  rename_i a b k l;split at h
  rename_i d;simp only[dA] at h
  subst h;obtain⟨y,m,p⟩:=j f av;have q:=e _ _ _ _ k m p
  have r:=FI e c8 _ b l (λs t=>j s (by simp[t]))
  rw[b6,List.take_add,lJ];refine Fits.hK ?_ ?_;rw[d.2,←d.1];exact q
  rw[d.2];exact r
  cases h
  cases h
theorem FJ {a:List kx} {C n:Nat} {cs:List Value} (c:a.length=C) (b: ∀i,i<n→Fits enc P w base spare held a ((cs.drop (i*C)).take C)): ∀k,k≤n→Fits enc P w base spare held (List.replicate k a).flatten (cs.take (k*C))
 | 0,_=>by simp[Fits]
 | k+1,f=>by
  have d:=FJ c b k aa
  have e:=b k aa
  rw[ja,Nat.one_mul,List.take_add,List.replicate_succ',List.flatten_append,List.flatten_singleton];exact Fits.hK d e
theorem trod_shp: ∀(f:Nat) (t:TypeId) (L:List kx) (o:Nat) (cs:List Value) (x:DataW H × List MemPlace),q_ P f t=some L→DataW.trod enc P w base spare held o t cs=some x→pU P t x.1→Fits enc P w base spare held L cs
 | 0,_,_,_,_,_,h,_,_=>by simp[q_] at h
 | f+1,t,L,o,cs,x,h,d,g=>by
  simp only[q_] at h
  split at h
  rename_i c8 c;split at h
  rename_i A B;split at h
  rename_i p;simp only[dA] at h
  subst h;obtain⟨xs,n,_,l,u,v,r⟩:=DataW.trod_struct c d;have:=FI (cs:=cs) (n:=n) (λC L D x q E F=>trod_shp f C L n D x q E F) c8.toList 0 A B (λy G=>by
   obtain⟨i,hi⟩:=qK G;have I:c8[i]? = some y:=by simpa using hi
   have z:i<xs.length:=by
    have:=(cK.1 hi).1
    rw[v];simpa using this
   exact⟨xs[i],by rw[r i y I,bE z],λm J=>g m (by
    rw[l];simp only[DataW.weights,c];exact DataW.weights_mem_each (j:=i) (by rw[eD,hi];rfl) (by rw[eD,bE z];rfl) m J)⟩)
  rw[nf,ev aa] at this
  exact this;cases h
  cases h
  rename_i n e c;split at h
  rename_i a K;split at h
  rename_i p;simp only[dA] at h
  subst h;obtain⟨xs,m,_,l,u,v,r⟩:=DataW.trod_array c d;have:=FJ (cs:=cs) (n:=n) p.1 (λi hi=>by
   have q:=r i hi
   rw[bE aa] at q
   exact trod_shp f e a m _ _ K q (λk M=>g k (by
    rw[l];simp only[DataW.weights,c];exact Ap (dH.2 ⟨_,r9 _,rfl⟩) k M))) n (bW _)
  rw[ev] at this
  exact this;rw[u,←p.2];have: ∀k:Nat,(List.replicate k a).flatten.length=k*P.cellsOf e:=λk=>by
   induction k with
   | zero=>simp
   | succ k N=>rw[mD,List.flatten_cons,b6,N,p.1,ja,Nat.one_mul,Nat.add_comm]
  rw[this n];exact bW _;cases h
  cases h
  rename_i k c;simp only[dA] at h
  subst h;obtain⟨n,rfl,_,O⟩:=DataW.trod_int c d;exact⟨⟨n,rfl,O⟩,a1⟩;rename_i c;simp only[dA] at h
  subst h;obtain⟨b,rfl,_⟩:=DataW.trod_bool c d;exact⟨⟨b,rfl⟩,a1⟩;rename_i c;simp only[dA] at h
  subst h;obtain⟨s,rfl,l,_⟩:=DataW.trod_string c d;exact⟨⟨s,rfl,g _ (by rw[l];simp only[DataW.weights];exact eb.2 (lI (xs:=s.data)).symm)⟩,a1⟩;rename_i e c;simp only[dA] at h
  subst h;rcases DataW.trod_slice c d with ⟨rfl,_⟩ | ⟨a,len,cap,_,_,_,_,rfl,_⟩
  exact⟨⟨none,0,0,o,x,rfl,d,g⟩,a1⟩;exact⟨⟨some a,len,cap,o,x,rfl,d,g⟩,a1⟩;cases h
theorem PI {α:Type} {E:bA α} {G:α→Prop} {t e K:Nat} {A:Option Addr} {n c:Nat} {x:DataW H × List MemPlace} (f:Nat) (L:List kx) (s:P.underlying t=some (.slice e)) (v:P.cellsOf e=E.sz) (Zj:0<E.sz)
 (M:q_ P f e=some L) (N: ∀cs,Fits enc P w base spare held L cs→ ∃a,E.enc a=cs∧G a) (O:0<P.bytesOf e) (h:DataW.trod enc P w base spare held K t [.slice A n c]=some x) (z:pU P t x.1):
 ∃l,Rd E w (λk=>k<w.heap.size) A n c l∧(∀a∈l,G a)∧n≤reachBytes:=by
 rcases open_slice s h with ⟨o,_⟩ | ⟨a,len,cap,m,Q,D,Zk,o,B,R,S,T,C,hi⟩
 simp only[r4,Value.slice.injEq,and_true] at o
 obtain⟨rfl,rfl,rfl⟩:=o;exact⟨[],Rd.nil _ _ _ _ (bP _) _,by simp,bP _⟩;simp only[r4,Value.slice.injEq,and_true] at o
 obtain⟨rfl,rfl,rfl⟩:=o;have Zl:n≤m:=by rw[T];split <;> omega
 have U: ∀k,k<n→pU P e (D k):=λk q F V=>z F (by
  rw[C];simp only[DataW.weights,s,e1,cZ];exact .inr (.inl (Ap (dH.2 ⟨k,List.mem_range.2 q,rfl⟩) F V)))
 have W:n≤reachBytes:=by
  have:=z _ (by
   rw[C];simp only[DataW.weights,s];exact List.mem_cons_self)
  simp only[cB,List.length_range] at this
  exact fp (fp (Nat.le_add_right _ _) (Nat.le_mul_of_pos_right _ O)) this
 have X: ∀k,k≤n→ ∃l:List α,l.length=k∧(∀a∈l,G a)∧ ∀i b j u,l[i]? = some b→(E.enc b)[j]? = some u→w.cell? ((a.add (i*E.sz)).add j)=some u:=by
  intro k;induction k with
  | zero=>exact λ_=>⟨[],rfl,by simp,by simp⟩
  | succ k Y=>
   intro q;obtain⟨l,Z,Za,Zb⟩:=Y aa;obtain⟨cs',I,Zc⟩:=hi k aa;obtain⟨b,Zd,Ze⟩:=N cs' (trod_shp f e L Q cs' _ M Zc (U k aa));obtain⟨_,Zm,Zf⟩:=World.cells?_some I;refine⟨l++[b],by simp[Z],λy p=>?_,λi y j u d g=>?_⟩;rcases cZ.1 p with p | p
   exact Za y p;rw[eb.1 p];exact Ze
   by_cases Zg:i<l.length
   rw[mA Zg] at d
   exact Zb i y j u d g;rw[kp aa] at d
   have:i=k:=by
    have:=(cK.1 d).1
    simp at this
    omega
   subst this;rw[show i - l.length=0 by omega] at d
   simp only[qJ,dA] at d
   subst d;have Zh:j<E.sz:=by
    have:=(cK.1 g).1
    rw[E.len] at this
    exact this
   have r:=Zf j (by rw[v];exact Zh)
   rw[v] at r
   rw[r,←Zd];exact g
 obtain⟨l,Zi,r,J⟩:=X n (bW _);refine⟨l,⟨Zi,R,S,λZn=>⟨a,rfl,?_,λk b j u q g=>J k b j u q g⟩⟩,r,W⟩;obtain⟨cs',I,_⟩:=hi 0 aa;obtain⟨b,B⟩ : ∃b,l[0]? = some b:=⟨l[0]'aa,bE _⟩;obtain⟨u,g⟩ : ∃u,(E.enc b)[0]? = some u:=⟨(E.enc b)[0]'(by rw[E.len];omega),bE _⟩;have:=World.block_lt_of_cell? _ _ (J 0 b 0 u B g)
 rw[block_add,block_add] at this
 exact this
end
end
end Go.Proofs.YtlgnfdodnhokjaaGreatDoor.Mq
namespace Go.Proofs.YtlgnfdodnhokjaaGreatDoor.Mq
open Go Go.RowKit
def uQ:List Nat→Bool
 | []=>true
 | x::l=> !l.any (Nat.beq x) && uQ l
theorem af.swap {b:World} {S:List Nat} {x y:Chunk} {cs:List Chunk} {w:World} (h:af b S (x::y::cs) w):af b S (y::x::cs) w:=by
 have l: ∀k,k∈aB (y::x::cs)→k∈aB (x::y::cs):=λk d=>by
  rw[fq,fq] at d ⊢
  simp only[cZ] at d ⊢
  rcases d with h | h | h
  ·exact .inr (.inl h)
  ·exact .inl h
  ·exact .inr (.inr h)
 refine⟨h.ext,?_,λc i=>h.all c ?_,λk d=>h.ek k (l k d)⟩
 ·have f:=h.nodup
  rw[fq,fq,←ea] at f ⊢
  rw[fW] at f ⊢
  obtain⟨j,m,n⟩:=f;rw[fW] at j ⊢
  obtain⟨o,p,q⟩:=j;refine⟨⟨p,o,λa g b r e=>q b r a g e.symm⟩,m,λa g=>n a ?_⟩;rcases cZ.1 g with h | h
  ·exact cZ.2 (.inr h)
  ·exact cZ.2 (.inl h)
 ·simp only[e1] at i ⊢
  rcases i with h | h | h
  ·exact .inr (.inl h)
  ·exact .inl h
  ·exact .inr (.inr h)
def FK {ι:Type} (fr:ι→Fr) (fK:ι→World→Prop) (ok:ι→Prop):cq
 | .normal,l,w=> ∃i,ok i∧Sub l (fr i)∧fK i w
 | _,_,_=>False
theorem dr {ι:Type} {fr:ι→Fr} {fK:ι→World→Prop} {ok:ι→Prop} {l:Fr} {H:World→Prop} (i:ι) (a:ok i) (b:Sub l (fr i)) (c: ∀w,H w→fK i w):dS (FK fr fK ok) .normal l H:=λw d=>⟨i,a,b,c w d⟩
theorem hL {P:Program} {n:Nat} {Q:cq} {l:Fr} {H:World→Prop} {c:Code} {ι:Type} (fr:ι→Fr) (fK:ι→World→Prop) (ok:ι→Prop) (h:dc P n c (FK fr fK ok) l H) (d: ∀i,ok i→dS Q .normal (fr i) (fK i)):dc P n c Q l H:=by
 intro w f a g;refine wp_mono (h w f a g) ?_;rintro e a w ⟨l1,j,b⟩;cases e with
 | normal=>
  obtain⟨i,k,m,o⟩:=b;exact⟨fr i,j.sub m,d i k w o⟩
 | _=>exact b.elim
end Go.Proofs.YtlgnfdodnhokjaaGreatDoor.Mq
