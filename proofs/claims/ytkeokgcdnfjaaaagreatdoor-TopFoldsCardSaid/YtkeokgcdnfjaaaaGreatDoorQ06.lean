/- part 6 of the proof -/
import Derived.Test.YtkeokgcdnfjaaaaGreatDoorQ04
import Derived.WalkKit
import Derived.ProofKit
import Derived.OpenShut
import Derived.ShutString
import Derived.ChangeOld
import Derived.ChangeSame
import Derived.Deep.Slices
import Derived.SizedLaws
namespace Go.Proofs.YtkeokgcdnfjaaaaGreatDoor.Mq
open Go Go.RowKit
section
section
variable {P:Program} {n:Nat} {ops:Array Oper} {Q:cl} {rest:List Oper} {l:Fr} {d:Nat} {ty:TypeId} {pos:String} {a6:Array Edge} {b:World} {S:List Nat} {cs:List Chunk}
def ng (R:Value→World→Prop) (w:World):Ending→World→Prop:=λe w'=> ∃v,e= .returned v∧Ext [] w w'∧R v w'
theorem mx {R:World→Value→World→Prop} {args:List Operand} {c_:Array TypeId} {f:FuncId} {vs:List Value} (ak:Nat.blt d n=true) (j:ad P f) (m:cH l args=some vs)
 (o: ∀w,af b S cs w→Calls P f vs.toArray w (ng (R w) w))
 (h: ∀c g v,af b S cs c→Ext [] c g→af b S cs g→(∀k∈aB cs,k<c.heap.size)→R c v g→az P n ops Q rest ((d,v)::l) (af g (aB cs) cs)):
 az P n ops Q (⟨some d,.call ⟨.value (.func f),args.toArray,c_⟩,ty,pos,a6,none⟩::rest) l (af b S cs):=by
 refine gJ rfl ak j m λw a=>?_
 have:=o w a
 simp only[ir,iP];refine this.mono ?_;rintro e w' ⟨v,rfl,i,p⟩;exact⟨_,rfl,(h w w' v a i (a.keep i) (λk q=>a.lt q) p).at (a.keep i).og⟩
theorem Rd.hf {α:Type} {E:bA α} {w:World} (h:af b S cs w) {g t:Nat} {L:List α} {m:Nat} (c:Has cs (aD g (E.all L) t)) (d:L.length=m) (e:m≤maxLen):
 Rd E w (λk=>k=g) (some ⟨g,0,none⟩) m m L:=
 ⟨d,cd _,e,λ_=>⟨_,rfl,rfl,λk a j u f i=>by
  rw[add_add,Addr.add_lit];exact h.eM c (by rw[dG];exact E.lE f i)⟩⟩
theorem af.Fb {w:World} (h:af b S cs w) {g e sz m:Nat} {xs:List Value} {cs':List Chunk} (c:bn cs (aD g xs e) (own e sz (.slice (some ⟨g,0,none⟩) m m) m xs) cs') (a:xs.length=m*sz) (d:m≤maxLen):af b S cs' w:=by
 have f:w.heap[g]? = some (.cells xs.toArray e (0,0)):=h.has c.has
 refine h.hV c (Ext.refl _ _) ⟨a,.inr ⟨g,m,xs.toArray,rfl,bN _,f,cd _,d,by simpa using a,by simp[←a]⟩⟩ ?_ ?_;intro k i;left
 simpa [own,aD,Value.ownBlock] using i
 simp[own,Value.ownBlock]
theorem OT {c:Code} {g e sz m:Nat} {xs:List Value} {cs':List Chunk} (a:bn cs (aD g xs e) (own e sz (.slice (some ⟨g,0,none⟩) m m) m xs) cs') (d:xs.length=m*sz) (f:m≤maxLen) (h:dc P n c Q l (af b S cs')):dc P n c Q l (af b S cs):=
 cG h (Sub.refl _) (λ_ i=>i.Fb a d f)
end
end
end Go.Proofs.YtkeokgcdnfjaaaaGreatDoor.Mq
namespace Go.Proofs.YtkeokgcdnfjaaaaGreatDoor.Mq
open Go Go.RowKit Go.ChangeShapes Go.WideShapes Go.Deep
section
inductive kn where
 | int (k:IntKind)
 | bool
 | str
 | Fc (t:TypeId)
def uv (P:Program) (g:TypeId→Option (List kn)):List Field→Nat→Option (List kn)
 | [],_=>some []
 | f::c6,o=>match g f.type,uv P g c6 (o+P.cellsOf f.type) with
  | some a,some b=>if f.offset=o∧a.length=P.cellsOf f.type then some (a++b) else none
  | _,_=>none
def qT (P:Program):Nat→TypeId→Option (List kn)
 | 0,_=>none
 | f+1,t=>match P.underlying t with
  | some (.struct c6)=>match uv P (qT P f) c6.toList 0 with
   | some L=>if L.length=P.cellsOf t then some L else none
   | none=>none
  | some (.array n e)=>match qT P f e with
   | some a=>if a.length=P.cellsOf e∧(List.replicate n a).flatten.length=P.cellsOf t then some (List.replicate n a).flatten else none
   | none=>none
  | some (.int k)=>some [.int k]
  | some .bool=>some [.bool]
  | some .string=>some [.str]
  | some (.slice _)=>some [.Fc t]
  | _=>none
def pI {H:Type} (P:Program) (t:TypeId) (d:DataW H):Prop:= ∀n∈DataW.weights P t d,n≤reachBytes
theorem z1 {H:Type} {P:Program} {e:TypeId}: ∀{l:List (DataW H)} {d:DataW H},d∈l→ ∀n∈d.weights P e,n∈DataW.weightsAll P e l
 | [],_,h,_,_=>by simp at h
 | d0::l,d,h,n,a=>by
  simp only[DataW.weightsAll,cX];rcases eD.1 h with rfl | h
  exact .inl a;exact .inr (z1 h n a)
section
variable {H:Type} (enc:TypeId × Value→H) (P:Program) (w:World) (base:Nat) (spare:Nat→Bool) (held:Bool)
def Fit:kn→Value→Prop
 | .int k,v=> ∃n,v= .int k n∧(Lit.int k n).wf=true
 | .bool,v=> ∃b,v= .bool b
 | .str,v=> ∃s,v= .string s∧s.size≤reachBytes
 | .Fc t,v=> ∃A n c a x,v= .slice A n c∧DataW.trod enc P w base spare held a t [v]=some x∧pI P t x.1
def Fits:List kn→List Value→Prop
 | [],[]=>True
 | l::a,v::vs=>Fit enc P w base spare held l v∧Fits a vs
 | _,_=>False
end
section
variable {H:Type} {enc:TypeId × Value→H} {P:Program} {w:World} {base:Nat} {spare:Nat→Bool} {held:Bool}
theorem Fits.cons {l:kn} {a:List kn} {cs:List Value} (h:Fits enc P w base spare held (l::a) cs): ∃v vs,cs=v::vs∧Fit enc P w base spare held l v∧Fits enc P w base spare held a vs:=by
 cases cs with
 | nil=>exact h.elim
 | cons v vs=>exact⟨v,vs,rfl,h.1,h.2⟩
theorem Fits.Fe {cs:List Value} (h:Fits enc P w base spare held [] cs):cs=[]:=by
 cases cs with
 | nil=>rfl
 | cons v vs=>exact h.elim
theorem Fits.ow: ∀{L M:List kn} {a b:List Value},Fits enc P w base spare held L a→Fits enc P w base spare held M b→Fits enc P w base spare held (L++M) (a++b)
 | [],_,[],_,_,c=>c
 | _::_,_,_::_,_,d,c=>⟨d.1,Fits.ow d.2 c⟩
 | [],_,_::_,_,h,_=>h.elim
 | _::_,_,[],_,h,_=>h.elim
theorem Ff {g:TypeId→Option (List kn)} {n:Nat} {cs:List Value} (e: ∀c L i x,g c=some L→DataW.trod enc P w base spare held n c i=some x→pI P c x.1→Fits enc P w base spare held L i):
 ∀(c6:List Field) (o:Nat) (L:List kn),uv P g c6 o=some L→(∀f∈c6,∃y,DataW.trod enc P w base spare held n f.type ((cs.drop f.offset).take (P.cellsOf f.type))=some y∧pI P f.type y.1)→
 Fits enc P w base spare held L ((cs.drop o).take L.length)
 | [],o,L,h,_=>by
  simp only[uv,dz] at h
  subst h;simp[Fits]
 | f::c6,o,L,h,j=>by
  simp only[uv] at h
  split at h
  rename_i a b k l;split at h
  rename_i d;simp only[dz] at h
  subst h;obtain⟨y,m,p⟩:=j f av;have q:=e _ _ _ _ k m p
  have r:=Ff e c6 _ b l (λs t=>j s (by simp[t]))
  rw[b0,List.take_add,mj];refine Fits.ow ?_ ?_;rw[d.2,←d.1];exact q
  rw[d.2];exact r
  cases h
  cases h
theorem Fg {a:List kn} {C n:Nat} {cs:List Value} (c:a.length=C) (b: ∀i,i<n→Fits enc P w base spare held a ((cs.drop (i*C)).take C)): ∀k,k≤n→Fits enc P w base spare held (List.replicate k a).flatten (cs.take (k*C))
 | 0,_=>by simp[Fits]
 | k+1,f=>by
  have d:=Fg c b k aa
  have e:=b k aa
  rw[iU,Nat.one_mul,List.take_add,List.replicate_succ',List.flatten_append,List.flatten_singleton];exact Fits.ow d e
theorem trod_shp: ∀(f:Nat) (t:TypeId) (L:List kn) (o:Nat) (cs:List Value) (x:DataW H × List MemPlace),qT P f t=some L→DataW.trod enc P w base spare held o t cs=some x→pI P t x.1→Fits enc P w base spare held L cs
 | 0,_,_,_,_,_,h,_,_=>by simp[qT] at h
 | f+1,t,L,o,cs,x,h,d,g=>by
  simp only[qT] at h
  split at h
  rename_i c6 c;split at h
  rename_i A B;split at h
  rename_i p;simp only[dz] at h
  subst h;obtain⟨xs,n,_,l,u,v,r⟩:=DataW.trod_struct c d;have:=Ff (cs:=cs) (n:=n) (λC L D x q E F=>trod_shp f C L n D x q E F) c6.toList 0 A B (λy G=>by
   obtain⟨i,hi⟩:=qv G;have I:c6[i]? = some y:=by simpa using hi
   have z:i<xs.length:=by
    have:=(cU.1 hi).1
    rw[v];simpa using this
   exact⟨xs[i],by rw[r i y I,bE z],λm J=>g m (by
    rw[l];simp only[DataW.weights,c];exact DataW.weights_mem_each (j:=i) (by rw[eJ,hi];rfl) (by rw[eJ,bE z];rfl) m J)⟩)
  rw[n1,eu aa] at this
  exact this;cases h
  cases h
  rename_i n e c;split at h
  rename_i a K;split at h
  rename_i p;simp only[dz] at h
  subst h;obtain⟨xs,m,_,l,u,v,r⟩:=DataW.trod_array c d;have:=Fg (cs:=cs) (n:=n) p.1 (λi hi=>by
   have q:=r i hi
   rw[bE aa] at q
   exact trod_shp f e a m _ _ K q (λk M=>g k (by
    rw[l];simp only[DataW.weights,c];exact z1 (dF.2 ⟨_,rO _,rfl⟩) k M))) n (cd _)
  rw[eu] at this
  exact this;rw[u,←p.2];have: ∀k:Nat,(List.replicate k a).flatten.length=k*P.cellsOf e:=λk=>by
   induction k with
   | zero=>simp
   | succ k N=>rw[mn,List.flatten_cons,b0,N,p.1,iU,Nat.one_mul,Nat.add_comm]
  rw[this n];exact cd _;cases h
  cases h
  rename_i k c;simp only[dz] at h
  subst h;obtain⟨n,rfl,_,O⟩:=DataW.trod_int c d;exact⟨⟨n,rfl,O⟩,aU⟩;rename_i c;simp only[dz] at h
  subst h;obtain⟨b,rfl,_⟩:=DataW.trod_bool c d;exact⟨⟨b,rfl⟩,aU⟩;rename_i c;simp only[dz] at h
  subst h;obtain⟨s,rfl,l,_⟩:=DataW.trod_string c d;exact⟨⟨s,rfl,g _ (by rw[l];simp only[DataW.weights];exact eL.2 (lA (xs:=s.data)).symm)⟩,aU⟩;rename_i e c;simp only[dz] at h
  subst h;rcases DataW.trod_slice c d with ⟨rfl,_⟩ | ⟨a,len,cap,_,_,_,_,rfl,_⟩
  exact⟨⟨none,0,0,o,x,rfl,d,g⟩,aU⟩;exact⟨⟨some a,len,cap,o,x,rfl,d,g⟩,aU⟩;cases h
theorem OU {α:Type} {E:bA α} {G:α→Prop} {t e K:Nat} {A:Option Addr} {n c:Nat} {x:DataW H × List MemPlace} (f:Nat) (L:List kn) (s:P.underlying t=some (.slice e)) (v:P.cellsOf e=E.sz) (Zj:0<E.sz)
 (M:qT P f e=some L) (N: ∀cs,Fits enc P w base spare held L cs→ ∃a,E.enc a=cs∧G a) (O:0<P.bytesOf e) (h:DataW.trod enc P w base spare held K t [.slice A n c]=some x) (z:pI P t x.1):
 ∃l,Rd E w (λk=>k<w.heap.size) A n c l∧(∀a∈l,G a)∧n≤reachBytes:=by
 rcases open_slice s h with ⟨o,_⟩ | ⟨a,len,cap,m,Q,D,Zk,o,B,R,S,T,C,hi⟩
 simp only[rJ,Value.slice.injEq,and_true] at o
 obtain⟨rfl,rfl,rfl⟩:=o;exact⟨[],Rd.nil _ _ _ _ (bN _) _,by simp,bN _⟩;simp only[rJ,Value.slice.injEq,and_true] at o
 obtain⟨rfl,rfl,rfl⟩:=o;have Zl:n≤m:=by rw[T];split <;> omega
 have U: ∀k,k<n→pI P e (D k):=λk q F V=>z F (by
  rw[C];simp only[DataW.weights,s,eD,cX];exact .inr (.inl (z1 (dF.2 ⟨k,List.mem_range.2 q,rfl⟩) F V)))
 have W:n≤reachBytes:=by
  have:=z _ (by
   rw[C];simp only[DataW.weights,s];exact List.mem_cons_self)
  simp only[cN,List.length_range] at this
  exact fp (fp (Nat.le_add_right _ _) (Nat.le_mul_of_pos_right _ O)) this
 have X: ∀k,k≤n→ ∃l:List α,l.length=k∧(∀a∈l,G a)∧ ∀i b j u,l[i]? = some b→(E.enc b)[j]? = some u→w.cell? ((a.add (i*E.sz)).add j)=some u:=by
  intro k;induction k with
  | zero=>exact λ_=>⟨[],rfl,by simp,by simp⟩
  | succ k Y=>
   intro q;obtain⟨l,Z,Za,Zb⟩:=Y aa;obtain⟨cs',I,Zc⟩:=hi k aa;obtain⟨b,Zd,Ze⟩:=N cs' (trod_shp f e L Q cs' _ M Zc (U k aa));obtain⟨_,Zm,Zf⟩:=World.cells?_some I;refine⟨l++[b],by simp[Z],λy p=>?_,λi y j u d g=>?_⟩;rcases cX.1 p with p | p
   exact Za y p;rw[eL.1 p];exact Ze
   by_cases Zg:i<l.length
   rw[mW Zg] at d
   exact Zb i y j u d g;rw[kS aa] at d
   have:i=k:=by
    have:=(cU.1 d).1
    simp at this
    omega
   subst this;rw[show i - l.length=0 by omega] at d
   simp only[qu,dz] at d
   subst d;have Zh:j<E.sz:=by
    have:=(cU.1 g).1
    rw[E.len] at this
    exact this
   have r:=Zf j (by rw[v];exact Zh)
   rw[v] at r
   rw[r,←Zd];exact g
 obtain⟨l,Zi,r,J⟩:=X n (cd _);refine⟨l,⟨Zi,R,S,λZn=>⟨a,rfl,?_,λk b j u q g=>J k b j u q g⟩⟩,r,W⟩;obtain⟨cs',I,_⟩:=hi 0 aa;obtain⟨b,B⟩ : ∃b,l[0]? = some b:=⟨l[0]'aa,bE _⟩;obtain⟨u,g⟩ : ∃u,(E.enc b)[0]? = some u:=⟨(E.enc b)[0]'(by rw[E.len];omega),bE _⟩;have:=World.block_lt_of_cell? _ _ (J 0 b 0 u B g)
 rw[block_add,block_add] at this
 exact this
end
end
end Go.Proofs.YtkeokgcdnfjaaaaGreatDoor.Mq
namespace Go.Proofs.YtkeokgcdnfjaaaaGreatDoor.Mq
open Go Go.RowKit
def uw:List Nat→Bool
 | []=>true
 | x::l=> !l.any (Nat.beq x) && uw l
theorem af.swap {b:World} {S:List Nat} {x y:Chunk} {cs:List Chunk} {w:World} (h:af b S (x::y::cs) w):af b S (y::x::cs) w:=by
 have l: ∀k,k∈aB (y::x::cs)→k∈aB (x::y::cs):=λk d=>by
  rw[ff,ff] at d ⊢
  simp only[cX] at d ⊢
  rcases d with h | h | h
  ·exact .inr (.inl h)
  ·exact .inl h
  ·exact .inr (.inr h)
 refine⟨h.ext,?_,λc i=>h.all c ?_,λk d=>h.ee k (l k d)⟩
 ·have f:=h.nodup
  rw[ff,ff,←e0] at f ⊢
  rw[fK] at f ⊢
  obtain⟨j,m,n⟩:=f;rw[fK] at j ⊢
  obtain⟨o,p,q⟩:=j;refine⟨⟨p,o,λa g b r e=>q b r a g e.symm⟩,m,λa g=>n a ?_⟩;rcases cX.1 g with h | h
  ·exact cX.2 (.inr h)
  ·exact cX.2 (.inl h)
 ·simp only[eD] at i ⊢
  rcases i with h | h | h
  ·exact .inr (.inl h)
  ·exact .inl h
  ·exact .inr (.inr h)
def Fh {ι:Type} (fr:ι→Fr) (fA:ι→World→Prop) (ok:ι→Prop):cl
 | .normal,l,w=> ∃i,ok i∧Sub l (fr i)∧fA i w
 | _,_,_=>False
theorem dr {ι:Type} {fr:ι→Fr} {fA:ι→World→Prop} {ok:ι→Prop} {l:Fr} {H:World→Prop} (i:ι) (a:ok i) (b:Sub l (fr i)) (c: ∀w,H w→fA i w):dP (Fh fr fA ok) .normal l H:=λw d=>⟨i,a,b,c w d⟩
theorem hC {P:Program} {n:Nat} {Q:cl} {l:Fr} {H:World→Prop} {c:Code} {ι:Type} (fr:ι→Fr) (fA:ι→World→Prop) (ok:ι→Prop) (h:dc P n c (Fh fr fA ok) l H) (d: ∀i,ok i→dP Q .normal (fr i) (fA i)):dc P n c Q l H:=by
 intro w f a g;refine wp_mono (h w f a g) ?_;rintro e a w ⟨l1,j,b⟩;cases e with
 | normal=>
  obtain⟨i,k,m,o⟩:=b;exact⟨fr i,j.sub m,d i k w o⟩
 | _=>exact b.elim
end Go.Proofs.YtkeokgcdnfjaaaaGreatDoor.Mq
