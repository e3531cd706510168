/- part 4 of the proof -/
import Derived.Test.YtlgnfdodnhokjaaGreatDoorQ03
import Derived.Laws.MakeOwn
import Derived.Laws.StructEq
namespace Go.Proofs.YtlgnfdodnhokjaaGreatDoor.Mq
open Go Go.RowKit
section
section
variable {P:Program} {n:Nat} {ops:Array Oper} {Q:cq} {rest:List Oper} {l:Fr} {d:Nat} {ty:TypeId} {pos:String} {a7:Array Edge}
variable {b:World} {S:List Nat} {cs:List Chunk}
theorem run_append_nil {w:World} {t ty e sz d:Nat} {z:List Value} {v:Value} {m c:Nat} {xs:List Value} (a:c6 P t e sz d z) (f:w.ownsRow 0 e sz v m xs):
 (Builtin.append_ #[t,t] ty #[v,.slice none 0 c]).run P w= .ok v w:=by
 obtain⟨i,fs,b,j,k,l,n⟩:=a.inf;rcases f.2 with ⟨rfl,rfl⟩ | ⟨g,cap,am,rfl,_,_,h,_⟩
 simp[Builtin.append_,run_underlying a.fe,sizeOf,typeInfo,b,Builtin.lenOf,Builtin.firstCells]
 simp[Builtin.append_,run_underlying a.fe,sizeOf,typeInfo,b,Builtin.lenOf,Builtin.firstCells,h,storeCells]
theorem oH {α:Type} {E:bA α} {x y:Operand} {t e H:Nat} {z:List Value} {v:Value} {m:Nat} {xs:List Value} {A:Option Addr} {k c:Nat} {src:List α} {F:Nat→Prop} {cs':Value→List Chunk} (p:c6 P t e E.sz H z) (ak:Nat.blt d n=true)
 (Ze:ba l x=some v) (Zf:ba l y=some (.slice A k c)) (q: ∀f,bn cs (own e E.sz v m xs) (own e E.sz f (m+k) (xs++E.all src)) (cs' f))
 (Zg: ∀w,af b S cs w→Rd E w F A k c src) (M:m+k≤maxLen) (N: (m+k)*H≤140737488355328)
 (h: ∀f,(∀g,f.ownBlock=some g→v.ownBlock=some g∨(b.heap.size≤g∧ ∀k∈aB cs,k<g))→az P n ops Q rest ((d,f)::l) (af b S (cs' f))):
 az P n ops Q (⟨some d,.call ⟨.builtin .append,#[x,y],#[t,t]⟩,ty,pos,a7,none⟩::rest) l (af b S cs):=by
 have Zh:=p
 obtain⟨i,fs,O,R,T,U,V⟩:=p.inf;refine hD ak λZi w W r=>?_
 have I:w.ownsRow 0 e E.sz v m xs:=r.has (q v).has
 have J:=Zg w r
 have K: ∀(f:Value) (w':World),(Builtin.append_ #[t,t] ty #[v,.slice A k c]).run P w= .ok f w'→w'.ownsRow 0 e E.sz f (m+k) (xs++E.all src)→w.grownBy w' v.ownBlock→(f.ownBlock=v.ownBlock∨f.ownBlock=some w.heap.size)→
  ∃v w',(execOp Zi ⟨some d,.call ⟨.builtin .append,#[x,y],#[t,t]⟩,ty,pos,a7,none⟩).run P w= .ok (.value v) w'∧az P n ops Q rest ((d,v)::l) (λx=>x=w'):=by
  intro f w' s B C o;refine⟨f,w',?_,(h f ?_).at (r.ie (q f) (Ext.uz C) B ?_ ?_)⟩;simp[execOp,resolve,invoke,builtin,W x _ Ze,W y _ Zf,s]
  intro g X;rcases o with o | o
  exact .inl (o▸X);rw[X] at o
  simp only[dA] at o
  subst o;exact .inr ⟨r.ext.size,λk D=>r.lt D⟩;intro Y G;show Y∈v.ownBlock.toList∨_
  replace G:Y∈f.ownBlock.toList:=G
  rcases o with o | o
  exact .inl (o▸G);rw[o] at G
  simp at G
  exact .inr aa;show f.ownBlock.toList.Nodup
  cases f.ownBlock <;> simp
 rcases gw k with D | D
 subst D;have Zj:src=[]:=iC J.len
 subst Zj;cases A with
 | none=>
  have Zk:=run_append_nil (ty:=ty) (c:=c) Zh I
  exact K v w Zk (by simpa [bA.all] using I) ⟨rfl,rfl,rfl,bW _,λ_ _ _=>rfl⟩ (.inl rfl)
 | some a=>
  obtain⟨f,w',s,B,C,_,o⟩:=run_append_own_at (P:=P) w 0 t ty e i fs E.sz H p.fe O R U V (by rw[←lI,T,p.len]) p.pos v m xs I a 0 c [] av av av M N (bP _);exact K f w' s (by simpa [bA.all] using B) C o
 obtain⟨bY,rfl,_,Zl⟩:=J.cells D;obtain⟨f,w',s,B,C,_,o⟩:=run_append_own_at (P:=P) w 0 t ty e i fs E.sz H p.fe O R U V (by rw[←lI,T,p.len]) p.pos v m xs I bY k c (E.all src) (by rw[E.dI,J.len])
  (λj u q=>by
   have Zm:j<src.length*E.sz:=by
    have:=(cK.1 q).1
    rwa [E.dI] at this
   have Z:0<E.sz:=p.pos
   have Zn:j/E.sz<src.length:=(Nat.div_lt_iff_lt_mul Z).2 Zm
   have Zo:=iH j Z
   have Zp:=Nat.div_add_mod j E.sz
   obtain⟨a0,Za⟩ : ∃a0,src[j/E.sz]? = some a0:=⟨src[j/E.sz],bE Zn⟩;obtain⟨Zb,Zc⟩ : ∃Zb,(E.enc a0)[j%E.sz]? = some Zb:=⟨(E.enc a0)[j%E.sz]'(by rw[E.len];exact Zo),bE _⟩;have L:=E.lQ Za Zc
   have Zd:j/E.sz*E.sz+j%E.sz=j:=by rw[qQ];exact Zp
   rw[Zd,q] at L
   simp only[dA] at L
   subst L;have:=Zl _ _ _ _ Za Zc
   rw[add_add,Zd] at this
   exact this) (E.wI src) M N (bP _)
 exact K f w' s B C o
theorem Mh (z:List Value) (k sz:Nat) (a:z.length=sz):madeCells z.toArray (k*sz)=(ff z k).toArray:=by
 subst a;exact D0 z k
theorem sq {x y:Operand} {t e sz j:Nat} {z:List Value} {i:Int} (m:Nat) (a:c6 P t e sz j z) (ak:Nat.blt d n=true) (r:ba l x=some (.int .i64 i)) (s:ba l y=some (.int .i64 i)) (u:i=(m:Int)) (o:m≤maxLen) (I:j*m≤281474976710656)
 (h: ∀g,b.heap.size≤g→(∀k∈aB cs,k<g)→az P n ops Q rest ((d,.slice (some ⟨g,0,none⟩) m m)::l) (af b S (own e sz (.slice (some ⟨g,0,none⟩) m m) m (ff z m)::cs))):
 az P n ops Q (⟨some d,.makeSlice t x y,ty,pos,a7,none⟩::rest) l (af b S cs):=by
 subst u;obtain⟨inf,fs,v,A,B,C,D⟩:=a.inf;refine hD ak λJ w p c=>?_
 have E: (inf.bytes:Int)*(m:Int)≤281474976710656:=by
  rw[D,←Int.natCast_mul];omega
 have F: (m:Int)≤9223372036854775807:=by simp only[maxLen] at o;omega
 have q:=run_make (P:=P) w t e inf fs a.fe v A .i64 .i64 m m aa (iB _) E F
 have G:fs.cells=z.toArray:=by rw[←B]
 simp only[fV,C,G,Mh z m sz a.len] at q
 refine⟨.slice (some ⟨w.heap.size,0,none⟩) m m,w.alloc (.cells (ff z m).toArray e),?_,(h w.heap.size c.ext.size (λk H=>c.lt H)).at (c.add (Ext.alloc _ _ _) ?_ (by simp[own,Value.ownBlock]) (by simp[own,Value.ownBlock]))⟩;simp[execOp,p x _ r,p y _ s,q]
 have f: (ff z m).length=m*sz:=by rw[zq,a.len]
 exact⟨f,.inr ⟨w.heap.size,m,(ff z m).toArray,rfl,bP _,heap_alloc_new w _,bW _,o,by simpa using f,by simp[←f]⟩⟩
theorem Mi {w:World} {t e sz b:Nat} {z:List Value} {A:Option Addr} {m c:Nat} {lo hi:Option Value} {p q:Nat} (a:c6 P t e sz b z) (d:lo=some (.int .i64 (p:Int))∨lo=none∧p=0) (f:hi=some (.int .i64 (q:Int))∨hi=none∧q=m) (g:p≤q) (h:q≤c):
 (Instr.slice t (.slice A m c) lo hi none).run P w= .ok (.slice (if c=p then A else A.map (·.add (p*sz))) (q - p) (c - p)) w:=by
 obtain⟨inf,fs,i,k,l,j,n⟩:=a.inf;unfold Instr.slice Instr.sliceBounds;rcases d with rfl | ⟨rfl,rfl⟩ <;> rcases f with rfl | ⟨rfl,rfl⟩ <;>
  simp[run_underlying a.fe,Instr.sliceBound,asIntOf,run_sizeOf i,j,g,h]
theorem fz {H:World→Prop} {x:Operand} {lo hi:Option Operand} {t e sz j:Nat} {z:List Value} {A:Option Addr} {m c:Nat} (p q:Nat) (g:c6 P t e sz j z) (ak:Nat.blt d n=true) (k:ba l x=some (.slice A m c))
 (r: (∃o u,lo=some o∧ba l o=some (.int .i64 u)∧u=(p:Int))∨lo=none∧p=0) (s: (∃o u,hi=some o∧ba l o=some (.int .i64 u)∧u=(q:Int))∨hi=none∧q=m) (v:p≤q) (y:q≤c)
 (h:az P n ops Q rest ((d,.slice (if c=p then A else A.map (·.add (p*sz))) (q - p) (c - p))::l) H):az P n ops Q (⟨some d,.slice t x lo hi none,ty,pos,a7,none⟩::rest) l H:=by
 refine dd _ ak (λi w a=>?_) h;have:=Mi (w:=w) (A:=A) (m:=m) (c:=c) (lo:=lo.map i) (hi:=hi.map i) (p:=p) (q:=q) g
  (by
   rcases r with ⟨o,u,rfl,b,rfl⟩ | ⟨rfl,f⟩
   left;simp[a o _ b]
   right;exact⟨rfl,f⟩)
  (by
   rcases s with ⟨o,u,rfl,b,rfl⟩ | ⟨rfl,f⟩
   left;simp[a o _ b]
   right;exact⟨rfl,f⟩) v y
 simp[execOp,a x _ k,Instr.sliceAt,run_underlying g.fe,this]
theorem Rd.cut {α:Type} {E:bA α} {w:World} {F:Nat→Prop} {A:Option Addr} {m c:Nat} {xs:List α} (h:Rd E w F A m c xs) {p q:Nat} (g:p≤q) (i:q≤m):
 Rd E w F (if c=p then A else A.map (·.add (p*E.sz))) (q - p) (c - p) ((xs.take q).drop p):=by
 have l:=h.len
 have n:=h.cap
 refine⟨by simp;omega,aa,by have:=h.max;omega,λo=>?_⟩;obtain⟨bY,rfl,d,e⟩:=h.cells aa;rw[ag aa];refine⟨bY.add (p*E.sz),rfl,by rw[block_add];exact d,λk a j u b f=>?_⟩;rw[mB,iD] at b
 split at b
 have:=e (p+k) a j u b f
 rw[add_add] at this
 rw[add_add,add_add,show p*E.sz+(k*E.sz+j)=(p+k)*E.sz+j by rw[ja];omega];exact this;cases b
theorem je {vs xs:List Value}: ∀(o:Nat),o+vs.length≤xs.length→df xs o vs=xs.take o++vs++xs.drop (o+vs.length):=by
 induction vs generalizing xs with
 | nil=>intro o h;simp[df]
 | cons v vs a=>
  intro o h;simp only[eO] at h
  have b:=a (xs:=xs.set o v) (o+1) (by simp;omega)
  simp only[df];rw[b,fR,List.getElem?_set_self aa];simp only[pB,List.take_set_of_le (bW o),List.drop_set_of_lt (show o<o+1+vs.length by omega),eO];rw[show o+(vs.length+1)=o+1+vs.length by omega];simp
theorem D5 {α:Type} {E:bA α} {x y:Operand} {t e M:Nat} {z:List Value} {g m c:Nat} {xs:List Value} {A:Option Addr} {k c':Nat} {src:List α} {F:Nat→Prop} {cs':List Chunk} (q:c6 P t e E.sz M z) (ak:Nat.blt d n=true)
 (N:ba l x=some (.slice (some ⟨g,0,none⟩) m c)) (O:ba l y=some (.slice A k c')) (a:bn cs (own e E.sz (.slice (some ⟨g,0,none⟩) m c) m xs) (own e E.sz (.slice (some ⟨g,0,none⟩) m c) m (E.all src++xs.drop (k*E.sz))) cs')
 (R: ∀w,af b S cs w→Rd E w F A k c' src) (C:k≤m)
 (h:az P n ops Q rest ((d,.int .i64 (k:Int))::l) (af b S cs')):
 az P n ops Q (⟨some d,.call ⟨.builtin .copy,#[x,y],#[t,t]⟩,ty,pos,a7,none⟩::rest) l (af b S cs):=by
 obtain⟨i,fs,T,Zh,Zi,U,Zj⟩:=q.inf;refine hD ak λZk w D r=>?_
 have V:=r.has a.has
 have s:=R w r
 have f: (E.all src).length=k*E.sz:=by rw[E.dI,s.len]
 have Zl:k*E.sz≤m*E.sz:=k1 _ C
 have G:=V.1
 have W:df xs 0 (E.all src)=E.all src++xs.drop (k*E.sz):=by
  rw[je 0 (by rw[f,G];omega),f];simp
 rw[←W] at a
 obtain⟨w',X,Y⟩:=r.so (P:=P) (xs:=xs) (o:=0) (vs:=E.all src) (by rw[f,G];omega) (E.wI src) a;have Z:Nat.min k m=k:=iG C
 have Za: (Builtin.firstCells E.sz k (.slice A k c')).run P w= .ok (E.all src).toArray w:=by
  rcases gw k with v | v
  subst v;have Zb:src=[]:=iC s.len
  subst Zb;cases A <;> simp[Builtin.firstCells,bA.all,loadCells,loadCellsFrom]
  obtain⟨bY,rfl,_,Zc⟩:=s.cells v;have:=run_loadCellsFrom (P:=P) (w:=w) (p:=bY) (E.all src) 0 #[] (λj u a=>by
   have Zd:j<src.length*E.sz:=by
    have:=(cK.1 a).1
    rwa [E.dI] at this
   have H:0<E.sz:=q.pos
   have Ze:j/E.sz<src.length:=(Nat.div_lt_iff_lt_mul H).2 Zd
   have Zf:=iH j H
   have Zg:=Nat.div_add_mod j E.sz
   obtain⟨a0,I⟩ : ∃a0,src[j/E.sz]? = some a0:=⟨src[j/E.sz],bE Ze⟩;obtain⟨J,K⟩ : ∃J,(E.enc a0)[j%E.sz]? = some J:=⟨(E.enc a0)[j%E.sz]'(by rw[E.len];exact Zf),bE _⟩;have B:=E.lQ I K
   have L:j/E.sz*E.sz+j%E.sz=j:=by rw[qQ];exact Zg
   rw[L,a] at B
   simp only[dA] at B
   subst B;have:=Zc _ _ _ _ I K
   rw[add_add,L] at this
   rw[dE];exact this)
  rw[f] at this
  simpa [Builtin.firstCells,loadCells] using this
 refine⟨.int .i64 (k:Int),w',?_,h.at Y⟩;simp[execOp,resolve,invoke,builtin,D x _ N,D y _ O,Builtin.copy_,run_underlying q.fe,Builtin.lenOf,run_sizeOf T,U,Z,Za,goInt,X]
theorem qX {args:List Operand} {db:Array TypeId} {f:FuncId} {vs:List Value} {v:Value} {c c':Chunk} {cs':List Chunk} (ak:Nat.blt d n=true) (j:ad P f) (m:cI l args=some vs) (g:bn cs c c' cs') (i:c'.ch=c.ch)
 (o: ∀w,af b S cs w→Calls P f vs.toArray w (λe w'=>e= .returned v∧Ext c.ch w w'∧c'.pred w'))
 (h:az P n ops Q rest ((d,v)::l) (af b S cs')):
 az P n ops Q (⟨some d,.call ⟨.value (.func f),args.toArray,db⟩,ty,pos,a7,none⟩::rest) l (af b S cs):=by
 refine gT rfl ak j m λw a=>?_
 have:=o w a
 simp only[iA,i8];refine this.mono ?_;rintro e w' ⟨rfl,p,ai⟩;refine⟨v,rfl,h.at (a.ie g p ai (λk q=> .inl (i▸q)) ?_)⟩;rw[i];obtain⟨l1,hl,rfl,_⟩:=g.split;have:=a.nodup
 rw[iI,fq,fW,fW] at this
 exact this.2.1.1
theorem af.Mj {w:World} {c:Chunk} (ai:c.pred w) (a:c.ch.Nodup):af w c.ch [c] w:=⟨Ext.refl _ _,by simpa [aB] using a,by simpa using ai,λk b _=>by simpa [aB] using b⟩
theorem af.qY {w b:World} {c:Chunk} (h:w=b) (ai:c.pred b) (a:c.ch.Nodup):af b c.ch [c] w:=by
 subst h;exact af.Mj ai a
theorem uE (e sz:Nat) (v:Value) (m:Nat) (xs:List Value): (own e sz v m xs).ch.Nodup:=by
 show v.ownBlock.toList.Nodup
 cases v.ownBlock <;> simp
theorem wN {fn:Fn} {first a:List Operand} {us vs:List Value} (ak:Nat.blt d n=true) (e:cI l first=some us) (f:cI l a=some vs)
 (h:az P n ops Q rest ((d,.func fn us.toArray vs.toArray)::l) (af b S cs)):az P n ops Q (⟨some d,.makeFunc fn first.toArray a.toArray,ty,pos,a7,none⟩::rest) l (af b S cs):=
 dd _ ak (λg w c=>by simp[execOp,Instr.makeFunc,c.list _ _ e,c.list _ _ f]) h
theorem gU {ih:Operand} {args:List Operand} {db:Array TypeId} {f:FuncId} {first cap:List Value} {vs:List Value} {v:Value} (ak:Nat.blt d n=true) (c:ba l ih=some (.func (.func f) first.toArray cap.toArray)) (g:ad P f) (i:cI l args=some vs)
 (j: ∀w,af b S cs w→Calls P f (first++vs++cap).toArray w (λe w'=>e= .returned v∧Ext [] w w'))
 (h:az P n ops Q rest ((d,v)::l) (af b S cs)):
 az P n ops Q (⟨some d,.call ⟨.value ih,args.toArray,db⟩,ty,pos,a7,none⟩::rest) l (af b S cs):=by
 refine gT c ak g i λw a=>?_
 have:=j w a
 simp only[List.append_toArray];refine this.mono ?_;rintro e w' ⟨rfl,k⟩;exact⟨v,rfl,h.at (a.keep k)⟩
end
end
section
def sr:Value→Value→Bool
 | .int _ a,.int _ b=>decide (a=b)
 | .bool a,.bool b=>a == b
 | .string a,.string b=>decide (a.data.toList=b.data.toList)
 | _,_=>false
def eqv:List Value→List Value→Bool
 | [],[]=>true
 | x::xs,y::dh=>sr x y && eqv xs dh
 | _,_=>false
theorem D6: ∀(a b c d:List Value),a.length=c.length→eqv (a++b) (c++d)=(eqv a c && eqv b d)
 | [],b,[],d,_=>by simp[eqv]
 | x::a,b,y::c,d,h=>by simp[eqv,D6 a b c d (by simpa using h),Bool.and_assoc]
 | [],_,_::_,_,h=>by simp at h
 | _::_,_,[],_,h=>by simp at h
def jB (P:Program) (t:TypeId):Bool:=match P.underlying t with
 | some d=> !iJ d
 | none=>false
def ku (P:Program) (t:TypeId):Nat:=match P.info? t with
 | some i=>i.size
 | none=>0
def ho (P:Program) (t:TypeId) (xs:List Value):Value:=match jB P t with
 | true=> .agg xs.toArray
 | false=>xs.headD undef
def pK (P:Program) (a:TypeId→List Value→List Value→Bool):List Field→Nat→List Value→List Value→Bool
 | [],_,[],[]=>true
 | f::c8,off,xs,dh=>(f.name != "_") && Nat.beq f.offset off && ((P.info? f.type).isSome && (jB P f.type || Nat.beq (ku P f.type) 1)) && Nat.beq (xs.take (ku P f.type)).length (ku P f.type) && Nat.beq (dh.take (ku P f.type)).length (ku P f.type) &&
  a f.type (xs.take (ku P f.type)) (dh.take (ku P f.type)) && pK P a c8 (off+ku P f.type) (xs.drop (ku P f.type)) (dh.drop (ku P f.type))
 | _,_,_,_=>false
def alike (P:Program):Nat→TypeId→List Value→List Value→Bool
 | 0,_,_,_=>false
 | d+1,t,xs,dh=>match P.underlying t with
  | some (.int _)=>match xs,dh with
   | [.int k _],[.int a _]=>decide (k=a)
   | _,_=>false
  | some .bool=>match xs,dh with
   | [.bool _],[.bool _]=>true
   | _,_=>false
  | some .string=>match xs,dh with
   | [.string _],[.string _]=>true
   | _,_=>false
  | some (.struct c8)=> !P.stoodInHeld t && pK P (alike P d) c8.toList 0 xs dh
  | _=>false
theorem ss {P:Program} {w:World} {t:TypeId} {cs:List Value} {off:Nat} {a:TypeDesc} {i:TypeInfo} (b:P.underlying t=some a) (hi:P.info? t=some i) (d:iJ a=true→i.size=1) (c: ((cs.drop off).take i.size).length=i.size):
 (part t cs.toArray off).run P w= .ok (ho P t ((cs.drop off).take i.size)) w:=by
 unfold part ho jB;rw[b];cases ak:iJ a with
 | true=>
  have e:=d ak
  rw[e] at c ⊢
  have f:off<cs.length:=by simp at c;omega
  simp[pE b,ak,bE f,List.head?_take,List.head?_drop,List.headD_eq_head?_getD]
 | false=>
  simp[pE b,ak,run_sizeOf hi]
theorem D7 {P:Program}: ∀(d:Nat) (t:TypeId) (xs dh:List Value) (w:World),alike P d t xs dh=true→
 ∀e,(Op.equalIn (d+e) t (ho P t xs) (ho P t dh)).run P w= .ok (eqv xs dh) w
 | 0,_,_,_,_,h,_=>by simp[alike] at h
 | d+1,t,xs,dh,w,h,e=>by
  have m:d+1+e=(d+e)+1:=by omega
  rw[m];unfold alike at h
  split at h
  rename_i k c;split at h
  rename_i E a aH b;have F:E=aH:=by simpa using h
  subst F;simp[ho,jB,c,iJ,run_equalIn_int w _ _ _ _ _ _ c,eqv,sr,DM]
  cases h
  rename_i c;split at h
  simp[ho,jB,c,iJ,Op.equalIn,run_underlying c,eqv,sr]
  cases h
  rename_i c;split at h
  rename_i a b;have G: (a.toList == b.toList)=decide (a.data.toList=b.data.toList):=by
   rw[ByteArray.toList_eq,ByteArray.toList_eq,Bool.eq_iff_iff];simp only[beq_iff_eq,e9]
  simp only[ho,jB,c,iJ,Bool.not_true,List.headD_cons,run_equalIn_string w _ _ _ _ c,eqv,sr,G,qH];cases h
  rename_i c8 c;simp only[d4,pz] at h
  obtain⟨H,I⟩:=h;have v: ∀o,ho P t o= .agg o.toArray:=λo=>by simp[ho,jB,c,iJ]
  rw[v,v];have x:P.fieldsOf t=c8:=by simp[Program.fieldsOf,c]
  have y:=run_equalIn_struct (P:=P) w (d+e) t xs.toArray dh.toArray (by rw[x];exact c) H
  rw[x] at y
  rw[y];have J: ∀(l:List Field) (off:Nat) (us vs:List Value),us=xs.drop off→vs=dh.drop off→pK P (alike P d) l off us vs=true→(Op.eqFields (d+e) xs.toArray dh.toArray l).run P w= .ok (eqv us vs) w:=by
   intro l;induction l with
   | nil=>
    intro off us vs _ _ h;cases us <;> cases vs <;> simp[pK] at h
    simp[Op.eqFields,eqv]
   | cons f l K=>
    intro off us vs p q h;simp only[pK,d4] at h
    obtain⟨⟨⟨⟨⟨⟨L,M⟩,r⟩,N⟩,O⟩,g⟩,z⟩:=h;have Q:f.offset=off:=gd M
    have s:=gd N
    have u:=gd O
    cases hi:P.info? f.type with
    | none=>rw[hi] at r;cases r.1
    | some i=>
     have A:ku P f.type=i.size:=by simp[ku,hi]
     rw[A] at s u g z
     have R: ∃n,P.underlying f.type=some n:=by
      cases d with
      | zero=>simp[alike] at g
      | succ d=>
       unfold alike at g
       cases ak:P.underlying f.type with
       | none=>rw[ak] at g;cases g
       | some n=>exact⟨n,rfl⟩
     obtain⟨n,m⟩:=R;have B:iJ n=true→i.size=1:=λS=>by
      rw[←A];have j:=r.2
      rw[mx] at j
      rcases j with j | j
      simp[jB,m,S] at j
      exact gd j
     have dP:=ss (P:=P) (w:=w) (cs:=xs) (off:=off) m hi B (by rw[←p];exact s)
     have gk:=ss (P:=P) (w:=w) (cs:=dh) (off:=off) m hi B (by rw[←q];exact u)
     rw[←p] at dP
     rw[←q] at gk
     have T:=D7 d f.type (us.take i.size) (vs.take i.size) w g e
     have U:=K (off+i.size) (us.drop i.size) (vs.drop i.size) (by rw[p,lJ]) (by rw[q,lJ]) z
     have C:eqv us vs=(eqv (us.take i.size) (vs.take i.size) && eqv (us.drop i.size) (vs.drop i.size)):=by
      rw[←D6 _ _ _ _ (by rw[s,u]),iF,iF]
     have V:f.name≠ "_":=by simpa using L
     unfold Op.eqFields;rw[aw V,Q];simp only[Sem.run_bind,dP,gk,Result.andThen_ok,T];cases D:eqv (us.take i.size) (vs.take i.size) with
     | true=>simp[U,C,D]
     | false=>simp[C,D]
  exact J c8.toList 0 xs dh av av I;cases h
class su (P:Program) (t:TypeId):Prop where
 agg:jB P t=true
 guard:P.eqGuardType P.depth t=false
section
variable {P:Program} {n:Nat} {ops:Array Oper} {Q:cq} {rest:List Oper} {l:Fr} {H:World→Prop} {d:Nat} {ty:TypeId} {pos:String} {a7:Array Edge}
variable {cv dx:TypeId} {x y:Operand} {xs dh:List Value}
theorem Mk {w:World} (c:su P cv) (d:alike P 50 cv xs dh=true): (Op.equalIn 10000 cv (.agg xs.toArray) (.agg dh.toArray)).run P w= .ok (eqv xs dh) w:=by
 have:=D7 50 cv xs dh w d 9950
 have b: ∀a,ho P cv a= .agg a.toArray:=λa=>by simp[ho,c.agg]
 rw[b,b] at this
 exact this
theorem zx {r:Bool} (a:su P cv) (ak:Nat.blt d n=true) (e:ba l x=some (.agg xs.toArray)) (f:ba l y=some (.agg dh.toArray)) (g:alike P 50 cv xs dh=true) (i:eqv xs dh=r)
 (h:az P n ops Q rest ((d,.bool r)::l) H):az P n ops Q (⟨some d,.binOp .eql cv x y dx,ty,pos,a7,none⟩::rest) l H:=by
 refine dd _ ak (λk w b=>?_) h;have j:=run_eqGuard_agg (P:=P) w .eql cv x y xs.toArray dh.toArray a.guard
 have c:=run_eql_struct (P:=P) w cv xs.toArray dh.toArray
 rw[Mk a g] at c
 simp only[execOp,b x _ e,b y _ f];simp only[Sem.run_bind,j,Result.andThen_ok,c,Sem.run_pure,i]
end
def wO (tmps:Array Value):ResultVar→Sem Value
 | .tmp t=>pure (tmps.getD t undef)
 | .cell a t=>do loadVar t (←asAddr (tmps.getD a undef))
def cy (P:Program) (n:Nat) (l:Fr) (H:World→Prop) (r:ResultVar) (v:Value):Prop:= ∀a w,hB n l a→H w→(wO a.tmps r).run P w= .ok v w
section
variable {P:Program} {n:Nat} {l:Fr} {H:World→Prop}
theorem cy.tmp {t:Nat} {v:Value} (b:look l t=some v):cy P n l H (.tmp t) v:=λa w c _=>by
 simp[wO,jW,c.val t v b]
theorem cy.eX {b:World} {S:List Nat} {cs:List Chunk} {a t sz:Nat} {z xs vs:List Value} {g o:Nat} {te:TypeId} (d:cD P t sz z) (e:look l a=some (.pointer (some ⟨g,o,none⟩))) (f:Has cs (aD g xs te)) (h: (xs.drop o).take sz=vs) (k:vs.length=sz):
 cy P n l (af b S cs) (.cell a t) (.agg vs.toArray):=λy w m q=>by
 obtain⟨A,r,s⟩:=d.fe;obtain⟨i,v,_,x⟩:=d.inf;have:=run_loadCellsFrom (P:=P) (w:=w) (p:=⟨g,o,none⟩) vs 0 #[] (λj u c=>by
  rw[dE,Addr.add_lit];refine q.eP f ?_;rw[←h,iD] at c
  split at c
  simpa using c
  cases c)
 simp[wO,jW,m.val a _ e,asAddr,loadVar,pE r,s,run_sizeOf v,x,loadCells,←k,this]
variable {fn:Func} {R:Ending→World→Prop} {hl fg qZ uF:ResultVar} {v1 v2 v3 v4:Value}
theorem zy (fn:Func) (tmps:Array Value):results fn tmps=(do
 let vs ←fn.results.mapM (wO tmps)
 pure (if h:vs.size=1 then vs[0] else .tuple vs)):=by
 unfold results;congr 1
theorem Ml (c:fn.results= #[hl]) (d:cy P n l H hl v1) (h: ∀w,H w→R (.returned v1) w):dS (Fin P n fn R) .ret l H:=λw b a e=>
 ⟨v1,by rw[zy,c];simp[d a w e b],h w b⟩
theorem ik (d:fn.results= #[hl,fg]) (e:cy P n l H hl v1) (f:cy P n l H fg v2) (h: ∀w,H w→R (.returned (.tuple #[v1,v2])) w):dS (Fin P n fn R) .ret l H:=λw b a c=>
 ⟨_,by rw[zy,d];simp[e a w c b,f a w c b],h w b⟩
theorem nn (d:fn.results= #[hl,fg,qZ]) (e:cy P n l H hl v1) (f:cy P n l H fg v2) (g:cy P n l H qZ v3) (h: ∀w,H w→R (.returned (.tuple #[v1,v2,v3])) w):dS (Fin P n fn R) .ret l H:=λw b a c=>
 ⟨_,by rw[zy,d];simp[e a w c b,f a w c b,g a w c b],h w b⟩
end
section
variable {P:Program} {n:Nat} {ops:Array Oper} {Q:cq} {rest:List Oper} {l:Fr} {H:World→Prop} {d:Nat} {ty:TypeId} {pos:String} {a7:Array Edge}
theorem eE {a d:Code} {c:Operand} {t:Bool} (e:ba l c=some (.bool t)) (f:t=true) (h:dc P n a Q l H):dc P n (.cond c a d) Q l H:=
 b1 e (λ_=>h) (λb=>by rw[f] at b;cases b)
theorem fA {d a:Code} {c:Operand} {t:Bool} (e:ba l c=some (.bool t)) (f:t=false) (h:dc P n a Q l H):dc P n (.cond c d a) Q l H:=
 b1 e (λb=>by rw[f] at b;cases b) (λ_=>h)
theorem af.k5 {α:Type} {E:bA α} {b:World} {S:List Nat} {cs:List Chunk} {w:World} (h:af b S cs w) {e g m c:Nat} {L:List α} (d:Has cs (own e E.sz (.slice (some ⟨g,0,none⟩) m c) m (E.all L))) {k:Nat} {a:α} (f:L[k]? = some a) (j:Nat) (u:Value) (i: (E.enc a)[j]? = some u):
 w.cell? (((⟨g,0,none⟩ :Addr).add (k*E.sz)).add j)=some u:=by
 rw[Addr.add_lit,Addr.add_lit];refine h.DW d ?_;rw[dE];exact E.lQ f i
theorem bA.je {α:Type} (E:bA α) {L:List α} {i:Nat} (a':α) (hi:i<L.length):df (E.all L) (i*E.sz) (E.enc a')=E.all (L.set i a'):=by
 have c:i*E.sz+E.sz≤L.length*E.sz:=by
  have:=k1 E.sz (show i+1≤L.length from hi)
  rw[ja] at this
  omega
 rw[Mq.je _ (by rw[E.len,E.dI];exact c),E.len];have d:L=L.take i++L[i]::L.drop (i+1):=by simp
 have a: ∀(x:α) (l:List α),E.all (x::l)=E.enc x++E.all l:=λx l=>by simp[bA.all]
 have b: (E.all (L.take i)).length=i*E.sz:=by rw[E.dI,dl,iG aa]
 have e:E.all L=E.all (L.take i)++(E.enc L[i]++E.all (L.drop (i+1))):=by
  conv=>lhs;rw[d]
  rw[E.all_append,a]
 rw[e,sc b];have ak: (E.all (L.take i)++(E.enc L[i]++E.all (L.drop (i+1)))).drop (i*E.sz+E.sz)=E.all (L.drop (i+1)):=by
  rw[←b,←lJ,List.drop_left,List.drop_left' (E.len _)]
 rw[ak,qN,aw hi,E.all_append,a,ea]
theorem af.k6 {b:World} {S:List Nat} {cs:List Chunk} {w:World} (h:af b S cs w) {g o sz:Nat} {xs vs:List Value} {t:TypeId} (c:Has cs (aD g xs t)) (d: (xs.drop o).take sz=vs) (j:Nat) (u:Value) (a:vs[j]? = some u):w.cell? ((⟨g,o,none⟩ :Addr).add j)=some u:=by
 rw[Addr.add_lit];refine h.eP c ?_;rw[←d,iD] at a
 split at a
 simpa using a
 cases a
theorem D8 {c:Op} {j t:Nat} {e:Bool} (ak:Nat.blt d n=true) (f: (ops[j]?).bind (·.dst)=some t) (g:look l t=some undef)
 (h:az P n ops Q rest ((d,undef)::l) H):az P n ops Q (⟨some d,c,ty,pos,a7,some (j,e)⟩::rest) l H:=by
 intro w i a b;unfold wpList;rw[ag (by simp[Region.wanted,yielded,f,b.val t _ g,undef])];exact h w i _ (b.put (dV ak) _)
end
theorem Rd.at_ {α:Type} {E:bA α} {b:World} {F:Nat→Prop} {A:Option Addr} {n c:Nat} {l:List α} (h:Rd E b F A n c l) {k:Nat} {a:α} (d:l[k]? = some a):
 ∃bY,A=some bY∧F bY.block∧ ∀j u,(E.enc a)[j]? = some u→b.cell? ((bY.add (k*E.sz)).add j)=some u:=by
 have m:=(cK.1 d).1
 obtain⟨bY,e,f,g⟩:=h.cells (by have:=h.len;omega);exact⟨bY,e,f,λj u i=>g k a j u d i⟩
def il {α:Type} (E:bA α) (w:World) (L:List α):Ending→World→Prop:=λe w'=>
 ∃A n c,e= .returned (.slice A n c)∧Ext [] w w'∧Rd E w' (λk=>w.heap.size≤k) A n c L
theorem il.gf {α:Type} {E:bA α} {w w':World} {v:Value} {t m:Nat} {L:List α} (a:Ext [] w w') (h:w'.ownsRow 0 t E.sz v m (E.all L)) (b:L.length=m) (d: ∀g,v.ownBlock=some g→w.heap.size≤g):il E w L (.returned v) w':=by
 obtain⟨A,c,rfl,e⟩:=Rd.gf h b;exact⟨A,m,c,rfl,a,e.dC λk f=>d k f⟩
section
variable {P:Program} {n:Nat} {ops:Array Oper} {Q:cq} {rest:List Oper} {l:Fr} {d:Nat} {ty:TypeId} {pos:String} {a7:Array Edge}
variable {b:World} {S:List Nat} {cs:List Chunk}
theorem D9 (h: ∀w,af b S cs w→az P n ops Q rest l (af w [] [])):az P n ops Q rest l (af b S cs):=λw a=>h w a w (af.start w)
theorem Rd.hI {α:Type} {E:bA α} {w:World} {F:Nat→Prop} {A:Option Addr} {m c:Nat} {xs:List α} (h:Rd E w F A m c xs) (g:0<E.sz):Rd E w (λk=>F k∧k<w.heap.size) A m c xs:=by
 refine⟨h.len,h.cap,h.max,λa=>?_⟩;obtain⟨bY,d,e,b⟩:=h.cells a;refine⟨bY,d,⟨e,?_⟩,b⟩;have f:0<xs.length:=by rw[h.len];exact a
 have i:=E.len xs[0]
 have:=b 0 xs[0] 0 ((E.enc xs[0])[0]'aa) (bE f) (bE _)
 have:=World.block_lt_of_cell? _ _ this
 rwa [block_add,block_add] at this
theorem zz {α:Type} {E:bA α} {L:List α} {args:List Operand} {db:Array TypeId} {f:FuncId} {vs:List Value} (ak:Nat.blt d n=true) (o:ad P f) (p:cI l args=some vs)
 (q: ∀w,af b S cs w→Calls P f vs.toArray w (il E w L))
 (h: ∀g a A m c,af b S cs g→Ext [] g a→af b S cs a→Rd E a (λk=>g.heap.size≤k) A m c L→az P n ops Q rest ((d,.slice A m c)::l) (af a [] [])):
 az P n ops Q (⟨some d,.call ⟨.value (.func f),args.toArray,db⟩,ty,pos,a7,none⟩::rest) l (af b S cs):=by
 refine gT rfl ak o p λw i=>?_
 have:=q w i
 simp only[iA,i8];refine this.mono ?_;rintro e w' ⟨A,m,c,rfl,j,r⟩;exact⟨_,rfl,(h w w' A m c i j (i.keep j) r).at (af.start w')⟩
theorem wP {α:Type} {E:bA α} {L:List α} {args:List Operand} {db:Array TypeId} {f:FuncId} {vs:List Value} (ak:Nat.blt d n=true) (o:ad P f) (p:cI l args=some vs)
 (q: ∀w,af b S cs w→Calls P f vs.toArray w (il E w L))
 (h: ∀g i A m c,af b S cs g→Ext [] g i→af b S cs i→(∀k∈aB cs,k<g.heap.size)→Rd E i (λk=>g.heap.size≤k) A m c L→az P n ops Q rest ((d,.slice A m c)::l) (af i (aB cs) cs)):
 az P n ops Q (⟨some d,.call ⟨.value (.func f),args.toArray,db⟩,ty,pos,a7,none⟩::rest) l (af b S cs):=by
 refine gT rfl ak o p λw a=>?_
 have:=q w a
 simp only[iA,i8];refine this.mono ?_;rintro e w' ⟨A,m,c,rfl,j,r⟩;exact⟨_,rfl,(h w w' A m c a j (a.keep j) (λk s=>a.lt s) r).at (a.keep j).oC⟩
end
end
def q0 (a:Fr→World→Prop):cq
 | .normal,l,w=>a l w
 | _,_,_=>False
def wQ (os:List Oper) (i j:Nat):Bool:=match os[i]? with
 | some o=>uD o j
 | none=>false
def uG (os:List Oper) (i:Nat):Nat→List Nat
 | 0=>[]
 | k+1=>
  let p:=uG os i k
  let j:=i - 1 - k
  if Nat.blt k i && (wQ os i j || p.any (λm=>wQ os m j)) then j::p else p
theorem Mm {os:List Oper} {D:Nat→Bool} {i:Nat} (l: ∀(j:Nat) (o:Oper),os[j]? = some o→D j=true→ ∀e∈o.after,Region.binds .any e=true→D e.on=true)
 (hi: ∀(o:Oper),os[i]? = some o→ ∀e∈o.after,Region.binds .any e=true→D e.on=true): ∀(k:Nat),∀j∈uG os i k,D j=true:=by
 intro k;induction k with
 | zero=>intro j a;simp[uG] at a
 | succ k c=>
  intro j a;unfold uG at a
  simp only at a
  split at a
  rename_i h;rcases e1.1 a with rfl | a
  simp only[d4,mx,List.any_eq_true] at h
  rcases h.2 with h | ⟨m,n,h⟩
  unfold wQ at h
  cases b:os[i]? with
  | none=>rw[b] at h;cases h
  | some o=>
   rw[b] at h
   obtain⟨e,d,f,g⟩:=wL h;rw[←g];exact hi o b e d f
  unfold wQ at h
  cases b:os[m]? with
  | none=>rw[b] at h;cases h
  | some o=>
   rw[b] at h
   obtain⟨e,d,f,g⟩:=wL h;rw[←g];exact l m o b (c m n) e d f
  exact c j a;exact c j a
end Go.Proofs.YtlgnfdodnhokjaaGreatDoor.Mq
