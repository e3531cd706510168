/- part 4 of the proof -/
import Derived.Test.YtnfmgboendlmaaaGreatDoorQ03
import Derived.Laws.MakeOwn
import Derived.Laws.StructEq
set_option linter.all false
namespace Go.Proofs.YtnfmgboendlmaaaGreatDoor.Mq
open RowKit
variable {P:Program}{n d:Nat}{ops:Array Oper}{Q:cN}{rest:List Oper}{l:Fr}{ty:TypeId}{pos:String}{bf:Array Edge}{b:World}{S:List Nat}{cs:List Chunk}
variable {i:Array TypeId}{u:Bool}{B:Chunk}{D I:Code}{M:Fn}{N:FuncId}{J:Int}{z:List Chunk}{Z:List Oper}{h:List Operand}{G a:List Value}{A F c k t v:Nat}{p:Nat->Prop}{V:Op}{E g:Operand}{f:Option Addr}{K:Option Operand}{e:Type}{O:TypeDesc}{r:TypeId}{T:TypeInfo}{s:Value}{j:World}(U:Array Value)(X:Fr->World->Prop)(Y:List Oper)(m C:Nat)(w:List Value)(L:Value){q:List e}{o:b1 e}
def run_append_nil{w:World}{b ty :Nat}{c:Nat}(d:dD P b k t v a)(f:w.ownsRow 0 k t s A G):
 (Builtin.append_ #[b,b] ty #[s,.slice none 0 c]).run P w= .ok s w:=by
 obtain⟨h,i,e,j,l,m,n⟩:=d.inf;rcases f.2 with ⟨rfl,rfl⟩ | ⟨o,p,q,rfl,_,_,g,_⟩
 simp[Builtin.append_,run_underlying d.gf,sizeOf,typeInfo,e,Builtin.lenOf,Builtin.firstCells]
 simp[Builtin.append_,run_underlying d.gf,sizeOf,typeInfo,e,Builtin.lenOf,Builtin.firstCells,g,storeCells]
def qj{E:b1 e}{D:Operand}{xs:List Value}{q:Nat}{src:List e}{F:Nat->Prop}{cs':Value->List Chunk}(p:dD P c k E.ax t a)(Ze:Nat.blt d n=true)
 (Zf:bi l g=some s) (Zg:bi l D=some (.slice f A q)) (r: ∀h,bC cs (own k E.ax s v xs) (own k E.ax h (v+A)<|xs++E.all src)<|cs' h)
 (Zh: ∀j,ag b S cs j->Rd E j F f A q src) (K:v+A<=maxLen) (L: (v+A)*t<=140737488355328)
 (Zi: ∀h,(∀u,h.ownBlock=some u->s.ownBlock=some u\/(b.heap.size<=u/\ ∀A∈aK cs,A<u))->aM P n ops Q rest ((d,h)::l) (ag b S<|cs' h)):
 aM P n ops Q (⟨some d,.call ⟨.builtin .append,#[g,D],#[c,c]⟩,ty,pos,bf,none⟩::rest) l (ag b S cs):=by
 have Zj:=p
 obtain⟨M,N,O,R,T,U,V⟩:=p.inf;refine iv Ze λZk j W w=>?_
 have G:j.ownsRow 0 k E.ax s v xs:=w.has (r s).has
 have H:=Zh j w
 have I: ∀(h:Value)(m:World),(Builtin.append_ #[c,c] ty #[s,.slice f A q]).run P j= .ok h m->m.ownsRow 0 k E.ax h (v+A) (xs++E.all src)->j.grownBy m s.ownBlock->(h.ownBlock=s.ownBlock\/h.ownBlock=some j.heap.size)->
  ∃s m,(execOp Zk ⟨some d,.call ⟨.builtin .append,#[g,D],#[c,c]⟩,ty,pos,bf,none⟩).run P j= .ok (.value s) m/\aM P n ops Q rest ((d,s)::l) (λg=>g=m):=by
  intro h m x y z i;refine⟨h,m,?_,(Zi h ?_).at<|w.iM (r h) (Ext.wz z) y ?_ ?_⟩;simp[execOp,resolve,invoke,builtin,W g _ Zf,W D _ Zg,x]
  intro u X;rcases i with i | i
  exact .inl<|i▸X;rw[X] at i
  simp only[ek] at i
  subst i;exact .inr ⟨w.ext.size,λA B=>w.lt B⟩;intro Y C;show Y∈s.ownBlock.toList\/_
  replace C:Y∈h.ownBlock.toList:=C
  rcases i with i | i
  exact .inl<|i▸C;rw[i] at C
  simp at C
  exact .inr aa;show h.ownBlock.toList.Nodup
  cases h.ownBlock <;> simp
 rcases hV A with B | B
 subst B;have Zl:src=[]:=jX H.len
 subst Zl;cases f with
 | none=>
  have Zm:=run_append_nil (ty:=ty) (c:=q) Zj G
  exact I s j Zm (by simpa [b1.all] using G) ⟨rfl,rfl,rfl,cC _,λ_ _ _=>rfl⟩<|.inl rfl
 | some Zn=>
  obtain⟨h,m,x,y,z,_,i⟩:=run_append_own_at (P:=P) j 0 c ty k M N E.ax t p.gf O R U V (by rw[<-nx,T,p.len]) p.pos s v xs G Zn 0 q [] au au au K L<|b4 _;exact I h m x (by simpa [b1.all] using y) z i
 obtain⟨Zo,rfl,_,Zp⟩:=H.cells B;obtain⟨h,m,x,y,z,_,i⟩:=run_append_own_at (P:=P) j 0 c ty k M N E.ax t p.gf O R U V (by rw[<-nx,T,p.len]) p.pos s v xs G Zo A q (E.all src) (by rw[E.eD,H.len])
  (λo Zu r=>by
   have Zq:o<src.length*E.ax:=by
    have:=(cH.1 r).1
    rwa [E.eD] at this
   have Z:0<E.ax:=p.pos
   have Zr:o/E.ax<src.length:=(Nat.div_lt_iff_lt_mul Z).2 Zq
   have Zs:=jA o Z
   have Zt:=Nat.div_add_mod o E.ax
   obtain⟨a0,Za⟩ : ∃a0,src[o/E.ax]? = some a0:=⟨src[o/E.ax],bD Zr⟩;obtain⟨Zb,Zc⟩ : ∃Zb,(E.enc a0)[o%E.ax]? = some Zb:=⟨(E.enc a0)[o%E.ax]'(by rw[E.len];exact Zs),bD _⟩;have J:=E.nE Za Zc
   have Zd:o/E.ax*E.ax+o%E.ax=o:=by rw[rn];exact Zt
   rw[Zd,r] at J
   simp only[ek] at J
   subst J;have:=Zp _ _ _ _ Za Zc
   rw[add_add,Zd] at this
   exact this) (E.yF src) K L (b4 _)
 exact I h m x y z i
def NN(a b:Nat)(c:w.length=b):madeCells w.toArray (a*b)=(gg w a).toArray:=by
 subst c;exact FX w a
def sT{ax:Nat}(f:dD P c k ax t a)(v:Nat.blt d n=true)(w:bi l g=some (ad J))(x:bi l E=some (ad J))(y:J=(m:Int))(o:m<=maxLen)(L:t*m<=281474976710656)
 (z: ∀h,b.heap.size<=h->(∀p∈aK cs,p<h)->aM P n ops Q rest ((d,.slice (some ⟨h,0,none⟩) m m)::l) (ag b S<|own k ax (.slice (some ⟨h,0,none⟩) m m) m (gg a m)::cs)):
 aM P n ops Q (⟨some d,.makeSlice c g E,ty,pos,bf,none⟩::rest) l (ag b S cs):=by
 subst y;obtain⟨q,r,A,B,C,D,F⟩:=f.inf;refine iv v λM e s i=>?_
 have G: (q.bytes:Int)*(m:Int)<=281474976710656:=by
  rw[F,<-Int.natCast_mul];omega
 have H: (m:Int)<=9223372036854775807:=by simp only[maxLen] at o;omega
 have u:=run_make (P:=P) e c k q r f.gf A B .i64 .i64 m m aa (oj _) G H
 have I:r.cells=a.toArray:=by rw[<-C]
 simp only[gw,D,I,NN a m ax f.len] at u
 refine⟨.slice (some ⟨e.heap.size,0,none⟩) m m,e.alloc<|.cells (gg a m).toArray k,?_,(z e.heap.size i.ext.size λp K=>i.lt K).at<|i.add (Ext.alloc _ _ _) ?_ (by simp[own,Value.ownBlock])<|by simp[own,Value.ownBlock]⟩;simp[execOp,s g _ w,s E _ x,u]
 have j: (gg a m).length=m*ax:=by rw[Bw,f.len]
 exact⟨j,.inr ⟨e.heap.size,m,(gg a m).toArray,rfl,b4 _,heap_alloc_new e _,cC _,o,by simpa using j,by simp[<-j]⟩⟩
def NO{w:World}{b :Nat}{A:Option Addr}{m c:Nat}{lo hi:Option Value}{p q:Nat}(d:dD P b k t v a)(e:lo=some (ad (p:Int))\/lo=none/\p=0)(f:hi=some (ad (q:Int))\/hi=none/\q=m)(g:p<=q)(h:q<=c):
 (Instr.slice b (.slice A m c) lo hi none).run P w= .ok (.slice (if c=p then A else A.map (·.add (p*t))) (q - p)<|c - p) w:=by
 obtain⟨l,n,i,o,r,j,s⟩:=d.inf;unfold Instr.slice Instr.sliceBounds;rcases e with rfl | ⟨rfl,rfl⟩ <;> rcases f with rfl | ⟨rfl,rfl⟩ <;>
  simp[run_underlying d.gf,Instr.sliceBound,asIntOf,run_sizeOf i,j,g,h]
def gp{H:World->Prop}{h:Option Operand}(p:dD P c k t v a)(r:Nat.blt d n=true)(s:bi l g=some (.slice f A F))
 (u: (∃b e,K=some b/\bi l b=some (ad e)/\e=(m:Int))\/K=none/\m=0) (w: (∃b e,h=some b/\bi l b=some (ad e)/\e=(C:Int))\/h=none/\C=A) (x:m<=C) (y:C<=F)
 (z:aM P n ops Q rest ((d,.slice (if F=m then f else f.map (·.add (m*t))) (C - m)<|F - m)::l) H):aM P n ops Q (⟨some d,.slice c g K h none,ty,pos,bf,none⟩::rest) l H:=by
 refine dB _ r (λq B i=>?_) z;have:=NO (w:=B) (A:=f) (m:=A) (c:=F) (lo:=K.map q) (hi:=h.map q) (p:=m) (q:=C) p
  (by
   rcases u with ⟨b,e,rfl,j,rfl⟩ | ⟨rfl,o⟩
   left;simp[i b _ j]
   right;exact⟨rfl,o⟩)
  (by
   rcases w with ⟨b,e,rfl,j,rfl⟩ | ⟨rfl,o⟩
   left;simp[i b _ j]
   right;exact⟨rfl,o⟩) x y
 simp[execOp,i g _ s,Instr.sliceAt,run_underlying p.gf,this]
def Rd.cut{h:Nat->Prop}{i:List e}(a:Rd o j h f c k i){p q:Nat}(u:p<=q)(v:q<=c):
 Rd o j h (if k=p then f else f.map (·.add (p*o.ax))) (q - p) (k - p) ((i.take q).drop p):=by
 have w:=a.len
 have x:=a.cap
 refine⟨by simp;omega,aa,by have:=a.max;omega,λy=>?_⟩;obtain⟨l,rfl,m,n⟩:=a.cells aa;rw[ai aa];refine⟨l.add<|p*o.ax,rfl,by rw[block_add];exact m,λd r g s b t=>?_⟩;rw[ja,iu] at b
 split at b
 have:=n (p+d) r g s b t
 rw[add_add] at this
 rw[add_add,add_add,show p*o.ax+(d*o.ax+g)=(p+d)*o.ax+g by rw[kw];omega];exact this;cases b
def kC{xs:List Value}: ∀(b:Nat),b+a.length<=xs.length->dJ xs b a=xs.take b++a++xs.drop (b+a.length):=by
 induction a generalizing xs with
 | nil=>intro b c;simp[dJ]
 | cons d a e=>
  intro b c;simp only[dV] at c
  have f:=e (xs:=xs.set b d) (b+1) (by simp;omega)
  simp only[dJ];rw[f,hA,oo aa];simp only[rp,List.take_set_of_le<|cC b,List.drop_set_of_lt<|show b<b+1+a.length by omega,dV];rw[show b+(a.length+1)=b+1+a.length by omega];simp
def F3{E:b1 e}{m o:Operand}{p:Nat}{g :Nat}{xs:List Value}{k q:Nat}{src:List e}{F:Nat->Prop}(r:dD P c p E.ax t a)(K:Nat.blt d n=true)
 (L:bi l m=some (.slice (some ⟨g,0,none⟩) v A)) (M:bi l o=some (.slice f k q)) (i:bC cs (own p E.ax (.slice (some ⟨g,0,none⟩) v A) v xs) (own p E.ax (.slice (some ⟨g,0,none⟩) v A) v<|E.all src++xs.drop (k*E.ax)) z)
 (N: ∀w,ag b S cs w->Rd E w F f k q src) (y:k<=v)
 (O:aM P n ops Q rest ((d,ad (k:Int))::l) (ag b S z)):
 aM P n ops Q (⟨some d,.call ⟨.builtin .copy,#[m,o],#[c,c]⟩,ty,pos,bf,none⟩::rest) l (ag b S cs):=by
 obtain⟨Zi,Zj,R,Zk,Zl,T,Zm⟩:=r.inf;refine iv K λZn w B s=>?_
 have U:=s.has i.has
 have u:=N w s
 have j: (E.all src).length=k*E.ax:=by rw[E.eD,u.len]
 have Zo:k*E.ax<=v*E.ax:=mB _ y
 have C:=U.1
 have V:dJ xs 0 (E.all src)=E.all src++xs.drop (k*E.ax):=by
  rw[kC 0 (by rw[j,C];omega),j];simp
 rw[<-V] at i
 obtain⟨W,X,Y⟩:=s.ux (P:=P) (xs:=xs) (o:=0) (vs:=E.all src) (by rw[j,C];omega) (E.yF src) i;have Z:Nat.min k v=k:=jZ y
 have Za: (Builtin.firstCells E.ax k<|.slice f k q).run P w= .ok (E.all src).toArray w:=by
  rcases hV k with ar | ar
  subst ar;have Zb:src=[]:=jX u.len
  subst Zb;cases f <;> simp[Builtin.firstCells,b1.all,loadCells,loadCellsFrom]
  obtain⟨Zc,rfl,_,Zd⟩:=u.cells ar;have:=run_loadCellsFrom (P:=P) (w:=w) (p:=Zc) (E.all src) 0 #[] (λh Zp i=>by
   have Ze:h<src.length*E.ax:=by
    have:=(cH.1 i).1
    rwa [E.eD] at this
   have D:0<E.ax:=r.pos
   have Zf:h/E.ax<src.length:=(Nat.div_lt_iff_lt_mul D).2 Ze
   have Zg:=jA h D
   have Zh:=Nat.div_add_mod h E.ax
   obtain⟨a0,G⟩ : ∃a0,src[h/E.ax]? = some a0:=⟨src[h/E.ax],bD Zf⟩;obtain⟨H,I⟩ : ∃H,(E.enc a0)[h%E.ax]? = some H:=⟨(E.enc a0)[h%E.ax]'(by rw[E.len];exact Zg),bD _⟩;have x:=E.nE G I
   have J:h/E.ax*E.ax+h%E.ax=h:=by rw[rn];exact Zh
   rw[J,i] at x
   simp only[ek] at x
   subst x;have:=Zd _ _ _ _ G I
   rw[add_add,J] at this
   rw[ev];exact this)
  rw[j] at this
  simpa [Builtin.firstCells,loadCells] using this
 refine⟨ad (k:Int),W,?_,O.at Y⟩;simp[execOp,resolve,invoke,builtin,B m _ L,B o _ M,Builtin.copy_,run_underlying r.gf,Builtin.lenOf,run_sizeOf R,T,Z,Za,goInt,X]
def sU{f:FuncId}{v:Value}{c c':Chunk}(k:bC cs c c' z)(m:c'.cT=c.cT)
 (p: ∀e,ag b S cs e->Calls P f a.toArray e λo g=>o= .returned v/\Ext c.cT e g/\c'.pred g)
 (q:aM P n ops Q rest ((d,v)::l) (ag b S z)) (hargs:db l h=some a:=by exact rfl) (r:Nat.blt d n=true:=by exact rfl) (s:dX P f:=by exact cL):
 aM P n ops Q (⟨some d,.call ⟨.value<|.func f,h.toArray,i⟩,ty,pos,bf,none⟩::rest) l (ag b S cs):=by
 refine iw rfl (hd:=r) (hcb:=s) (hargs:=hargs) λe j=>?_
 have:=p e j
 simp only[jV,kr];refine this.mono ?_;rintro o g ⟨rfl,t,u⟩;refine⟨v,rfl,q.at<|j.iM k t u (λx w=> .inl<|m▸w) ?_⟩;rw[m];obtain⟨y,A,rfl,_⟩:=k.split;have:=j.nodup
 rw[jb,gy,gO,gO] at this
 exact this.2.1.1
def ag.NP{w:World}(a:B.pred w)(b:B.cT.Nodup):ag w B.cT [B] w:=⟨Ext.refl _ _,by simpa [aK] using b,by simpa using a,λd c _=>by simpa [aK] using c⟩
def ag.sV{w b:World}(a:w=b)(c:B.pred b)(d:B.cT.Nodup):ag b B.cT [B] w:=by
 subst a;exact ag.NP c d
def wF(a:Nat)(b:List Value): (own m C L a b).cT.Nodup:=by
 show L.ownBlock.toList.Nodup
 cases L.ownBlock <;> simp
def yK{first:List Operand}{us vs:List Value}(c:Nat.blt d n=true)(e:db l first=some us)(f:db l h=some vs)
 (g:aM P n ops Q rest ((d,.func M us.toArray vs.toArray)::l) (ag b S cs)):aM P n ops Q (⟨some d,.makeFunc M first.toArray h.toArray,ty,pos,bf,none⟩::rest) l (ag b S cs):=
 dB _ c (λi j a=>by simp[execOp,Instr.makeFunc,a.list _ _ e,a.list _ _ f]) g
def ix{first cap:List Value}{v:Value}(hd:Nat.blt d n=true)(k:bi l g=some (.func (.func N) first.toArray cap.toArray))(hcb:dX P N)(hargs:db l h=some a)
 (m: ∀c,ag b S cs c->Calls P N (first++a++cap).toArray c λe f=>e= .returned v/\Ext [] c f)
 (o:aM P n ops Q rest ((d,v)::l) (ag b S cs)):
 aM P n ops Q (⟨some d,.call ⟨.value g,h.toArray,i⟩,ty,pos,bf,none⟩::rest) l (ag b S cs):=by
 refine iw k (hd:=hd) (hcb:=hcb) (hargs:=hargs) λc j=>?_
 have:=m c j
 simp only[List.append_toArray];refine this.mono ?_;rintro e f ⟨rfl,p⟩;exact⟨v,rfl,o.at<|j.keep p⟩
def rA:Value->Value->Bool
 | .int _ a,.int _ b=>decide<|a=b
 | .bool a,.bool b=>a == b
 | .string a,.string b=>decide<|a.data.toList=b.data.toList
 | _,_=>false
def eqv:List Value->List Value->Bool
 | [],[]=>true
 | x::xs,y::ys=>rA x y && eqv xs ys
 | _,_=>false
def F4: ∀(a b c d:List Value),a.length=c.length->eqv (a++b) (c++d)=(eqv a c && eqv b d)
 | [],b,[],d,_=>by simp[eqv]
 | x::a,b,y::c,d,e=>by simp[eqv,F4 a b c d<|by simpa using e,Bool.and_assoc]
 | [],_,_::_,_,e=>by simp at e
 | _::_,_,[],_,e=>by simp at e
def kD(P:Program)(a:TypeId):Bool:=match P.underlying a with
 | some d=> !j0 d
 | none=>false
def lZ(P:Program)(a:TypeId):Nat:=match P.info? a with
 | some b=>b.size
 | none=>0
def hZ(P:Program)(a:TypeId)(xs:List Value):Value:=match kD P a with
 | true=> .agg xs.toArray
 | false=>xs.headD undef
def rB(P:Program)(a:TypeId->List Value->List Value->Bool):List Field->Nat->List Value->List Value->Bool
 | [],_,[],[]=>true
 | f::c,b,xs,ys=>(f.name != "_") && Nat.beq f.offset b && ((P.info? f.type).isSome && (kD P f.type || Nat.beq (lZ P f.type) 1)) && Nat.beq (xs.take<|lZ P f.type).length (lZ P f.type) && Nat.beq (ys.take<|lZ P f.type).length (lZ P f.type) &&
  a f.type (xs.take<|lZ P f.type) (ys.take<|lZ P f.type) && rB P a c (b+lZ P f.type) (xs.drop<|lZ P f.type) (ys.drop<|lZ P f.type)
 | _,_,_,_=>false
def alike(P:Program):Nat->TypeId->List Value->List Value->Bool
 | 0,_,_,_=>false
 | d+1,a,xs,ys=>match P.underlying a with
  | some (.int _)=>match xs,ys with
   | [.int b _],[.int c _]=>decide<|b=c
   | _,_=>false
  | some .bool=>match xs,ys with
   | [.bool _],[.bool _]=>true
   | _,_=>false
  | some .string=>match xs,ys with
   | [.string _],[.string _]=>true
   | _,_=>false
  | some (.struct e)=> !P.stoodInHeld a && rB P (alike P d) e.toList 0 xs ys
  | _=>false
def uz{P:Program}{w:World}{cs:List Value}{off:Nat}(a:P.underlying r=some O)(d:P.info? r=some T)(e:j0 O=true->T.size=1)(c: ((cs.drop off).take T.size).length=T.size):
 (part r cs.toArray off).run P w= .ok (hZ P r<|(cs.drop off).take T.size) w:=by
 unfold part hZ kD;rw[a];cases b:j0 O with
 | true=>
  have f:=e b
  rw[f] at c ⊢
  have g:off<cs.length:=by simp at c;omega
  simp[qg a,b,bD g,List.head?_take,List.head?_drop,List.headD_eq_head?_getD]
 | false=>
  simp[qg a,b,run_sizeOf d]
def F5{P:Program}: ∀(d:Nat)(h:TypeId)(xs ys:List Value)(w:World),alike P d h xs ys=true->
 ∀i,(Op.equalIn (d+i) h (hZ P h xs)<|hZ P h ys).run P w= .ok (eqv xs ys) w
 | 0,_,_,_,_,a,_=>by simp[alike] at a
 | d+1,h,xs,ys,w,a,i=>by
  have n:d+1+i=(d+i)+1:=by omega
  rw[n];unfold alike at a
  split at a
  rename_i Zd e;split at a
  rename_i J q K b;have L:J=K:=by simpa using a
  subst L;simp[hZ,kD,e,j0,run_equalIn_int w _ _ _ _ _ _ e,eqv,rA,FM]
  cases a
  rename_i e;split at a
  simp[hZ,kD,e,j0,Op.equalIn,run_underlying e,eqv,rA]
  cases a
  rename_i e;split at a
  rename_i q b;have M: (q.toList == b.toList)=decide (q.data.toList=b.data.toList):=by
   rw[ByteArray.toList_eq,ByteArray.toList_eq,Bool.eq_iff_iff];simp only[beq_iff_eq,eQ]
  simp only[hZ,kD,e,j0,Bool.not_true,List.headD_cons,run_equalIn_string w _ _ _ _ e,eqv,rA,M,rh];cases a
  rename_i y e;simp only[dK,p4] at a
  obtain⟨N,O⟩:=a;have z: ∀r,hZ P h r= .agg r.toArray:=λr=>by simp[hZ,kD,e,j0]
  rw[z,z];have A:P.fieldsOf h=y:=by simp[Program.fieldsOf,e]
  have B:=run_equalIn_struct (P:=P) w (d+i) h xs.toArray ys.toArray (by rw[A];exact e) N
  rw[A] at B
  rw[B];have Q: ∀(l:List Field)(off:Nat)(f g:List Value),f=xs.drop off->g=ys.drop off->rB P (alike P d) l off f g=true->(Op.eqFields (d+i) xs.toArray ys.toArray l).run P w= .ok (eqv f g) w:=by
   intro l;induction l with
   | nil=>
    intro off f g _ _ a;cases f <;> cases g <;> simp[rB] at a
    simp[Op.eqFields,eqv]
   | cons j l R=>
    intro off f g s t a;simp only[rB,dK] at a
    obtain⟨⟨⟨⟨⟨⟨S,T⟩,u⟩,U⟩,V⟩,k⟩,C⟩:=a;have W:j.offset=off:=gX T
    have v:=gX U
    have x:=gX V
    cases p:P.info? j.type with
    | none=>rw[p] at u;cases u.1
    | some c=>
     have D:lZ P j.type=c.size:=by simp[lZ,p]
     rw[D] at v x k C
     have X: ∃o,P.underlying j.type=some o:=by
      cases d with
      | zero=>simp[alike] at k
      | succ d=>
       unfold alike at k
       cases Y:P.underlying j.type with
       | none=>rw[Y] at k;cases k
       | some o=>exact⟨o,rfl⟩
     obtain⟨o,n⟩:=X;have E:j0 o=true->c.size=1:=λZ=>by
      rw[<-D];have m:=u.2
      rw[ny] at m
      rcases m with m | m
      simp[kD,n,Z] at m
      exact gX m
     have F:=uz (P:=P) (w:=w) (cs:=xs) (off:=off) n p E (by rw[<-s];exact v)
     have G:=uz (P:=P) (w:=w) (cs:=ys) (off:=off) n p E (by rw[<-t];exact x)
     rw[<-s] at F
     rw[<-t] at G
     have Za:=F5 d j.type (f.take c.size) (g.take c.size) w k i
     have Zb:=R (off+c.size) (f.drop c.size) (g.drop c.size) (by rw[s,ls]) (by rw[t,ls]) C
     have H:eqv f g=(eqv (f.take c.size) (g.take c.size) && eqv (f.drop c.size) (g.drop c.size)):=by
      rw[<-F4 _ _ _ _ (by rw[v,x]),iJ,iJ]
     have Zc:j.name≠ "_":=by simpa using S
     unfold Op.eqFields;rw[aB Zc,W];simp only[Sem.run_bind,F,G,Result.andThen_ok,Za];cases I:eqv (f.take c.size) (g.take c.size) with
     | true=>simp[Zb,H,I]
     | false=>simp[H,I]
  exact Q y.toList 0 xs ys au au O;cases a
class oz (P:Program) (t:TypeId):Prop where
 agg:kD P t=true
 guard:P.eqGuardType P.depth t=false
section
variable {H:World->Prop}
variable {cS et:TypeId}{x y:Operand}{xs ys:List Value}
def F6{w:World}(c:oz P cS)(d:alike P 50 cS xs ys=true): (Op.equalIn 10000 cS (.agg xs.toArray)<|.agg ys.toArray).run P w= .ok (eqv xs ys) w:=by
 have:=F5 50 cS xs ys w d 9950
 have b: ∀a,hZ P cS a= .agg a.toArray:=λa=>by simp[hZ,c.agg]
 rw[b,b] at this
 exact this
def rC{r:Bool}(a:oz P cS)(f:Nat.blt d n=true)(g:bi l x=some (.agg xs.toArray))(h:bi l y=some (.agg ys.toArray))(i:alike P 50 cS xs ys=true)(j:eqv xs ys=r)
 (k:aM P n ops Q rest ((d,.bool r)::l) H):aM P n ops Q (⟨some d,.binOp .eql cS x y et,ty,pos,bf,none⟩::rest) l H:=by
 refine dB _ f (λo b c=>?_) k;have m:=run_eqGuard_agg (P:=P) b .eql cS x y xs.toArray ys.toArray a.guard
 have e:=run_eql_struct (P:=P) b cS xs.toArray ys.toArray
 rw[F6 a i] at e
 simp only[execOp,c x _ g,c y _ h];simp only[Sem.run_bind,m,Result.andThen_ok,e,Sem.run_pure,j]
end
def yL :ResultVar->Sem Value
 | .tmp a=>pure<|U.getD a undef
 | .cell b a=>do loadVar a (<-asAddr (U.getD b undef))
def c_(P:Program)(n:Nat)(l:Fr)(H:World->Prop)(c:ResultVar)(d:Value):Prop:= ∀b a,hn n l b->H a->(yL b.tmps c).run P a= .ok d a
section
variable {H:World->Prop}
def c_.tmp{v:Value}(a:look l c=some v):c_ P n l H (.tmp c) v:=λd e b _=>by
 simp[yL,k5,b.val c v a]
def c_.fx{b:World}{S:List Nat}{cs:List Chunk}{xs:List Value}(e:de P k t a)(f:look l c=some (.pointer<|some ⟨v,A,none⟩))(g:Has cs (aG v xs r))(h: (xs.drop A).take t=G)(i:G.length=t):
 c_ P n l (ag b S cs) (.cell c k) (.agg G.toArray):=λw j m o=>by
 obtain⟨x,p,q⟩:=e.gf;obtain⟨y,s,_,u⟩:=e.inf;have:=run_loadCellsFrom (P:=P) (w:=j) (p:=⟨v,A,none⟩) G 0 #[] (λz B d=>by
  rw[ev,Addr.add_lit];refine o.e8 g ?_;rw[<-h,iu] at d
  split at d
  simpa using d
  cases d)
 simp[yL,k5,m.val c _ f,asAddr,loadVar,qg p,q,run_sizeOf s,u,loadCells,<-i,this]
variable {fn:Func}{R:Ending->World->Prop}{iO gq sW wG:ResultVar}{v1 v2 v3 v4:Value}
def BE(fn:Func)(b:Array Value):results fn b=(do
 let a <-fn.results.mapM (yL b)
 pure (if c:a.size=1 then a[0] else .tuple a)):=by
 unfold results;congr 1
def NQ(c:fn.results= #[iO])(d:c_ P n l H iO v1)(e: ∀a,H a->R (.returned v1) a):eK (Fin P n fn R) .ret l H:=λa b f g=>
 ⟨v1,by rw[BE,c];simp[d f a g b],e a b⟩
def iy(e:fn.results= #[iO,gq])(f:c_ P n l H iO v1)(g:c_ P n l H gq v2)(h: ∀a,H a->R (.returned<|.tuple #[v1,v2]) a):eK (Fin P n fn R) .ret l H:=λa b c d=>
 ⟨_,by rw[BE,e];simp[f c a d b,g c a d b],h a b⟩
def pe(e:fn.results= #[iO,gq,sW])(f:c_ P n l H iO v1)(g:c_ P n l H gq v2)(h:c_ P n l H sW v3)(i: ∀a,H a->R (.returned<|.tuple #[v1,v2,v3]) a):eK (Fin P n fn R) .ret l H:=λa b c d=>
 ⟨_,by rw[BE,e];simp[f c a d b,g c a d b,h c a d b],i a b⟩
end
section
variable {H:World->Prop}
def e_(b:bi l g=some (.bool u))(c:u=true)(d:dA P n D Q l H):dA P n (.cond g D I) Q l H:=
 cD b (λ_=>d) (λa=>by rw[c] at a;cases a)
def ff(b:bi l g=some (.bool u))(c:u=false)(d:dA P n I Q l H):dA P n (.cond g D I) Q l H:=
 cD b (λa=>by rw[c] at a;cases a) λ_=>d
def ag.mH{a:Type}{E:b1 a}{b:World}{S:List Nat}{cs:List Chunk}(i:ag b S cs j){e g m c:Nat}{L:List a}(k:Has cs (own e E.ax (.slice (some ⟨g,0,none⟩) m c) m<|E.all L)){d:Nat}{f:a}(l:L[d]? = some f)(h:Nat)(u:Value)(n: (E.enc f)[h]? = some u):
 j.cell? (((⟨g,0,none⟩ :Addr).add<|d*E.ax).add h)=some u:=by
 rw[Addr.add_lit,Addr.add_lit];refine i.FT k ?_;rw[ev];exact E.nE l n
def b1.kC(a:b1 e){L:List e}{i:Nat}(b:e)(c:i<L.length):dJ (a.all L) (i*a.ax) (a.enc b)=a.all (L.set i b):=by
 have g:i*a.ax+a.ax<=L.length*a.ax:=by
  have:=mB a.ax<|show i+1<=L.length from c
  rw[kw] at this
  omega
 rw[Mq.kC _ (by rw[a.len,a.eD];exact g),a.len];have h:L=L.take i++L[i]::L.drop (i+1):=by simp
 have d: ∀(x:e)(l:List e),a.all (x::l)=a.enc x++a.all l:=λx l=>by simp[b1.all]
 have f: (a.all<|L.take i).length=i*a.ax:=by rw[a.eD,dR,jZ aa]
 have j:a.all L=a.all (L.take i)++(a.enc L[i]++a.all (L.drop<|i+1)):=by
  conv=>lhs;rw[h]
  rw[a.all_append,d]
 rw[j,List.take_left' f];have k: (a.all (L.take i)++(a.enc L[i]++a.all (L.drop<|i+1))).drop (i*a.ax+a.ax)=a.all (L.drop<|i+1):=by
  rw[<-f,<-ls,List.drop_left,List.drop_left'<|a.len _]
 rw[k,sH,aB c,a.all_append,d,ec]
def ag.mI{b:World}{S:List Nat}{cs:List Chunk}(f:ag b S cs j){o sz:Nat}{xs:List Value}(g:Has cs (aG c xs r))(h: (xs.drop o).take sz=a)(e:Nat)(u:Value)(d:a[e]? = some u):j.cell? ((⟨c,o,none⟩ :Addr).add e)=some u:=by
 rw[Addr.add_lit];refine f.e8 g ?_;rw[<-h,iu] at d
 split at d
 simpa using d
 cases d
def F7(b:Nat.blt d n=true)(e: (ops[c]?).bind (·.dst)=some k)(f:look l k=some undef)
 (g:aM P n ops Q rest ((d,undef)::l) H):aM P n ops Q (⟨some d,V,ty,pos,bf,some (c,u)⟩::rest) l H:=by
 intro h i j a;unfold wpList;rw[ai (by simp[Region.wanted,yielded,e,a.val k _ f,undef])];exact g h i _<|a.put (ej b) _
end
def Rd.at_{b:World}{n:Nat}{l:List e}(h:Rd o b p f n c l){k:Nat}{g:e}(i:l[k]? = some g):
 ∃a,f=some a/\p a.block/\ ∀d u,(o.enc g)[d]? = some u->b.cell? ((a.add<|k*o.ax).add d)=some u:=by
 have s:=(cH.1 i).1
 obtain⟨a,j,m,q⟩:=h.cells (by have:=h.len;omega);exact⟨a,j,m,λd u r=>q k g d u i r⟩
def jC(f:b1 e)(a:World)(g:List e):Ending->World->Prop:=λh b=>
 ∃c n d,h= .returned (.slice c n d)/\Ext [] a b/\Rd f b (λi=>a.heap.size<=i) c n d g
def jC.ho{E:b1 e}{a:World}(d:Ext [] j a)(f:a.ownsRow 0 c E.ax s k (E.all q))(g:q.length=k)(h: ∀b,s.ownBlock=some b->j.heap.size<=b):jC E j q (.returned s) a:=by
 obtain⟨i,l,rfl,m⟩:=Rd.ho f g;exact⟨i,k,l,rfl,d,m.d8 λn o=>h n o⟩
def F8(c: ∀a,ag b S cs a->aM P n ops Q rest l (ag a [] [])):aM P n ops Q rest l (ag b S cs):=λa d=>c a d a<|ag.start a
def Rd.iz{xs:List e}(a:Rd o j p f c k xs)(n:0<o.ax):Rd o j (λb=>p b/\b<j.heap.size) f c k xs:=by
 refine⟨a.len,a.cap,a.max,λd=>?_⟩;obtain⟨h,i,l,g⟩:=a.cells d;refine⟨h,i,⟨l,?_⟩,g⟩;have m:0<xs.length:=by rw[a.len];exact d
 have q:=o.len xs[0]
 have:=g 0 xs[0] 0 ((o.enc xs[0])[0]'aa) (bD m)<|bD _
 have:=World.block_lt_of_cell? _ _ this
 rwa [block_add,block_add] at this
def yM{f:FuncId} 
 (u: ∀c,ag b S cs c->Calls P f a.toArray c (jC o c q))
 (v: ∀p g j k m,ag b S cs p->Ext [] p g->ag b S cs g->Rd o g (λw=>p.heap.size<=w) j k m q->aM P n ops Q rest ((d,.slice j k m)::l) (ag g [] [])) (hargs:db l h=some a:=by exact rfl) (x:Nat.blt d n=true:=by exact rfl) (y:dX P f:=by exact cL):
 aM P n ops Q (⟨some d,.call ⟨.value<|.func f,h.toArray,i⟩,ty,pos,bf,none⟩::rest) l (ag b S cs):=by
 refine iw rfl (hd:=x) (hcb:=y) (hargs:=hargs) λc r=>?_
 have:=u c r
 simp only[jV,kr];refine this.mono ?_;rintro A s ⟨j,k,m,rfl,t,z⟩;exact⟨_,rfl,(v c s j k m r t (r.keep t) z).at<|ag.start s⟩
def yN{f:FuncId} 
 (u: ∀c,ag b S cs c->Calls P f a.toArray c (jC o c q))
 (v: ∀j k m p r,ag b S cs j->Ext [] j k->ag b S cs k->(∀s∈aK cs,s<j.heap.size)->Rd o k (λs=>j.heap.size<=s) m p r q->aM P n ops Q rest ((d,.slice m p r)::l) (ag k (aK cs) cs)) (hargs:db l h=some a:=by exact rfl) (w:Nat.blt d n=true:=by exact rfl) (x:dX P f:=by exact cL):
 aM P n ops Q (⟨some d,.call ⟨.value<|.func f,h.toArray,i⟩,ty,pos,bf,none⟩::rest) l (ag b S cs):=by
 refine iw rfl (hd:=w) (hcb:=x) (hargs:=hargs) λc g=>?_
 have:=u c g
 simp only[jV,kr];refine this.mono ?_;rintro B y ⟨m,p,r,rfl,t,z⟩;exact⟨_,rfl,(v c y m p r g t (g.keep t) (λs A=>g.lt A) z).at (g.keep t).qf⟩
def sX :cN
 | .normal,a,b=>X a b
 | _,_,_=>False
def yO :Bool:=match Y[m]? with
 | some a=>wE a C
 | none=>false
def wH(b:List Oper)(a:Nat):Nat->List Nat
 | 0=>[]
 | k+1=>
  let c:=wH b a k
  let d:=a - 1 - k
  if Nat.blt k a && (yO b a d || c.any λe=>yO b e d) then d::c else c
def NR{h:Nat->Bool}(o: ∀(f:Nat)(b:Oper),Z[f]? = some b->h f=true-> ∀d∈b.after,Region.binds .any d=true->h d.on=true)
 (p: ∀(b:Oper),Z[c]? = some b-> ∀d∈b.after,Region.binds .any d=true->h d.on=true): ∀(i:Nat),∀f∈wH Z c i,h f=true:=by
 intro i;induction i with
 | zero=>intro f e;simp[wH] at e
 | succ i j=>
  intro f e;unfold wH at e
  simp only at e
  split at e
  rename_i a;rcases eJ.1 e with rfl | e
  simp only[dK,ny,List.any_eq_true] at a
  rcases a.2 with a | ⟨k,q,a⟩
  unfold yO at a
  cases g:Z[c]? with
  | none=>rw[g] at a;cases a
  | some b=>
   rw[g] at a
   obtain⟨d,l,m,n⟩:=yI a;rw[<-n];exact p b g d l m
  unfold yO at a
  cases g:Z[k]? with
  | none=>rw[g] at a;cases a
  | some b=>
   rw[g] at a
   obtain⟨d,l,m,n⟩:=yI a;rw[<-n];exact o k b g (j k q) d l m
  exact j f e;exact j f e
