/- part 2 of the proof -/
import Derived.Test.YtnfmgboendlmaaaGreatDoorQ01
set_option linter.all false
namespace Go.Proofs.YtnfmgboendlmaaaGreatDoor.Mq
open RowKit
variable {P:Program}{n d:Nat}{ops:Array Oper}{Q:cN}{rest:List Oper}{l:Fr}{ty:TypeId}{pos:String}{bf:Array Edge}{S:List Nat}{cs:List Chunk}
variable {o:Addr}{u:Array TypeId}{U:Array Value}{t:Bool}{T:Chunk}{R:Code}{w:Int}{N:IntKind}{j:List Chunk}{I e:List Value}{C D G K c m s:Nat}{p:Op}{E h:Operand}{L:Operand->Value}{v:Option Addr}{M:Option Nat}{O:TypeDesc}{B g:TypeId}{z:TypeInfo}{J i:Value}{q:Value->List Chunk}{A:World}(r:Value)(F:Nat)(V:World->Value->World->Prop)
def j0:TypeDesc->Bool
 | .struct _=>false
 | .array _ _=>false
 | _=>true
class dm (P:Program) (t:TypeId) (z:outParam Value):Prop where
 gf: ∃d,P.underlying t=some d/\j0 d=true
 inf: ∃i,P.info? t=some i/\i.zero=some z/\i.size=1
 one:z.oneCell'=true
class de (P:Program) (t:TypeId) (ax:outParam Nat) (z:outParam (List Value)):Prop where
 gf: ∃d,P.underlying t=some d/\j0 d=false
 inf: ∃i,P.info? t=some i/\i.zero=some (.agg z.toArray)/\i.size=ax
 len:z.length=ax
class dD (P:Program) (t:Nat) (e ax bytes:outParam Nat) (z:outParam (List Value)):Prop where
 gf:P.underlying t=some (.slice e)
 inf: ∃i gz,P.info? e=some i/\i.zero=some gz/\gz.cells.toList=z/\i.size=ax/\i.bytes=bytes
 pos:0<ax
 len:z.length=ax
class aT (P:Program) (s i:Nat) (off:outParam Nat):Prop where
 jc: ∃dG f j,P.underlying s=some (.struct dG)/\dG[i]? = some f/\P.info? f.type=some j/\j.size≠0/\f.offset=off
theorem dm.of{P:Program}{z:Value}(d: (P.underlying g).map j0=some true)(e: (P.info? g).map (λa=>(a.zero,a.size))=some (some z,1))(b:z.oneCell'=true):dm P g z:=by
 refine⟨?_,?_,b⟩;cases c:P.underlying g <;> simp_all
 cases c:P.info? g <;> simp_all
theorem de.of{P:Program}{z:List Value}(e: (P.underlying g).map j0=some false)(f: (P.info? g).map (λa=>(a.zero,a.size))=some (some<|.agg z.toArray,c))(b:z.length=c):de P g c z:=by
 refine⟨?_,?_,b⟩;cases d:P.underlying g <;> simp_all
 cases d:P.info? g <;> simp_all
theorem dD.of{P:Program}{bytes:Nat}{z:List Value}(b:P.underlying c=some (.slice m))(f: (P.info? m).map (λa=>(a.zero,a.size,a.bytes))=some (some r,s,bytes))(g:r.cells.toList=z)(d:z.length=s)(e:Nat.ble 1 s=true):dD P c m s bytes z:=by
 refine⟨b,?_,ej e,d⟩;cases h:P.info? m <;> simp_all
def qg{P:Program}{d:TypeDesc}{w:World}(a:P.underlying g=some d): (isAgg g).run P w= .ok (!j0 d) w:=by
 unfold isAgg;simp only[Sem.run_bind,run_underlying a,Result.andThen_ok];cases d <;> rfl
def run_sizeOf{P:Program}{w:World}(a:P.info? g=some z): (sizeOf g).run P w= .ok z.size w:=by
 simp[sizeOf,typeInfo,a]
def uu{P:Program}{w:World}(a:P.info? g=some z)(b:z.zero=some i): (zeroValue g).run P w= .ok i w:=by
 simp[zeroValue,typeInfo,a,b]
def ox(l:Fr)(b:Operand->Value):Prop:= ∀x a,bi l x=some a->b x=a
def db(l:Fr):List Operand->Option (List Value)
 | []=>some []
 | x::a=>match bi l x,db l a with
  | some b,some c=>some<|b::c
  | _,_=>none
def ox.list{l:Fr}(d:ox l L): ∀(b:List Operand)(c:List Value),db l b=some c->b.map L=c
 | [],c,a=>by simp[db] at a;simp[a]
 | x::b,c,a=>by
  simp only[db] at a
  split at a
  rename_i e f g h;simp only[ek] at a
  subst a;simp[d x e g,d.list b f h]
  cases a
section
variable {H:World->Prop}
def iv(h:Nat.blt d n=true)
 (i: ∀f c,ox l f->H c-> ∃b e,(execOp f ⟨some d,p,ty,pos,bf,none⟩).run P c= .ok (.value b) e/\aM P n ops Q rest ((d,b)::l) λx=>x=e):
 aM P n ops Q (⟨some d,p,ty,pos,bf,none⟩::rest) l H:=by
 intro c j a g;obtain⟨b,e,k,m⟩:=i a.eval c (λx b o=>g.bi o) j;unfold wpList;rw[aB (by simp[Region.wanted])];refine .inl ?_;simp only[Oper.wp,k,Oper.upon_value];exact m e rfl _<|g.put (ej h) b
def wA 
 (f: ∀d b,ox l d->H b-> ∃c,(execOp d ⟨none,p,ty,pos,bf,none⟩).run P b= .ok .skip c/\aM P n ops Q rest l λx=>x=c):
 aM P n ops Q (⟨none,p,ty,pos,bf,none⟩::rest) l H:=by
 intro b g a e;obtain⟨c,h,i⟩:=f a.eval b (λx k j=>e.bi j) g;unfold wpList;rw[aB (by simp[Region.wanted])];refine .inl ?_;simp only[Oper.wp,h,Oper.upon_skip];exact i c rfl _ e
def aM.at(b:aM P n ops Q rest l H)(c:H A):aM P n ops Q rest l (λx=>x=A):=λ_ d a e=>by subst d;exact b _ c a e
def dB(c:Nat.blt d n=true)(e: ∀b a,ox l b->(execOp b ⟨some d,p,ty,pos,bf,none⟩).run P a= .ok (.value r) a)
 (f:aM P n ops Q rest ((d,r)::l) H):aM P n ops Q (⟨some d,p,ty,pos,bf,none⟩::rest) l H:=
 iv c λb a g h=>⟨r,a,e b a g,f.at h⟩
def uv(e:Nat.blt d n=true)(f: ∀b a,ox l b->H a->(execOp b ⟨some d,p,ty,pos,bf,none⟩).run P a= .ok (.value r) a)
 (g:aM P n ops Q rest ((d,r)::l) H):aM P n ops Q (⟨some d,p,ty,pos,bf,none⟩::rest) l H:=
 iv e λb a h c=>⟨r,a,f b a h c,g.at c⟩
def bO{b:Bool}(f: (ops[c]?).bind (·.dst)=some m)(g:look l m=some (.bool b))(h:b=t)
 (i:aM P n ops Q (⟨M,p,ty,pos,bf,none⟩::rest) l H):aM P n ops Q (⟨M,p,ty,pos,bf,some (c,t)⟩::rest) l H:=by
 intro j k a e;have d:=i j k a e
 unfold wpList at d ⊢
 rw[aB (by simp[Region.wanted])] at d
 rw[aB (by simp[Region.wanted,yielded,f,e.val m _ g,h])];exact d
def e9{b:Bool}(f:Nat.blt d n=true)(g: (ops[c]?).bind (·.dst)=some m)(h:look l m=some (.bool b))(i:b= !t)
 (j:aM P n ops Q rest ((d,undef)::l) H):aM P n ops Q (⟨some d,p,ty,pos,bf,some (c,t)⟩::rest) l H:=by
 intro k o a e;unfold wpList;rw[ai (by simp[Region.wanted,yielded,g,e.val m _ h,i])];exact j k o _<|e.put (ej f) _
def gY{x:Operand}(a:Nat.blt d n=true)(b:bi l x=some i)(c:aM P n ops Q rest ((d,i)::l) H):aM P n ops Q (⟨some d,.move x,ty,pos,bf,none⟩::rest) l H:=
 dB i a (λf g e=>by simp[execOp,e x i b]) c
def wB{x:Operand}(a:Nat.blt d n=true)(b:bi l x=some i)(c:aM P n ops Q rest ((d,i)::l) H):aM P n ops Q (⟨some d,.assign x,ty,pos,bf,none⟩::rest) l H:=
 dB i a (λf g e=>by simp[execOp,e x i b]) c
def Nx{x y:Operand}(b:Nat.blt d n=true)(c:bi l h=some (.bool true))(e:bi l x=some i)(f:aM P n ops Q rest ((d,i)::l) H):aM P n ops Q (⟨some d,.pick h x y,ty,pos,bf,none⟩::rest) l H:=
 dB i b (λg j a=>by simp[execOp,a h _ c,a x i e,asBool]) f
def Ny{x y:Operand}(b:Nat.blt d n=true)(c:bi l h=some (.bool false))(e:bi l y=some i)(f:aM P n ops Q rest ((d,i)::l) H):aM P n ops Q (⟨some d,.pick h x y,ty,pos,bf,none⟩::rest) l H:=
 dB i b (λg j a=>by simp[execOp,a h _ c,a y i e,asBool]) f
def wrap64{z:Int}(a: -9223372036854775808<=z)(b:z<=9223372036854775807):IntKind.i64.wrap z=z:=by
 rw[IntKind.wrap_i64];omega
section
variable {cS et:TypeId}{x y:Operand}{k:IntKind}{a b:Int}
def jB{r:Int}(e:Nat.blt d n=true)(f:bi l x=some (.int k a))(g:bi l y=some (.int k b))(h:k.wrap (a+b)=r)
 (i:aM P n ops Q rest ((d,.int k r)::l) H):aM P n ops Q (⟨some d,.binOp .add cS x y et,ty,pos,bf,none⟩::rest) l H:=
 dB _ e (λj m c=>by simp[execOp,c x _ f,c y _ g,eqGuard,binOp,Op.intArith,h]) i
def hB{r:Int}(e:Nat.blt d n=true)(f:bi l x=some (.int k a))(g:bi l y=some (.int k b))(h:k.wrap (a - b)=r)
 (i:aM P n ops Q rest ((d,.int k r)::l) H):aM P n ops Q (⟨some d,.binOp .sub cS x y et,ty,pos,bf,none⟩::rest) l H:=
 dB _ e (λj m c=>by simp[execOp,c x _ f,c y _ g,eqGuard,binOp,Op.intArith,h]) i
def mD{r:Int}(e:Nat.blt d n=true)(f:bi l x=some (.int k a))(g:bi l y=some (.int k b))(h:k.wrap (a*b)=r)
 (i:aM P n ops Q rest ((d,.int k r)::l) H):aM P n ops Q (⟨some d,.binOp .mul cS x y et,ty,pos,bf,none⟩::rest) l H:=
 dB _ e (λj m c=>by simp[execOp,c x _ f,c y _ g,eqGuard,binOp,Op.intArith,h]) i
def Nz(e:Nat.blt d n=true)(f:bi l x=some (.int k a))(g:bi l y=some (.int k b))(h:b≠0)(i:a.tmod b=w)
 (j:aM P n ops Q rest ((d,.int k w)::l) H):aM P n ops Q (⟨some d,.binOp .rem cS x y et,ty,pos,bf,none⟩::rest) l H:=
 dB _ e (λm o c=>by simp[execOp,c x _ f,c y _ g,eqGuard,binOp,Op.intDiv,h,i]) j
def NA(e:Nat.blt d n=true)(f:bi l x=some (.int k a))(g:bi l y=some (.int k b))(h:b≠0)(i:k.wrap (a.tdiv b)=w)
 (j:aM P n ops Q rest ((d,.int k w)::l) H):aM P n ops Q (⟨some d,.binOp .quo cS x y et,ty,pos,bf,none⟩::rest) l H:=
 dB _ e (λm o c=>by simp[execOp,c x _ f,c y _ g,eqGuard,binOp,Op.intDiv,h,i]) j
def FI(e:Nat.blt d n=true)(f:bi l x=some (.int k a))(g:bi l y=some (.int k b))
 (h:aM P n ops Q rest ((d,.bool<|decide<|a<b)::l) H):aM P n ops Q (⟨some d,.binOp .lss cS x y et,ty,pos,bf,none⟩::rest) l H:=
 dB _ e (λi j c=>by simp[execOp,c x _ f,c y _ g,eqGuard,binOp,Op.intCmp]) h
def FJ(e:Nat.blt d n=true)(f:bi l x=some (.int k a))(g:bi l y=some (.int k b))
 (h:aM P n ops Q rest ((d,.bool<|decide<|a<=b)::l) H):aM P n ops Q (⟨some d,.binOp .leq cS x y et,ty,pos,bf,none⟩::rest) l H:=
 dB _ e (λi j c=>by simp[execOp,c x _ f,c y _ g,eqGuard,binOp,Op.intCmp]) h
def FK(e:Nat.blt d n=true)(f:bi l x=some (.int k a))(g:bi l y=some (.int k b))
 (h:aM P n ops Q rest ((d,.bool<|decide<|b<a)::l) H):aM P n ops Q (⟨some d,.binOp .gtr cS x y et,ty,pos,bf,none⟩::rest) l H:=
 dB _ e (λi j c=>by simp[execOp,c x _ f,c y _ g,eqGuard,binOp,Op.intCmp]) h
def FL(e:Nat.blt d n=true)(f:bi l x=some (.int k a))(g:bi l y=some (.int k b))
 (h:aM P n ops Q rest ((d,.bool<|decide<|b<=a)::l) H):aM P n ops Q (⟨some d,.binOp .geq cS x y et,ty,pos,bf,none⟩::rest) l H:=
 dB _ e (λi j c=>by simp[execOp,c x _ f,c y _ g,eqGuard,binOp,Op.intCmp]) h
def FM(a b:Int): (a == b)=decide (a=b):=by by_cases c:a=b <;> simp[c]
def NB(a b:Int): (a != b)=decide (a≠b):=by by_cases c:a=b <;> simp[c]
def FN(e:Nat.blt d n=true)(f:bi l x=some (.int k a))(g:bi l y=some (.int k b))
 (h:aM P n ops Q rest ((d,.bool<|decide<|a=b)::l) H):aM P n ops Q (⟨some d,.binOp .eql cS x y et,ty,pos,bf,none⟩::rest) l H:=
 dB _ e (λi j c=>by simp[execOp,c x _ f,c y _ g,eqGuard,binOp,Op.intCmp,FM]) h
def wC(e:Nat.blt d n=true)(f:bi l x=some (.int k a))(g:bi l y=some (.int k b))
 (h:aM P n ops Q rest ((d,.bool<|decide<|a≠b)::l) H):aM P n ops Q (⟨some d,.binOp .neq cS x y et,ty,pos,bf,none⟩::rest) l H:=
 dB _ e (λi j c=>by simp[execOp,c x _ f,c y _ g,eqGuard,binOp,Op.intCmp,NB]) h
def yB(a:Nat.blt d n=true)(b:bi l x=some (.bool t))
 (c:aM P n ops Q rest ((d,.bool<|!t)::l) H):aM P n ops Q (⟨some d,.unOp .not cS x,ty,pos,bf,none⟩::rest) l H:=
 dB _ a (λf g e=>by simp[execOp,e x _ b,Op.unary]) c
def dW{r:Int}(b:Nat.blt d n=true)(c:bi l x=some (.int k a))(e:P.underlying g=some O)(f:P.underlying B=some (.int N))(h:N.wrap a=r)
 (i:aM P n ops Q rest ((d,.int N r)::l) H):aM P n ops Q (⟨some d,.convert g B x,ty,pos,bf,none⟩::rest) l H:=
 dB _ b (λm o j=>by simp[execOp,j x _ c,convert,run_underlying e,run_underlying f,Conv.intToInt,h]) i
def FO(e:Nat.blt d n=true)(f:bi l x=some (.int k a))(g:bi l y=some (.int k b))
 (h:aM P n ops Q rest ((d,.int k<|min a b)::l) H):aM P n ops Q (⟨some d,.call ⟨.builtin .min,#[x,y],u⟩,ty,pos,bf,none⟩::rest) l H:=
 dB _ e (λj m c=>by
  have i: (if b<a then b else a)=min a b:=by omega
  simp[execOp,resolve,invoke,builtin,Builtin.min_,Builtin.min2,c x _ f,c y _ g,i]) h
def FP(e:Nat.blt d n=true)(f:bi l x=some (.int k a))(g:bi l y=some (.int k b))
 (h:aM P n ops Q rest ((d,.int k<|max a b)::l) H):aM P n ops Q (⟨some d,.call ⟨.builtin .max,#[x,y],u⟩,ty,pos,bf,none⟩::rest) l H:=
 dB _ e (λj m c=>by
  have i: (if a<b then b else a)=max a b:=by omega
  simp[execOp,resolve,invoke,builtin,Builtin.max_,Builtin.max2,c x _ f,c y _ g,i]) h
end
def yC{x:Operand}(a:P.underlying g=some (.slice B))(b:Nat.blt d n=true)(e:bi l x=some (.slice v c m))
 (f:aM P n ops Q rest ((d,.int .i64 (c:Int))::l) H):aM P n ops Q (⟨some d,.call ⟨.builtin .len,#[x],#[g]⟩,ty,pos,bf,none⟩::rest) l H:=
 dB _ b (λi j h=>by simp[execOp,resolve,invoke,builtin,Builtin.len_,goInt,run_underlying a,h x _ e]) f
def bE{x:Operand}{q:Nat}{k:IntKind}(a:dD P c m s C e)(f:Nat.blt d n=true)(g:bi l x=some (.slice v D G))(i:bi l h=some (.int k w))
 (j:v=some o) (p:w=(q:Int)) (y:q<D)
 (r:aM P n ops Q rest ((d,.pointer<|some<|o.add<|q*s)::l) H):aM P n ops Q (⟨some d,.indexAddr c x h,ty,pos,bf,none⟩::rest) l H:=by
 subst j;subst p
 obtain⟨z,A,t,_,_,u,_⟩:=a.inf;refine dB _ f (λB E b=>?_) r;simp[execOp,b x _ g,b h _ i,Instr.indexAt,asIntOf,run_underlying a.gf,run_sizeOf t,u]
 omega
def pc{x:Operand}(a:aT P c m s)(b:Nat.blt d n=true)(e:bi l x=some (.pointer<|some ⟨C,D,none⟩))
 (f:aM P n ops Q rest ((d,.pointer<|some ⟨C,D+s,none⟩)::l) H):aM P n ops Q (⟨some d,.fieldAddr c x m,ty,pos,bf,none⟩::rest) l H:=by
 obtain⟨p,q,r,g,h,i,j,k⟩:=a.jc;refine dB _ b (λt u o=>?_) f;simp[execOp,o x _ e,Instr.fieldAt,run_underlying g,h,Instr.sureAddr,fieldPlace,run_sizeOf i,j,k,Addr.add_lit]
def uw{x:Operand}(a:aT P c m s)(b:Nat.blt d n=true)(e:bi l x=some (.pointer<|some o))
 (f:aM P n ops Q rest ((d,.pointer<|some<|o.add s)::l) H):aM P n ops Q (⟨some d,.fieldAddr c x m,ty,pos,bf,none⟩::rest) l H:=by
 obtain⟨q,r,t,g,h,i,j,k⟩:=a.jc;refine dB _ b (λu v p=>?_) f;simp[execOp,p x _ e,Instr.fieldAt,run_underlying g,h,Instr.sureAddr,fieldPlace,run_sizeOf i,j,k]
def run_loadCellsFrom{w:World}{p:Addr}: ∀(c:List Value)(a:Nat)(d:Array Value),(∀b e,c[b]? = some e->w.cell? (p.add<|a+b)=some e)->
 (loadCellsFrom p a c.length d).run P w= .ok (d++c.toArray) w
 | [],a,d,_=>by simp[loadCellsFrom]
 | v::c,a,d,f=>by
  have g:=f 0 v rfl
  simp only[sJ] at g
  have h:=run_loadCellsFrom c (a+1) (d.push v) (λb e i=>by
   have:=f (b+1) e (by simpa using i)
   rwa [show a+(b+1)=a+1+b by omega] at this)
  simp[loadCellsFrom,g,h]
def bb{x:Operand}{v:Value}(b:dm P g i)(c:Nat.blt d n=true)(e:bi l x=some (.pointer<|some o))
 (f: ∀a,H a->a.cell? o=some v)
 (h:aM P n ops Q rest ((d,v)::l) H):aM P n ops Q (⟨some d,.load g x,ty,pos,bf,none⟩::rest) l H:=by
 obtain⟨q,j,k⟩:=b.gf;refine uv _ c (λr a m p=>?_) h;simp[execOp,m x _ e,Instr.loadAt,Instr.sureAddr,loadVar,qg j,k,f a p]
def cE{x:Operand}{vs:List Value}(g:de P c m e)(h:Nat.blt d n=true)(i:bi l x=some (.pointer<|some o))
 (j:vs.length=m) (k: ∀a,H a-> ∀b f,vs[b]? = some f->a.cell? (o.add b)=some f)
 (p:aM P n ops Q rest ((d,.agg vs.toArray)::l) H):aM P n ops Q (⟨some d,.load c x,ty,pos,bf,none⟩::rest) l H:=by
 obtain⟨y,q,r⟩:=g.gf;obtain⟨z,s,_,t⟩:=g.inf;refine uv _ h (λA a u v=>?_) p;have:=run_loadCellsFrom (P:=P) (w:=a) (p:=o) vs 0 #[] (λb f w=>by simpa using k a v b f w)
 simp[execOp,u x _ i,Instr.loadAt,Instr.sureAddr,loadVar,qg q,r,run_sizeOf s,t,loadCells,<-j,this]
end
section
variable {b:World}
def ag.wD(d:ag b S cs A)(a:List Value)(c:TypeId):ag b S (aG A.heap.size a c::cs) (A.alloc<|.cells a.toArray c):=
 d.add (Ext.alloc _ _ _) (by exact heap_alloc_new A _) (by simp[aG]) (by simp[aG])
def NC(i:de P c m e)(j:Nat.blt d n=true)
 (k: ∀a,b.heap.size<=a->(∀h∈aK cs,h<a)->aM P n ops Q rest ((d,.pointer<|some ⟨a,0,none⟩)::l) (ag b S<|aG a e c::cs)):
 aM P n ops Q (⟨some d,.alloc c,ty,pos,bf,none⟩::rest) l (ag b S cs):=by
 obtain⟨r,o,p,_⟩:=i.inf;refine iv j λs f _ g=>⟨.pointer<|some ⟨f.heap.size,0,none⟩,f.alloc<|.cells e.toArray c,?_,(k f.heap.size g.ext.size λh q=>g.lt q).at<|g.wD e c⟩
 simp[execOp,Instr.alloc,uu o p,newVar,newRow,Value.cells]
def yD(a:i.oneCell'=true):i.cells= #[i]:=by
 cases i <;> first | rfl | cases a
def sP(g:dm P c i)(j:Nat.blt d n=true)
 (k: ∀a,b.heap.size<=a->(∀h∈aK cs,h<a)->aM P n ops Q rest ((d,.pointer<|some ⟨a,0,none⟩)::l) (ag b S<|aG a [i] c::cs)):
 aM P n ops Q (⟨some d,.alloc c,ty,pos,bf,none⟩::rest) l (ag b S cs):=by
 obtain⟨q,m,o,_⟩:=g.inf;refine iv j λr e _ f=>⟨.pointer<|some ⟨e.heap.size,0,none⟩,e.alloc<|.cells [i].toArray c,?_,(k e.heap.size f.ext.size λh p=>f.lt p).at<|f.wD [i] c⟩
 simp[execOp,Instr.alloc,uu m o,newVar,newRow,yD g.one]
def ND(j:Nat.blt d n=true)(k:bi l h=some (.agg e.toArray))
 (m: ∀a,b.heap.size<=a->(∀i∈aK cs,i<a)->aM P n ops Q rest ((d,.pointer<|some ⟨a,0,none⟩)::l) (ag b S<|aG a e c::cs)):
 aM P n ops Q (⟨some d,.box c h,ty,pos,bf,none⟩::rest) l (ag b S cs):=by
 refine iv j λq f o g=>⟨.pointer<|some ⟨f.heap.size,0,none⟩,f.alloc<|.cells e.toArray c,?_,(m f.heap.size g.ext.size λi p=>g.lt p).at<|g.wD e c⟩
 simp[execOp,Instr.box,o h _ k,newVar,newRow,Value.cells]
def NE(j:Nat.blt d n=true)(k:bi l h=some i)(m:i.oneCell'=true)
 (o: ∀a,b.heap.size<=a->(∀g∈aK cs,g<a)->aM P n ops Q rest ((d,.pointer<|some ⟨a,0,none⟩)::l) (ag b S<|aG a [i] c::cs)):
 aM P n ops Q (⟨some d,.box c h,ty,pos,bf,none⟩::rest) l (ag b S cs):=by
 refine iv j λr e p f=>⟨.pointer<|some ⟨e.heap.size,0,none⟩,e.alloc<|.cells [i].toArray c,?_,(o e.heap.size f.ext.size λg q=>f.lt q).at<|f.wD [i] c⟩
 simp[execOp,Instr.box,p h _ k,newVar,newRow,yD m]
def dJ(a:List Value):Nat->List Value->List Value
 | _,[]=>a
 | af,b::vs=>dJ (a.set af b) (af+1) vs
def FQ(vs:List Value): ∀(a:List Value)(b:Nat),(dJ a b vs).length=a.length:=by
 induction vs with
 | nil=>intro a b;rfl
 | cons d vs c=>intro a b;simp[dJ,c]
def aV(vs:List Value):Prop:= ∀a∈vs,a.oneCell'=true
def Bt : ∀(vs:List Value)(e:List Value)(d:World)(a b:Nat),d.heap[c]? = some (.cells e.toArray g (0,0))->a+b+vs.length<=e.length->aV vs->
 ∃f,(storeCells (⟨c,a,none⟩ :Addr) vs b).run P d= .ok () f/\f.heap[c]? = some (.cells (dJ e (a+b) vs).toArray g (0,0))/\Ext [c] d f
 | [],e,d,a,b,h,_,_=>⟨d,by simp[storeCells],by simpa [dJ] using h,Ext.refl _ _⟩
 | v::vs,e,d,a,b,h,j,i=>by
  simp only[dV] at j
  have k: (⟨c,a,none⟩ :Addr).add b=⟨c,a+b,none⟩:=Addr.add_lit c a b
  have l:d.cell? ⟨c,a+b,none⟩=some (e[a+b]'aa):=by
   rw[cell_of_row d c (a+b) e.toArray g (0,0) h];simp
  have m:d.frozen? ⟨c,a+b,none⟩=false:=by simp[World.frozen?,h]
  have n: (d.setCell ⟨c,a+b,none⟩ v).heap[c]? = some (.cells (e.set (a+b) v).toArray g (0,0)):=by
   simp[World.setCell,rg,h]
  obtain⟨f,o,p,q⟩:=Bt vs (e.set (a+b) v) (d.setCell ⟨c,a+b,none⟩ v) a (b+1) n (by simp;omega) λr s=>i r (by simp[s]);refine⟨f,?_,by simpa [dJ,Nat.add_assoc] using p,(Ext.setCell d ⟨c,a+b,none⟩ v).trans q au⟩;have t:=run_store P d ⟨c,a+b,none⟩ v .plain<|i v au
  simp only[storeCells,k,Sem.run_bind,t,l,m];simpa using o
def ag.store{w:World}(d:ag b S cs w){o:Nat}{vs:List Value}(h:o+vs.length<=e.length)(i:aV vs)
 (f:bC cs (aG c e g) (aG c (dJ e o vs) g) j):
 ∃a,(storeCells (⟨c,o,none⟩ :Addr) vs 0).run P w= .ok () a/\ag b S j a:=by
 have k: (aG c e g).pred w:=by
  obtain⟨l,q,rfl,_⟩:=f.split;exact d.all _ au
 obtain⟨a,m,n,p⟩:=Bt (P:=P) vs e w o 0 k (by simpa using h) i;exact⟨a,m,d.iM f p n (by simp[aG])<|by simp[aG]⟩
def fR{vs:List Value}{g o:Nat}{xs:List Value}{te:TypeId}(d:de P c m e)(f:bi l h=some (.pointer<|some ⟨g,o,none⟩))(i:bi l E=some (.agg vs.toArray))
 (k:bC cs (aG g xs te) (aG g (dJ xs o vs) te) j) (p:vs.length=m) (q:aV vs) (r:o+vs.length<=xs.length)
 (s:aM P n ops Q rest l (ag b S j)):aM P n ops Q (⟨none,.store c h E,ty,pos,bf,none⟩::rest) l (ag b S cs):=by
 obtain⟨z,t,_,u⟩:=d.inf;refine wA λA B a v=>?_
 obtain⟨w,x,y⟩:=v.store (P:=P) r q k;refine⟨w,?_,s.at y⟩;simp[execOp,Instr.storeAt,a h _ f,a E _ i,Instr.sureAddr,storeVar,run_sizeOf t,u,p,Value.cells,x]
def iN(f:dm P c i)(k:bi l h=some (.pointer<|some ⟨m,s,none⟩))(o:bi l E=some J)
 (p:bC cs (aG m e g) (aG m (e.set s J) g) j) (a:J.oneCell'=true) (q:s+1<=e.length)
 (r:aM P n ops Q rest l (ag b S j)):aM P n ops Q (⟨none,.store c h E,ty,pos,bf,none⟩::rest) l (ag b S cs):=by
 obtain⟨z,t,_,u⟩:=f.inf;refine wA λA B d v=>?_
 obtain⟨w,x,y⟩:=v.store (P:=P) (vs:=[J]) q (by simpa [aV] using a) p;refine⟨w,?_,r.at y⟩;simp[execOp,Instr.storeAt,d h _ k,d E _ o,Instr.sureAddr,storeVar,run_sizeOf t,u,yD a,x]
def k8(a:dm P g i)(f:Nat.blt d n=true)(j:bi l h=some (.pointer<|some ⟨c,m,none⟩))
 (k:Has cs (aG c e B)) (o:e[m]? = some J)
 (p:aM P n ops Q rest ((d,J)::l) (ag b S cs)):aM P n ops Q (⟨some d,.load g h,ty,pos,bf,none⟩::rest) l (ag b S cs):=
 bb a f j (λ_ q=>q.e8 k o) p
def Bu{vs:List Value}{f:TypeId}(i:de P g B e)(j:Nat.blt d n=true)(k:bi l h=some (.pointer<|some ⟨c,m,none⟩))
 (o:Has cs (aG c I f)) (p: (I.drop m).take B=vs) (q:vs.length=B)
 (r:aM P n ops Q rest ((d,.agg vs.toArray)::l) (ag b S cs)):aM P n ops Q (⟨some d,.load g h,ty,pos,bf,none⟩::rest) l (ag b S cs):=
 cE i j k q (λ_ s t u a=>by
  rw[Addr.add_lit];refine s.e8 o ?_;rw[<-p,iu] at a
  split at a
  simpa using a
  cases a) r
def ag.Bv{w:World}(a:ag b S cs w)(c size:Nat):ag b S (own c size (.slice none 0 0) 0 []::cs) w:=a.pb (by exact World.ownsRow_nil _ _ _ _) rfl
def rv{H:List Oper}(size:Nat)(a:aM P n ops Q H l (ag b S<|own F size (.slice none 0 0) 0 []::cs)):aM P n ops Q H l (ag b S cs):=
 iL a (Sub.refl _) λ_ c=>c.Bv F size
def lz(size:Nat)(a:dA P n R Q l (ag b S<|own F size (.slice none 0 0) 0 []::cs)):dA P n R Q l (ag b S cs):=
 dh a (Sub.refl _) λ_ c=>c.Bv F size
def bC.has{cs:List Chunk}{c:Chunk}(a:bC cs c T j):Has cs c:=by
 induction a with
 | head=>exact .head
 | tail _ b=>exact .tail b
def ab1{g:List Value}(t:dD P c m s C e)(A:Nat.blt d n=true)
 (B:bi l h=some i) (F:bi l E=some (.slice (some o) G K)) (u: ∀a,bC cs (own m s i D I) (own m s a (D+G)<|I++g)<|q a)
 (H:g.length=G*s) (J: ∀j,ag b S cs j-> ∀v w,g[v]? = some w->j.cell? (o.add v)=some w) (L:aV g) (M:D+G<=maxLen) (N: (D+G)*C<=140737488355328)
 (O: ∀a,(∀k,a.ownBlock=some k->i.ownBlock=some k\/(b.heap.size<=k/\ ∀G∈aK cs,G<k))->aM P n ops Q rest ((d,a)::l) (ag b S<|q a)):
 aM P n ops Q (⟨some d,.call ⟨.builtin .append,#[h,E],#[c,c]⟩,ty,pos,bf,none⟩::rest) l (ag b S cs):=by
 obtain⟨R,T,U,V,W,X,Y⟩:=t.inf;refine iv A λZf j x p=>?_
 have Z:=p.has (u i).has
 obtain⟨a,Za,Zb,Zc,Zd,_,f⟩:=run_append_own_at (P:=P) j 0 c ty m R T s C t.gf U V X Y (by rw[<-nx,W,t.len]) t.pos i D I Z o G K g H (J j p) L M N<|b4 _;refine⟨a,Za,?_,(O a ?_).at<|p.iM (u a) (Ext.wz Zd) Zc ?_ ?_⟩;simp[execOp,resolve,invoke,builtin,x h _ B,x E _ F,Zb]
 intro k y;rcases f with f | f
 exact .inl<|f▸y;rw[y] at f
 simp only[ek] at f
 subst f;exact .inr ⟨p.ext.size,λG Ze=>p.lt Ze⟩;intro z r;show z∈i.ownBlock.toList\/_
 replace r:z∈a.ownBlock.toList:=r
 rcases f with f | f
 exact .inl<|f▸r;rw[f] at r
 simp at r
 exact .inr aa;show a.ownBlock.toList.Nodup
 cases a.ownBlock <;> simp
def hW{t:Nat}{news:List Value}(o:dD P c m s C e)(A:Nat.blt d n=true)
 (B:bi l h=some i) (F:bi l E=some (.slice (some ⟨G,0,none⟩) K t)) (u:bH cs (aG G news g) j) (v: ∀a,bC j (own m s i D I) (own m s a (D+K)<|I++news)<|q a)
 (H:news.length=K*s) (J:aV news) (L:D+K<=maxLen) (M: (D+K)*C<=140737488355328)
 (N: ∀a,(∀G,a.ownBlock=some G->i.ownBlock=some G\/(b.heap.size<=G/\ ∀K∈aK cs,K<G))->aM P n ops Q rest ((d,a)::l) (ag b S<|q a)):
 aM P n ops Q (⟨some d,.call ⟨.builtin .append,#[h,E],#[c,c]⟩,ty,pos,bf,none⟩::rest) l (ag b S cs):=by
 obtain⟨O,R,T,U,V,W,X⟩:=o.inf;refine iv A λZh w x p=>?_
 have y:=p.rem u
 have Y:=y.has (v i).has
 have r: (aG G news g).pred w:=by
  obtain⟨Zi,Zj,Z,_⟩:=u.split;exact p.all _ (by simp[Z])
 obtain⟨a,Za,Zb,Zc,Zd,_,f⟩:=run_append_own_at (P:=P) w 0 c ty m O R s C o.gf T U W X (by rw[<-nx,V,o.len]) o.pos i D I Y ⟨G,0,none⟩ K t news H
  (λZe Zk Zf=>by
   rw[Addr.add_lit,cell_of_row w G (0+Ze) news.toArray g (0,0) r];simpa using Zf) J L M (b4 _)
 refine⟨a,Za,?_,(N a ?_).at<|y.iM (v a) (Ext.wz Zd) Zc ?_ ?_⟩;simp[execOp,resolve,invoke,builtin,x h _ B,x E _ F,Zb]
 intro G r;rcases f with f | f
 exact .inl<|f▸r;rw[r] at f
 simp only[ek] at f
 subst f;exact .inr ⟨p.ext.size,λK Zg=>p.lt Zg⟩;intro z k;show z∈i.ownBlock.toList\/_
 replace k:z∈a.ownBlock.toList:=k
 rcases f with f | f
 exact .inl<|f▸k;rw[f] at k
 simp at k
 exact .inr aa;show a.ownBlock.toList.Nodup
 cases a.ownBlock <;> simp
class dX (P:Program) (f:FuncId):Prop where
 jc: ∃fn,P.funcs[f]? = some fn/\(fn.name == "runtime.NumGoroutine")=false/\fn.body.isNone=false
def yE{f:FuncId}(a:dX P f)(args:Array Value)(w:World): (callFunc f args).run P w= .ok (.enter f args) w:=by
 obtain⟨e,b,c,d⟩:=a.jc;simp only[callFunc,Sem.run_bind,run_program,Result.andThen_ok,b,c,d,Bool.false_eq_true,if_false];rfl
section
variable {H:World->Prop}{hX:Operand}{args:List Operand}{di:Array TypeId}{f:FuncId}{vs:List Value}
def iw{first:Array Value}(j:bi l hX=some (.func (.func f) first U))
 (k: ∀w,H w->Calls P f (first++vs.toArray++U) w λc b=> ∃a,c= .returned a/\aM P n ops Q rest ((d,a)::l) λe=>e=b) (hargs:db l args=some vs:=by exact rfl) (hd:Nat.blt d n=true:=by exact rfl) (hcb:dX P f:=by exact cL):
 aM P n ops Q (⟨some d,.call ⟨.value hX,args.toArray,di⟩,ty,pos,bf,none⟩::rest) l H:=by
 intro w m g h;have i:ox l g.eval:=λe a o=>h.bi o
 unfold wpList;rw[aB (by simp[Region.wanted])];refine .inl ?_;have p: (execOp g.eval ⟨some d,.call ⟨.value hX,args.toArray,di⟩,ty,pos,bf,none⟩).run P w= .ok (.enter f<|first++vs.toArray++U) w:=by
  simp[execOp,resolve,i hX _ j,Deferred.ofValue,invoke,i.list _ _ hargs,yE hcb]
 simp only[Oper.wp,p,Oper.upon_enter];refine (k w m).mono ?_;rintro c b ⟨a,rfl,q⟩;exact q b rfl _<|h.put (ej hd) a
end
def bd{args:List Operand}{di:Array TypeId}{f:FuncId}{vs:List Value}{v:Value}
 (h: ∀a,ag b S cs a->Calls P f vs.toArray a λc e=>c= .returned v/\Ext [] a e)
 (i:aM P n ops Q rest ((d,v)::l) (ag b S cs)) (hargs:db l args=some vs:=by exact rfl) (hd:Nat.blt d n=true:=by exact rfl) (hcb:dX P f:=by exact cL):
 aM P n ops Q (⟨some d,.call ⟨.value<|.func f,args.toArray,di⟩,ty,pos,bf,none⟩::rest) l (ag b S cs):=by
 refine iw rfl (hd:=hd) (hcb:=hcb) (hargs:=hargs) λa g=>?_
 have:=h a g
 simp only[jV,kr];refine this.mono ?_;rintro c e ⟨rfl,j⟩;exact⟨v,rfl,i.at<|g.keep j⟩
def NF{args:List Operand}{di:Array TypeId}{f:FuncId}{vs:List Value} 
 (m: ∀a,ag b S cs a->Calls P f vs.toArray a λj g=> ∃c,j= .returned c/\Ext [] a g/\V a c g)
 (o: ∀a c h,ag b S cs a->Ext [] a h->V a c h->Ext S b h->(∀k∈aK cs,k<a.heap.size)->aM P n ops Q rest ((d,c)::l) (ag h (aK cs) cs)) (p:db l args=some vs:=by exact rfl) (q:Nat.blt d n=true:=by exact rfl) (r:dX P f:=by exact cL):
 aM P n ops Q (⟨some d,.call ⟨.value<|.func f,args.toArray,di⟩,ty,pos,bf,none⟩::rest) l (ag b S cs):=by
 refine iw rfl (hd:=q) (hcb:=r) (hargs:=p) λa e=>?_
 have:=m a e
 simp only[jV,kr];refine this.mono ?_;rintro j g ⟨c,rfl,i,s⟩;exact⟨c,rfl,(o a c g e i s (e.ext.eC i) λk t=>e.lt t).at (e.keep i).qf⟩
