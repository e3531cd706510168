/- part 3 of the proof -/
import Derived.Test.YtnfmgboendlmaaaGreatDoorQ02
import Derived.Orders
import Derived.Laws.Strings
set_option linter.all false
namespace Go.Proofs.YtnfmgboendlmaaaGreatDoor.Mq
open RowKit
variable {n d:Nat}{l:Fr}{P:Program}{ops:Array Oper}{Q:cN}{rest:List Oper}{ty:TypeId}{pos:String}{bf:Array Edge}{b:World}{S:List Nat}{cs:List Chunk}
variable {z:Addr}{C R:Bool}{B:Code}{G:Fr}{q:Int}{T:IntKind}{p:List (Nat × Nat)}{m:List (Nat × Operand)}{g:List (Nat × Value)}{o:List Chunk}{K e:List Value}{I J f r u:Nat}{L:Oper}{D h:Operand}{U:Operand->Value}{V:Prop}{M j:TypeId}{N i:Value}{O v:World}{W:World->Prop}(X:(Nat->Bool)->Act->World->Prop)(Y:Oper)(Z:Nat)
def add_add(c:Addr)(a b:Nat): (c.add a).add b=c.add (a+b):=by
 unfold Addr.add;by_cases d:a=0 <;> by_cases e:b=0 <;> simp[d,e,Nat.add_assoc]
def block_add(a:Addr)(b:Nat): (a.add b).block=a.block:=by unfold Addr.add;split <;> rfl
structure b1 (α:Type) where
 enc:α->List Value
 ax:Nat
 len: ∀a,(enc a).length=ax
 kz: ∀a,aV<|enc a
section
variable {α:Type}(E:b1 α)
def b1.all(l:List α):List Value:=l.flatMap E.enc
def b1.eD(l:List α): (E.all l).length=l.length*E.ax:=by
 induction l with
 | nil=>simp[b1.all]
 | cons b l a=>simp only[b1.all,nA,b3,E.len,dV] at *;rw[a,kw];omega
def b1.all_append(l r:List α):E.all (l++r)=E.all l++E.all r:=by simp[b1.all]
def b1.iP(l:List α)(a:α):E.all (l++[a])=E.all l++E.enc a:=by simp[b1.all]
def b1.nE{l:List α}{c:α}(a:l[f]? = some c){j:Nat}{u:Value}(d: (E.enc c)[j]? = some u): (E.all l)[f*E.ax+j]? = some u:=by
 induction l generalizing f with
 | nil=>simp at a
 | cons b l e=>
  have g:E.all (b::l)=E.enc b++E.all l:=by simp[b1.all]
  have h:j<E.ax:=by
   have:=(cH.1 d).1
   rwa [E.len] at this
  rw[g];cases f with
  | zero=>
   simp only[sy,ek] at a
   subst a;rw[sM,ev,om<|by rw[E.len];exact h];exact d
  | succ f=>
   simp only[List.getElem?_cons_succ] at a
   rw[i_ (by rw[E.len,kw];omega),E.len];have: (f+1)*E.ax+j - E.ax=f*E.ax+j:=by rw[kw];omega
   rw[this];exact e a
def b1.yF(l:List α):aV (E.all l):=by
 intro a b;obtain⟨c,_,d⟩:=List.mem_flatMap.1 b;exact E.kz c a d
end
def b1.rx{α:Type}(E:b1 α){c:List α}{j:Nat}{a a':α}{v:Value}(d:c[f]? = some a)(h:j<E.ax)(i:E.enc a'=(E.enc a).set j v): (E.all c).set (f*E.ax+j) v=E.all (c.set f a'):=by
 induction c generalizing f with
 | nil=>simp at d
 | cons b c k=>
  have e: ∀(g:α)(l:List α),E.all (g::l)=E.enc g++E.all l:=λg l=>by simp[b1.all]
  cases f with
  | zero=>
   simp only[sy,ek] at d
   subst d;rw[nC,e,e,i,sM,ev,List.set_append_left _ _<|by rw[E.len];exact h]
  | succ f=>
   simp only[List.getElem?_cons_succ] at d
   rw[sG,e,e,rm _ _<|by rw[E.len,kw];omega,E.len];have: (f+1)*E.ax+j - E.ax=f*E.ax+j:=by rw[kw];omega
   rw[this,k d]
structure Rd {α:Type} (E:b1 α) (w:World) (F:Nat->Prop) (A:Option Addr) (n c:Nat) (l:List α):Prop where
 len:l.length=n
 cap:n<=c
 max:c<=maxLen
 cells:0<n-> ∃ca,A=some ca/\F ca.block/\ ∀k a j u,l[k]? = some a->(E.enc a)[j]? = some u->w.cell? ((ca.add<|k*E.ax).add j)=some u
section
variable {α:Type}{E:b1 α}{w w':World}{F:Nat->Prop}{A:Option Addr}{c:Nat}{l:List α}
def Rd.nil(E:b1 α)(w:World)(F:Nat->Prop)(c:Nat)(a:c<=maxLen)(A:Option Addr):Rd E w F A 0 c []:=⟨rfl,b4 _,a,λb=>absurd b aa⟩
def Rd.ext{S:List Nat}(a:Rd E w F A n c l)(e:Ext S w w')(f: ∀b,F b->b∉S):Rd E w' F A n c l:=by
 refine⟨a.len,a.cap,a.max,λg=>?_⟩;obtain⟨h,i,d,j⟩:=a.cells g;refine⟨h,i,d,λb k m o p q=>?_⟩;have:=j b k m o p q
 rw[e.cell (World.block_lt_of_cell? _ _ this) (by rw[block_add,block_add];exact f _ d)];exact this
def Rd.df(a:Rd E w F A n c l)(b:Ext [] w w'):Rd E w' F A n c l:=by
 refine⟨a.len,a.cap,a.max,λd=>?_⟩;obtain⟨e,f,g,h⟩:=a.cells d;refine⟨e,f,g,λi j k m o p=>?_⟩;have:=h i j k m o p
 rw[b.cell (World.block_lt_of_cell? _ _ this) au];exact this
def Rd.d8{F':Nat->Prop}(a:Rd E w F A n c l)(d: ∀b,F b->F' b):Rd E w F' A n c l:=by
 refine⟨a.len,a.cap,a.max,λe=>?_⟩;obtain⟨f,g,h,i⟩:=a.cells e;exact⟨f,g,d _ h,i⟩
def Rd.ho(a:w.ownsRow 0 f E.ax i r (E.all l))(b:l.length=r): ∃A c,i= .slice A r c/\Rd E w (λd=>i.ownBlock=some d) A r c l:=by
 rcases a.2 with ⟨rfl,rfl⟩ | ⟨e,g,n,rfl,_,o,h,j,_⟩
 exact⟨none,0,rfl,⟨b,cC _,aW,λa=>absurd a aa⟩⟩;refine⟨_,g,rfl,⟨b,h,j,λ_=>⟨⟨e,0,none⟩,rfl,rfl,λd p q s k m=>?_⟩⟩⟩;rw[add_add];exact a.cells rfl _ _<|E.nE k m
end
def yG{w:World}(a:w.ownsRow 0 f r i u e): ∃A c,i= .slice A u c:=by
 rcases a.2 with ⟨rfl,rfl⟩ | ⟨d,b,g,rfl,_⟩
 exact⟨none,0,rfl⟩;exact⟨_,b,rfl⟩
def FR{ax m:Nat}{c:Nat}: ∀(e:List Value)(d:List Value)(w:World)(a b:Nat),w.ownsRow 0 f ax (.slice (some ⟨r,0,none⟩) m c) m d->a+b+e.length<=d.length->aV e->
 ∃w',(storeCells (⟨r,a,none⟩ :Addr) e b).run P w= .ok () w'/\w'.ownsRow 0 f ax (.slice (some ⟨r,0,none⟩) m c) m (dJ d (a+b) e)/\Ext [r] w w'
 | [],d,w,a,b,h,_,_=>⟨w,by simp[storeCells],by simpa [dJ] using h,Ext.refl _ _⟩
 | v::e,d,w,a,b,h,p,k=>by
  simp only[dV] at p
  have q: (⟨r,a,none⟩ :Addr).add b=⟨r,a+b,none⟩:=Addr.add_lit r a b
  have s:=h.1
  rcases h.2 with ⟨g,_⟩ | ⟨I,J,i,g,t,j,l,u,n,x⟩
  cases g
  injection g with o K y
  simp only[ek,Addr.mk.injEq,and_true] at o
  subst o;subst y
  have z:a+b<i.size:=by
   rw[n];have:m*ax<=c*ax:=mB _ l
   omega
  have A:w.cell? ⟨r,a+b,none⟩=some i[a+b]:=by
   rw[cell_of_row w r (a+b) i f (0,0) j];simp[z]
  have B:w.frozen? ⟨r,a+b,none⟩=false:=by simp[World.frozen?,j]
  have C: (w.setCell ⟨r,a+b,none⟩ v).ownsRow 0 f ax (.slice (some ⟨r,0,none⟩) m c) m (d.set (a+b) v):=by
   refine⟨by simpa using s,.inr ⟨r,c,i.setIfInBounds (a+b) v,rfl,t,by simp[World.setCell,rg,j],l,u,by simpa using n,?_⟩⟩;rw[Array.toList_setIfInBounds,<-x];rw[List.take_set]
  obtain⟨w',D,E,g⟩:=FR (m:=m) e (d.set (a+b) v) (w.setCell ⟨r,a+b,none⟩ v) a (b+1) C (by simp;omega) λF G=>k F (by simp[G]);refine⟨w',?_,by simpa [dJ,Nat.add_assoc] using E,(Ext.setCell w ⟨r,a+b,none⟩ v).trans g au⟩;have H:=run_store P w ⟨r,a+b,none⟩ v .plain<|k v au
  simp only[storeCells,q,Sem.run_bind,H,A,B];simpa using D
def ag.ux{w:World}{c:Nat}{xs:List Value}{a:List Chunk}(d:ag b S cs w){o:Nat}{vs:List Value}(g:o+vs.length<=xs.length)(h:aV vs)
 (e:bC cs (own f r (.slice (some ⟨I,0,none⟩) u c) u xs) (own f r (.slice (some ⟨I,0,none⟩) u c) u<|dJ xs o vs) a):
 ∃w',(storeCells (⟨I,o,none⟩ :Addr) vs 0).run P w= .ok () w'/\ag b S a w':=by
 obtain⟨w',i,j,k⟩:=FR (P:=P) vs xs w o 0 (d.has e.has) (by simpa using g) h;exact⟨w',i,d.iM e k j (λm l=> .inl l)<|by simp[own,Value.ownBlock]⟩
def mE{c o:Nat}{a:List Chunk}(j:dm P f i)(k:bi l h=some (.pointer<|some z))(m:bi l D=some N)(p:bC cs (own r u (.slice (some ⟨J,0,none⟩) I c) I e) (own r u (.slice (some ⟨J,0,none⟩) I c) I<|e.set o N) a)(q:z=⟨J,o,none⟩)
 (d:N.oneCell'=true) (s:o<e.length)
 (t:aM P n ops Q rest l (ag b S a)):aM P n ops Q (⟨none,.store f h D,ty,pos,bf,none⟩::rest) l (ag b S cs):=by
 subst q;obtain⟨C,v,_,x⟩:=j.inf;refine wA λE w g y=>?_
 obtain⟨w',A,B⟩:=y.ux (P:=P) (vs:=[N]) s (by simpa [aV] using d) p;refine⟨w',?_,t.at B⟩;simp[execOp,Instr.storeAt,g h _ k,g D _ m,Instr.sureAddr,storeVar,run_sizeOf v,x,yD d,A]
def oy{g:List Value}{e sz m c o:Nat}{xs:List Value}{a:List Chunk}(i:de P f r g)(j:bi l h=some (.pointer<|some z))(k:bi l D=some (.agg K.toArray))(p:bC cs (own e sz (.slice (some ⟨u,0,none⟩) m c) m xs) (own e sz (.slice (some ⟨u,0,none⟩) m c) m<|dJ xs o K) a)(q:z=⟨u,o,none⟩)
 (s:K.length=r) (t:aV K) (v:o+K.length<=xs.length)
 (x:aM P n ops Q rest l (ag b S a)):aM P n ops Q (⟨none,.store f h D,ty,pos,bf,none⟩::rest) l (ag b S cs):=by
 subst q;obtain⟨F,y,_,A⟩:=i.inf;refine wA λG w d B=>?_
 obtain⟨w',C,E⟩:=B.ux (P:=P) v t p;refine⟨w',?_,x.at E⟩;simp[execOp,Instr.storeAt,d h _ j,d D _ k,Instr.sureAddr,storeVar,run_sizeOf y,A,s,Value.cells,C]
def kA{e sz:Nat}{v:Value}{g:List Value}(i:Has cs (own e sz v f g))(h: ∀A c,v= .slice A f c->f<=c->c<=maxLen->g.length=f*sz->(0<f-> ∃a,A=some ⟨a,0,none⟩)->aM P n ops Q rest l (ag b S cs)):aM P n ops Q rest l (ag b S cs):=by
 intro w d;have:=d.has i
 rcases this.2 with ⟨rfl,j⟩ | ⟨a,k,q,rfl,_,_,m,o,_⟩
 exact h none 0 (by rw[j]) aa aW this.1 (λp=>absurd p aa) w d;exact h _ k rfl m o this.1 (λ_=>⟨a,rfl⟩) w d
def jd{e sz:Nat}{v:Value}{g:List Value}(i:Has cs (own e sz v f g))(h: ∀A c,v= .slice A f c->f<=c->c<=maxLen->g.length=f*sz->(0<f-> ∃a,A=some ⟨a,0,none⟩)->dA P n B Q l (ag b S cs)):dA P n B Q l (ag b S cs):=by
 intro w d;have:=d.has i
 rcases this.2 with ⟨rfl,j⟩ | ⟨a,k,q,rfl,_,_,m,o,_⟩
 exact h none 0 (by rw[j]) aa aW this.1 (λp=>absurd p aa) w d;exact h _ k rfl m o this.1 (λ_=>⟨a,rfl⟩) w d
def ag.FT{w:World}(a:ag b S cs w){c:Nat}(d:Has cs (own f r (.slice (some ⟨I,0,none⟩) u c) u e)){v:Value}(g:e[J]? = some v):w.cell? ⟨I,J,none⟩=some v:=by
 have:=(a.has d).cells (g:=I) rfl J v g
 rwa [Addr.add_lit,ev] at this
def sQ{H:World->Prop}{ax:Nat}{q:Nat}{b:Int}(g:P.underlying f=some (.array u r))(c: (P.info? r).map (·.size)=some ax)(i:Nat.blt d n=true)(j:bi l h=some (.pointer<|some z))(k:bi l D=some (.int T b))
 (m:b=(q:Int)) (t:q<u)
 (o:aM P n ops Q rest ((d,.pointer<|some<|z.add<|q*ax)::l) H):aM P n ops Q (⟨some d,.indexAddr f h D,ty,pos,bf,none⟩::rest) l H:=by
 subst m;cases a:P.info? r with
 | none=>simp[a] at c
 | some p=>
  have s:p.size=ax:=by simpa [a] using c
  refine dB _ i (λv w e=>?_) o;simp[execOp,e h _ j,e D _ k,Instr.indexAt,asIntOf,run_underlying g,run_sizeOf a,s,Instr.sureAddr]
  omega
def aV.nil:aV []:=λ_ a=>by simp at a
def aV.cons(a:i.oneCell'=true)(b:aV e):aV (i::e):=λc hu=>by
 rcases eJ.1 hu with rfl | hu
 exact a;exact b c hu
theorem aT.bS{P:Program}{off:Nat}(a: (match P.underlying f with
 | some (.struct c)=>match c[r]? with
  | some b=>match P.info? b.type with
   | some d=>Nat.ble 1 d.size && Nat.beq b.offset off
   | none=>false
  | none=>false
 | _=>false)=true):aT P f r off:=by
 split at a
 rename_i c e;split at a
 rename_i b g;split at a
 rename_i d h;simp only[dK] at a
 have:=ej a.1
 exact⟨c,b,d,e,g,h,aa,gX a.2⟩;cases a
 cases a
 cases a
def putAt(a:List Value)(b:Nat)(c:List Value):List Value:=dJ a b c
def hY(c:Nat->Option (Nat × Nat))(a:List Value):List (Nat × Value)->Option (List Value)
 | []=>some a
 | (e,b)::rest=>match c e with
  | none=>none
  | some (d,size)=>match Nat.beq b.cells.toList.length size,Nat.ble (d+b.cells.toList.length) a.length with
   | true,true=>hY c (putAt a d b.cells.toList) rest
   | _,_=>none
def FU: ∀(d:List Value)(a:Nat)(c:List Value)(b:Nat),
 ((d.zipIdx a).foldl (λ(cs:Array Value) (e:Value × Nat)=>cs.setIfInBounds (b+e.2) e.1) c.toArray)=(dJ c (b+a) d).toArray
 | [],a,c,b=>by simp[dJ]
 | v::d,a,c,b=>by
  simp only[List.zipIdx_cons,ui,List.setIfInBounds_toArray,dJ];rw[FU d (a+1) (c.set (b+a) v) b,Nat.add_assoc]
def yH: ∀(g:List (Nat × Value))(b:Nat->Option (Nat × Nat))(c d:List Value),hY b c g=some d->Instr.fill b c.toArray g=some d.toArray
 | [],b,c,d,a=>by simp only[hY,ek] at a;subst a;rfl
 | (l,e)::rest,b,c,d,a=>by
  simp only[hY] at a
  unfold Instr.fill;cases h:b l with
  | none=>rw[h] at a;cases a
  | some m=>
   obtain⟨f,size⟩:=m;rw[h] at a
   simp only at a ⊢
   split at a
   rename_i n o;have i:=gX n
   have p:=ej o
   rw[ai (by
    simp only[nx] at i p
    simp[i,List.size_toArray]
    omega)]
   have j:=FU e.cells.toList 0 c f
   rw[sJ] at j
   have q:Array.foldl (λ(cs:Array Value) (k:Value × Nat)=>cs.setIfInBounds (f+k.2) k.1) c.toArray e.cells.zipIdx=(dJ c f e.cells.toList).toArray:=by
    rw[<-j,<-Array.foldl_toList,Array.toList_zipIdx]
   exact (a_ (λr=>Instr.fill b r rest) q).trans<|yH rest b _ d a;cases a
class dc (P:Program) (t:TypeId) (pl:outParam (List<|Nat × Nat)) (z:outParam (List Value)):Prop where
 jc: ∃dG i,P.underlying t=some (.struct dG)/\P.info? t=some i/\i.zero=some (.agg z.toArray)/\dG.toList.map (λf=>(f.offset,(P.info? f.type).map (·.size)))=pl.map λp=>(p.1,some p.2)
theorem dc.of{P:Program}{z:List Value}
 (a: (match P.underlying j with | some (.struct b)=>some (b.toList.map λd=>(d.offset,(P.info? d.type).map (·.size))) | _=>none)=some (p.map λe=>(e.1,some e.2)))
 (f: (P.info? j).map (·.zero)=some (some<|.agg z.toArray)):dc P j p z:=by
 split at a
 rename_i b g;cases c:P.info? j with
 | none=>simp[c] at f
 | some h=>exact⟨b,h,g,c,by simpa [c] using f,by simpa using a⟩
 cases a
def FV{P:Program}{w:World}: ∀(d:List Field)(a:List (Nat × Nat)),d.map (λf=>(f.offset,(P.info? f.type).map (·.size)))=a.map (λb=>(b.1,some b.2))->
 (d.mapM λf=>(do pure (f.offset,<-sizeOf f.type):Sem (Nat × Nat))).run P w= .ok a w
 | [],a,c=>by
  cases a with
  | nil=>rfl
  | cons b a=>simp at c
 | f::d,a,c=>by
  cases a with
  | nil=>simp at c
  | cons b a=>
   simp only[ku,ug,Prod.mk.injEq] at c
   obtain⟨⟨i,g⟩,j⟩:=c;have h:=FV (P:=P) (w:=w) d a j
   cases e:P.info? f.type with
   | none=>simp[e] at g
   | some k=>
    have l:k.size=b.2:=by simpa [e] using g
    simp only[List.mapM_cons,Sem.run_bind,run_sizeOf e,Result.andThen_ok,Sem.run_pure] at h ⊢
    rw[h];simp[i,l]
def run_build{P:Program}{w:World}(f:dc P j p e)(h:hY (λa=>p[a]?) e g=some K):
 (Instr.build j g.toArray).run P w= .ok (.agg K.toArray) w:=by
 obtain⟨b,a,i,k,l,m⟩:=f.jc;have n: (b.mapM λc=>(do pure (c.offset,<-sizeOf c.type):Sem (Nat × Nat))).run P w= .ok p.toArray w:=by
  rw[Array.mapM_eq_mapM_toList];have:=FV (P:=P) (w:=w) b.toList p m
  simp only[Sem.run_map,this,Result.andThen_ok]
 have o:=yH g (λa=>p[a]?) e K h
 unfold Instr.build;simp only[Sem.run_bind,uu k l,Result.andThen_ok,run_underlying i,n];have d:Instr.fill (λq=>p.toArray[q]?) (Value.agg e.toArray).cells g=some K.toArray:=by
  simpa [Value.cells] using o
 simp only[List.getElem?_toArray] at d ⊢
 simp only[d];rfl
class je (P:Program) (t:TypeId) (ax:outParam TypeId) (z:outParam (List Value)):Prop where
 jc: ∃len e i j,P.underlying t=some (.array len e)/\P.info? t=some i/\i.zero=some (.agg z.toArray)/\P.info? e=some j/\j.size=ax
theorem je.of{P:Program}{z:List Value}
 (a: (match P.underlying j with | some (.array _ b)=>(P.info? b).map (·.size) | _=>none)=some M)
 (e: (P.info? j).map (·.zero)=some (some<|.agg z.toArray)):je P j M z:=by
 split at a
 rename_i f b g;cases c:P.info? j with
 | none=>simp[c] at e
 | some h=>cases d:P.info? b with
  | none=>simp[d] at a
  | some i=>exact⟨f,b,h,i,g,c,by simpa [c] using e,d,by simpa [d] using a⟩
 cases a
def NG{P:Program}{w:World}(c:je P j M e)(d:hY (λa=>some (a*M,M)) e g=some K):
 (Instr.build j g.toArray).run P w= .ok (.agg K.toArray) w:=by
 obtain⟨n,b,a,o,f,h,i,k,l⟩:=c.jc;have m:=yH g _ e K d
 unfold Instr.build;simp only[Sem.run_bind,uu h i,Result.andThen_ok,run_underlying f,run_sizeOf k,l];have b:Instr.fill (λa=>some (a*M,M)) (Value.agg e.toArray).cells g=some K.toArray:=by simpa [Value.cells] using m
 simp only[b];rfl
def ry(l:Fr):List (Nat × Operand)->Option (List<|Nat × Value)
 | []=>some []
 | (a,b)::c=>match bi l b,ry l c with
  | some d,some e=>some<|(a,d)::e
  | _,_=>none
def ox.parts{l:Fr}(d:ox l U): ∀(b:List (Nat × Operand))(c:List (Nat × Value)),ry l b=some c->b.map (λe=>(e.1,U e.2))=c
 | [],c,a=>by simp[ry] at a;simp[a]
 | (k,f)::b,c,a=>by
  simp only[ry] at a
  split at a
  rename_i g h i j;simp only[ek] at a
  subst a;simp[d f g i,d.parts b h j]
  cases a
def gg(a:List Value):Nat->List Value
 | 0=>[]
 | k+1=>a++gg a k
def Bw(b:List Value)(a:Nat): (gg b a).length=a*b.length:=by
 induction a with
 | zero=>simp[gg]
 | succ a c=>simp[gg,c,kw];omega
def FW(a:List Value): ∀(k b:Nat),b<k*a.length->(gg a k)[b]? = a[b%a.length]?
 | 0,b,c=>by simp at c
 | k+1,b,c=>by
  simp only[gg];by_cases d:b<a.length
  rw[om d,qb d];rw[i_ aa,FW a k (b - a.length)<|by rw[kw] at c;omega];congr 1
  conv=>rhs;rw[show b=(b - a.length)+a.length by omega]
  rw[Nat.add_mod_right]
def FX(a:List Value)(b:Nat): ((Array.range<|b*a.length).map λf=>a.toArray[f%a.toArray.size]!)=(gg a b).toArray:=by
 apply Array.ext_getElem?
 intro c;by_cases d:c<b*a.length
 have g:0<a.length:=Nat.pos_of_ne_zero λh=>by simp[h] at d
 have e:=jA c g
 simp only[Array.getElem?_map,Array.getElem?_range,d,if_true,o_,List.getElem?_toArray,FW a b c d,List.size_toArray];rw[bD e];simp[e]
 rw[Array.getElem?_eq_none (by simp;omega),Array.getElem?_eq_none<|by simp[Bw];omega]
def NH{P:Program}{w:World}(a:dD P f r u I e)(h:Nat.ble (J*u) 16777216=true)(i:Nat.beq J 0=false)(j:hY (λb=>some (b*u,u)) (gg e J) g=some K):
 (Instr.buildSlice f J g.toArray).run P w= .ok (.slice (some ⟨w.heap.size,0,none⟩) J J) (w.alloc<|.cells K.toArray r):=by
 obtain⟨b,k,c,l,m,n,t⟩:=a.inf;have o:=yH g _ _ K j
 have v:=ej h
 have p:=wx i
 have q:J*u≠0:=Nat.mul_ne_zero p (by have:=a.pos;omega)
 have d:=FX e J
 rw[a.len] at d
 have s:k.cells=e.toArray:=by rw[<-m]
 unfold Instr.buildSlice;simp only[Sem.run_bind,run_underlying a.gf,Result.andThen_ok,run_sizeOf c,n];rw[ai aa,ai q];simp only[Sem.run_bind,uu c l,Result.andThen_ok,Sem.run_pure,s,d,o];simp[newRow]
section
variable {H:World->Prop}
def kB{out:List Value}(a:dc P j p e)(b:Nat.blt d n=true)(c:ry l m=some g)(f:hY (λh=>p[h]?) e g=some out)
 (i:aM P n ops Q rest ((d,.agg out.toArray)::l) H):aM P n ops Q (⟨some d,.build j m.toArray,ty,pos,bf,none⟩::rest) l H:=
 dB _ b (λo w k=>by
  have:=k.parts _ _ c
  simp[execOp,this,run_build a f]) i
def Bx{out:List Value}(a:je P j M e)(b:Nat.blt d n=true)(c:ry l m=some g)(f:hY (λh=>some (h*M,M)) e g=some out)
 (i:aM P n ops Q rest ((d,.agg out.toArray)::l) H):aM P n ops Q (⟨some d,.build j m.toArray,ty,pos,bf,none⟩::rest) l H:=
 dB _ b (λo w k=>by
  have:=k.parts _ _ c
  simp[execOp,this,NG a f]) i
def By{out:List Value}{b:World}{S:List Nat}{cs:List Chunk}(j:dD P f r u I e)(k:Nat.blt d n=true)(c: (Nat.ble (J*u) 16777216 && !(Nat.beq J 0))=true)
 (o:ry l m=some g) (p:hY (λq=>some (q*u,u)) (gg e J) g=some out)
 (s: ∀a,b.heap.size<=a->(∀i∈aK cs,i<a)->aM P n ops Q rest ((d,.slice (some ⟨a,0,none⟩) J J)::l) (ag b S<|aG a out r::cs)):aM P n ops Q (⟨some d,.buildSlice f J m.toArray,ty,pos,bf,none⟩::rest) l (ag b S cs):=
 iv k λx w t h=>⟨.slice (some ⟨w.heap.size,0,none⟩) J J,w.alloc<|.cells out.toArray r,by
  have:=t.parts _ _ o
  simp only[dK,p4] at c
  simp[execOp,this,NH j c.1 c.2 p],(s w.heap.size h.ext.size λi v=>h.lt v).at<|h.wD out r⟩
def FY(a:Nat.blt d n=true)(b:bi l h=some (.tuple e.toArray))(c:e[f]? = some i)
 (g:aM P n ops Q rest ((d,i)::l) H):aM P n ops Q (⟨some d,.extract h f,ty,pos,bf,none⟩::rest) l H:=
 dB _ a (λk w j=>by simp[execOp,j h _ b,Instr.extract,c]) g
end
section
variable {H:World->Prop}
def bl{c:Bool}(a:Nat)(e:look l a=some (.bool c))(b:c=true->aM P n ops Q rest l H)(d:c=false->aM P n ops Q rest l H):aM P n ops Q rest l H:=by
 cases c
 exact d rfl;exact b rfl
def rz{b:Code}{c:Operand}[Decidable V](d:bi l c=some (.bool<|decide V))(e:V->dA P n B Q l H)(f: ¬V->dA P n b Q l H):dA P n (.cond c B b) Q l H:=
 cD d (λa=>e<|bg a) λa=>f<|bm a
def mF{c :Operand}{b:Bool}(a:Nat.blt d n=true)(e:bi l c=some (.bool b))(f:b=true)(g:bi l h=some i)(j:aM P n ops Q rest ((d,i)::l) H):aM P n ops Q (⟨some d,.pick c h D,ty,pos,bf,none⟩::rest) l H:=
 Nx a (f▸e) g j
def hd{c :Operand}{b:Bool}(a:Nat.blt d n=true)(e:bi l c=some (.bool b))(f:b=false)(g:bi l D=some i)(j:aM P n ops Q rest ((d,i)::l) H):aM P n ops Q (⟨some d,.pick c h D,ty,pos,bf,none⟩::rest) l H:=
 Ny a (f▸e) g j
def qh(a:Fr)(b:World->Prop):cN
 | .normal,l,w=>Sub l a/\b w
 | _,_,_=>False
def iQ(a:Sub l G)(b: ∀w,H w->W w):eK (qh G W) .normal l H:=λw c=>⟨a,b w c⟩
end
section
variable {Q:Exit->Act->World->Prop}
def NI 
 (C: ∀(g:Nat->Bool)(i:Nat)(d:Oper)(b:Act)(w:World),ops[i]? = some d->g i=false->(∀c∈d.after,Region.binds .any c=true->g c.on=true)->X g b w->
  wpOp P ops Q i (λq r=>X (λa=>g a || a == i) q r) b w)
 (u: ∀(g:Nat->Bool)(b:Act)(w:World),(∀i,i<ops.size->g i=true)->X g b w->Q .normal b w)
 (D: ∀(i:Nat)(d:Oper),ops[i]? = some d-> ∀c∈d.after,Region.binds .any c=true->c.on<i):
 ∀(k:Nat)(listed:Array Bool)(b:Act)(w:World),listed.size=ops.size->listed.toList.count false<=k->X (λa=>listed.getD a false) b w->
  wpAny P .any ops Q k listed b w:=by
 have E: ∀(listed:Array Bool),listed.size=ops.size->Region.ready .any ops listed=[]-> ∀i,i<ops.size->listed.getD i false=true:=by
  intro listed m l i;induction i using Nat.strongRecOn with
  | _ i s=>
   intro h;cases e:listed.getD i false with
   | true=>rfl
   | false=>
    have v:i∈Region.ready .any ops listed:=by
     rw[mem_ready];refine⟨?_,ops[i],by simp[h],λc F G=>?_⟩;simp only[k5] at e ⊢
     rw[rf aa] at e ⊢
     exact e;have:=D i ops[i] (by simp[h]) c F G
     exact s c.on this aa
    rw[l] at v
    cases v
 intro k;induction k with
 | zero=>
  intro listed b w m H n;have x: ∀i,i<ops.size->listed.getD i false=true:=by
   intro i h;cases e:listed.getD i false with
   | true=>rfl
   | false=>
    have I:false∈listed.toList:=by
     simp only[k5] at e
     rw[rf aa] at e
     rw[Array.mem_toList_iff];simp only[uq] at e
     exact e▸Array.getElem_mem _
    have:=List.count_pos_iff.2 I
    omega
  refine⟨?_,u _ b w x n⟩;cases l:Region.ready .any ops listed with
  | nil=>rfl
  | cons y O=>
   have z:y∈Region.ready .any ops listed:=by rw[l];simp
   rw[mem_ready] at z
   obtain⟨f,d,o,_⟩:=z;have A:=(lr.1 o).1
   have:=x y A
   simp only[k5] at f this
   rw[rf aa] at f this
   simp only[uq] at f this
   rw[f] at this
   cases this
 | succ k s=>
  intro listed b w m H n;refine⟨λl=>u _ b w (E listed m l) n,λi h=>?_⟩;rw[mem_ready] at h
  obtain⟨f,d,o,J⟩:=h;have A:=(lr.1 o).1
  have p:listed.getD i false=false:=by
   simp only[k5] at f ⊢
   rw[rf aa] at f ⊢
   exact f
  refine wpOp_mono ?_<|C (λa=>listed.getD a false) i d b w o p J n;intro q r K;refine s (listed.setIfInBounds i true) q r (by simpa using m) ?_ ?_;have j:i<listed.size:=by omega
  have B:listed.toList[i]'(by simpa using j)=false:=by
   simp only[k5] at p
   rw[rf j] at p
   simpa using p
  have R: ((listed.setIfInBounds i true).toList).count false+1=listed.toList.count false:=by
   rw[Array.toList_setIfInBounds];have L:=List.count_set (a:=true) (b:=false) (l:=listed.toList) (i:=i) (by simpa using j)
   have S:0<listed.toList.count false:=List.count_pos_iff.2<|B▸sB _
   have M: (listed.toList[i]'(by simpa using j) == false)=true:=by rw[B];rfl
   rw[L,aB M];simp only[Bool.true_beq,Bool.false_eq_true,if_false];omega
  omega
  have c: (λa=>(listed.setIfInBounds i true).getD a false)=λa=>listed.getD a false || a == i:=by
   funext a
   by_cases t:i=a
   subst t;have j:i<listed.size:=by omega
   simp[j]
   rw[getD_set_ne false t];have: (a == i)=false:=by simp;exact λN=>t N.symm
   rw[this,Bool.or_false]
  rw[c];exact K
end
def writer(ops:List Oper)(a:Nat):Option Nat:=ops.findIdx? (λb=>match b.dst with | some c=>Nat.beq c a | none=>false)
def wE :Bool:=Y.after.any λa=>Region.binds .any a && Nat.beq a.on Z
def Bz(ops:List Oper)(b:Nat)(c:Oper)(d:Nat):Bool:=
 match writer ops d with
 | none=>true
 | some a=>match Nat.blt a b,Nat.blt b a with
  | true,_=>wE c a
  | _,true=>match ops[a]? with
   | some e=>wE e b
   | none=>false
  | _,_=>false
def aJ{P:Program}{ops:Array Oper}{H:World->Prop} :aM P f ops (qh G H) [] G H:=nD<|iQ (Sub.refl _) λ_ a=>a
def FZ{P:Program}{d g:Act}{h j:Act->World->Prop}{Q n:Exit->Act->World->Prop}(o:execOp d.eval L=execOp g.eval L)
 (f: ∀a b,h (d.put L.dst a) b->j (g.put L.dst a) b) (p: ∀k a b,¬h ({ d with defers:=k::d.defers }.put L.dst a) b) (l: ∀q b,¬Q (.panic q) d b) (r: ¬LetsOut Q)
 (c:L.wp P d v h Q):L.wp P g v j n:=by
 unfold Oper.wp at *
 rw[<-o];generalize (execOp d.eval L).run P v=m at *
 cases m with
 | ok i b=>
  cases i <;> simp only[Oper.upon] at c ⊢
  case value a=>exact f _ _ c
  case skip=>exact f _ _ c
  case defer k=>exact absurd c<|p _ _ _
  case enter w s=>
   refine Calls.mono c ?_;intro t u e;cases t with
   | returned a=>exact f _ _ e
   | panicked x=>exact absurd e<|l _ _
   | outgrown=>exact absurd e r
  case row m s=>exact Rows.mono c λa u e=>f _ _ e
 | halt i b=>
  cases i <;> simp only[Oper.upon] at c ⊢
  case panic a=>exact absurd c<|l _ _
def NJ{c:Type}{d:c->Bool}: ∀{a:List c} {b:Nat},a.findIdx? d=some b-> ∃e,a[b]? = some e/\d e=true:=by
 intro a b f;rw[List.findIdx?_eq_some_iff_getElem] at f
 obtain⟨g,h,_⟩:=f;exact⟨a[b],bD g,h⟩
def yI(c:wE L f=true): ∃a∈L.after,Region.binds .any a=true/\a.on=f:=by
 unfold wE at c
 obtain⟨a,d,b⟩:=Array.any_eq_true'.1 c;simp only[dK] at b
 exact⟨a,d,b.1,gX b.2⟩
def ag.drew{a:List Nat}(b:ag v a o O):ag v a o O.drew:=b.keep ⟨rfl,rfl,rfl,cC _,λ_ _ _=>rfl⟩
def mG{P:Program}{Q:cN}{H:World->Prop}(a:Fr)(d:World->Prop)(g:dA P f B (qh a d) G H)(h:eK Q .normal a d):dA P f B Q G H:=by
 intro b i e j;refine wp_mono (g b i e j) ?_;rintro k e b ⟨m,l,c⟩;cases k with
 | normal=>exact⟨a,l.sub c.1,h b c.2⟩
 | _=>exact c.elim
section
variable {H:World->Prop}
variable {cS et:TypeId}{x y:Operand}{k:IntKind}{a b:Int}
def pd(c:Nat.blt d n=true)(e:bi l x=some (.int k a))(f:bi l y=some (.int k b))(g:0<=a)(i:0<b)
 (h:aM P n ops Q rest ((d,.int k<|a%b)::l) H):aM P n ops Q (⟨some d,.binOp .rem cS x y et,ty,pos,bf,none⟩::rest) l H:=
 Nz c e f aa (Int.tmod_eq_emod_of_nonneg g) h
def uy(e:Nat.blt d n=true)(f:bi l x=some (.int .i64 a))(g:bi l y=some (.int .i64 b))(c:0<=a)(i:0<b)(j:a<=9223372036854775807)
 (h:aM P n ops Q rest ((d,.int .i64<|a/b)::l) H):aM P n ops Q (⟨some d,.binOp .quo cS x y et,ty,pos,bf,none⟩::rest) l H:=
 NA e f g aa (by
  rw[Int.tdiv_eq_ediv_of_nonneg c];have k:0<=a/b:=Int.ediv_nonneg c aa
  have m:a/b<=a:=Int.ediv_le_self _ c
  exact wrap64 aa aa) h
def qi(c:Nat.blt d n=true)(e:bi l x=some (.int k a))(b:k.wrap (0 - a)=q)
 (f:aM P n ops Q rest ((d,.int k q)::l) H):aM P n ops Q (⟨some d,.unOp .neg cS x,ty,pos,bf,none⟩::rest) l H:=
 dB _ c (λh i g=>by simp[execOp,g x _ e,Op.unary,Op.intArith] at b ⊢;exact b) f
section
abbrev bs(s:List UInt8):ByteArray:=⟨s.toArray⟩
abbrev ad(n:Int):Value:= .int .i64 n
abbrev z0:Value:= .int .i64 0
abbrev bU(s:List UInt8):Value:= .string<|bs s
def bs_self(s:ByteArray):bs s.data.toList=s:=by cases s;simp[bs]
def jf(s:List UInt8): (bs s).size=s.length:=by simp[bs,ByteArray.size]
def NK(s t:List UInt8):bs s++bs t=bs (s++t):=by
 apply ByteArray.ext
 simp[bs]
def yJ(s:List UInt8): (bs s).toList=s:=ByteArray.toList_mk s
variable {s t:List UInt8}{j1:TypeId}
def F0(a:P.underlying j1=some .string)(b:Nat.blt d n=true)(c:bi l x=some (.string<|bs s))
 (e:aM P n ops Q rest ((d,.int .i64 (s.length:Int))::l) H):aM P n ops Q (⟨some d,.call ⟨.builtin .len,#[x],#[j1]⟩,ty,pos,bf,none⟩::rest) l H:=
 dB _ b (λh i f=>by
  have g:=jf s
  simp[execOp,resolve,invoke,builtin,Builtin.len_,goInt,run_underlying a,f x _ c,g]) e
def eb(b:Nat.blt d n=true)(c:bi l x=some (.string<|bs s))(e:bi l y=some (.string<|bs t))(h: ((s.length+t.length:Nat):Int)<=9223372036854775807)
 (f:aM P n ops Q rest ((d,.string<|bs<|s++t)::l) H):aM P n ops Q (⟨some d,.binOp .add cS x y et,ty,pos,bf,none⟩::rest) l H:=
 dB _ b (λi j a=>by
  have g: ¬(((bs s).size+(bs t).size:Nat):Int)>IntKind.i64.max:=by rw[jf,jf,IntKind.max_i64];omega
  simp only[execOp,a x _ c,a y _ e,eqGuard,binOp,Op.stringOp,ai g,NK];simp) f
def BA(b:Nat.blt d n=true)(c:bi l x=some (.string<|bs s))(e:bi l y=some (.string<|bs t))
 (f:aM P n ops Q rest ((d,.bool<|decide<|s=t)::l) H):aM P n ops Q (⟨some d,.binOp .eql cS x y et,ty,pos,bf,none⟩::rest) l H:=
 dB _ b (λi j a=>by
  have g: ((bs s).toList == (bs t).toList)=decide (s=t):=by
   rw[yJ,yJ];by_cases h:s=t <;> simp[h]
  simp only[execOp,a x _ c,a y _ e,eqGuard,binOp,Op.stringOp,g];simp) f
def BB(b:Nat.blt d n=true)(c:bi l x=some (.string<|bs s))(e:bi l y=some (.string<|bs t))
 (f:aM P n ops Q rest ((d,.bool<|decide<|s≠t)::l) H):aM P n ops Q (⟨some d,.binOp .neq cS x y et,ty,pos,bf,none⟩::rest) l H:=
 dB _ b (λi j a=>by
  have g: ((bs s).toList == (bs t).toList)=decide (s=t):=by
   rw[yJ,yJ];by_cases h:s=t <;> simp[h]
  simp only[execOp,a x _ c,a y _ e,eqGuard,binOp,Op.stringOp,g];simp) f
def j2{q:Nat}{b:Int}{c:UInt8}(g:P.underlying j1=some .string)(i:Nat.blt d n=true)(j:bi l x=some (.string<|bs s))(m:bi l h=some (.int k b))(o:b=(q:Int))(a:s[q]? = some c)
 (p:aM P n ops Q rest ((d,.int .u8 (c.toNat:Int))::l) H):aM P n ops Q (⟨some d,.index j1 x h,ty,pos,bf,none⟩::rest) l H:=by
 subst o;refine dB _ i (λt u e=>?_) p;have f:q<s.length:=(cH.1 a).1
 have r: (bs s)[q]? = some c:=by
  rw[ByteArray.getElem?_lt' _ _ (by rw[jf];exact f)];rw[bD f] at a
  rw[<-a];rfl
 simp[execOp,e x _ j,e h _ m,Instr.index,asIntOf,run_underlying g,r]
def NL(s:List UInt8)(a b:Nat): (bs s).extract a b=bs ((s.take b).drop a):=by
 apply ByteArray.ext
 simp[bs,List.drop_take]
def BC{w:World}{lo hi:Option Value}{a b:Nat}(c:P.underlying j1=some .string)(d:lo=some (.int k (a:Int))\/lo=none/\a=0)(e:hi=some (.int k (b:Int))\/hi=none/\b=s.length)(f:a<=b)(g:b<=s.length):
 (Instr.slice j1 (.string<|bs s) lo hi none).run P w= .ok (.string<|bs<|(s.take b).drop a) w:=by
 have h:=jf s
 unfold Instr.slice Instr.sliceBounds;rcases d with rfl | ⟨rfl,rfl⟩ <;> rcases e with rfl | ⟨rfl,rfl⟩ <;>
  simp[run_underlying c,Instr.sliceBound,asIntOf,h,NL,f,g]
def NM{e:Int}(a b:Nat)(f:P.underlying j1=some .string)(g:Nat.blt d n=true)(i:bi l x=some (.string<|bs s))(j:bi l h=some (.int .i64 q))(k:bi l D=some (.int .i64 e))(m:q=(a:Int))(o:e=(b:Int))(p:a<=b)(r:b<=s.length)
 (t:aM P n ops Q rest ((d,.string<|bs<|(s.take b).drop a)::l) H):aM P n ops Q (⟨some d,.slice j1 x (some h) (some D) none,ty,pos,bf,none⟩::rest) l H:=by
 subst m;subst o
 refine dB _ g (λv u c=>?_) t;have:=BC (k:= .i64) (w:=u) (lo:=some<|.int .i64 (a:Int)) (hi:=some<|.int .i64 (b:Int)) f (.inl rfl) (.inl rfl) p r
 simp[execOp,c x _ i,c h _ j,c D _ k,Instr.sliceAt,run_underlying f,this]
def sR(a:Nat)(b:P.underlying j1=some .string)(e:Nat.blt d n=true)(f:bi l x=some (.string<|bs s))(g:bi l h=some (.int .i64 q))(i:q=(a:Int))(j:a<=s.length)
 (k:aM P n ops Q rest ((d,.string<|bs<|s.drop a)::l) H):aM P n ops Q (⟨some d,.slice j1 x (some h) none none,ty,pos,bf,none⟩::rest) l H:=by
 subst i;refine dB _ e (λo m c=>?_) k;have:=BC (k:= .i64) (w:=m) (lo:=some<|.int .i64 (a:Int)) (hi:=none) b (.inl rfl) (.inr ⟨rfl,rfl⟩) j<|cC s.length
 rw[um] at this
 simp[execOp,c x _ f,c h _ g,Instr.sliceAt,run_underlying b,this]
def sS(b:Nat)(a:P.underlying j1=some .string)(e:Nat.blt d n=true)(f:bi l x=some (.string<|bs s))(g:bi l h=some (.int .i64 q))(i:q=(b:Int))(j:b<=s.length)
 (k:aM P n ops Q rest ((d,.string<|bs<|s.take b)::l) H):aM P n ops Q (⟨some d,.slice j1 x none (some h) none,ty,pos,bf,none⟩::rest) l H:=by
 subst i;refine dB _ e (λo m c=>?_) k;have:=BC (k:= .i64) (w:=m) (lo:=none) (hi:=some<|.int .i64 (b:Int)) a (.inr ⟨rfl,rfl⟩) (.inl rfl) (b4 _) j
 rw[ol] at this
 simp[execOp,c x _ f,c h _ g,Instr.sliceAt,run_underlying a,this]
def F1{t:TypeId}(a: ∀b:Nat,(Op.equalIn (b+1) t i N).run P v= .ok C O): (Op.equal t i N).run P v= .ok C O:=a 9999
def run_equalIn_bool{e:Nat}{t:TypeId}{p q:Bool}{w:World}(a:P.underlying t=some .bool): (Op.equalIn (e+1) t (.bool p)<|.bool q).run P w= .ok (p == q) w:=by
 simp[Op.equalIn,run_underlying a]
def BD(c:P.underlying cS=some .bool)(e:Nat.blt d n=true)(f:bi l x=some (.bool C))(g:bi l y=some (.bool R))
 (h:aM P n ops Q rest ((d,.bool<|C == R)::l) H):aM P n ops Q (⟨some d,.binOp .eql cS x y et,ty,pos,bf,none⟩::rest) l H:=
 dB _ e (λj i b=>by
  have a:=F1 λa=>run_equalIn_bool (P:=P) (e:=a) (p:=C) (q:=R) (w:=i) c
  simp[execOp,b x _ f,b y _ g,eqGuard,binOp,a]) h
def F2(c:P.underlying cS=some .bool)(e:Nat.blt d n=true)(f:bi l x=some (.bool C))(g:bi l y=some (.bool R))
 (h:aM P n ops Q rest ((d,.bool<|!(C == R))::l) H):aM P n ops Q (⟨some d,.binOp .neq cS x y et,ty,pos,bf,none⟩::rest) l H:=
 dB _ e (λj i b=>by
  have a:=F1 λa=>run_equalIn_bool (P:=P) (e:=a) (p:=C) (q:=R) (w:=i) c
  simp[execOp,b x _ f,b y _ g,eqGuard,binOp,a]) h
