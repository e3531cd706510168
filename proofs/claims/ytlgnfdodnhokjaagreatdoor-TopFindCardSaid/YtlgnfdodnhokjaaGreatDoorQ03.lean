/- part 3 of the proof -/
import Derived.Test.YtlgnfdodnhokjaaGreatDoorQ02
import Derived.Orders
import Derived.Laws.Strings
namespace Go.Proofs.YtlgnfdodnhokjaaGreatDoor.Mq
open Go Go.RowKit
section
theorem add_add (a:Addr) (i j:Nat): (a.add i).add j=a.add (i+j):=by
 unfold Addr.add;by_cases hi:i=0 <;> by_cases b:j=0 <;> simp[hi,b,qO]
theorem block_add (a:Addr) (i:Nat): (a.add i).block=a.block:=by unfold Addr.add;split <;> rfl
structure bA (α:Type) where
 enc:α→List Value
 sz:Nat
 len: ∀a,(enc a).length=sz
 jc: ∀a,aI (enc a)
section
variable {α:Type} (E:bA α)
def bA.all (l:List α):List Value:=l.flatMap E.enc
theorem bA.dI (l:List α): (E.all l).length=l.length*E.sz:=by
 induction l with
 | nil=>simp[bA.all]
 | cons a l b=>simp only[bA.all,jX,b6,E.len,eO] at *;rw[b,ja];omega
theorem bA.all_append (l r:List α):E.all (l++r)=E.all l++E.all r:=by simp[bA.all]
theorem bA.hn (l:List α) (a:α):E.all (l++[a])=E.all l++E.enc a:=by simp[bA.all]
theorem bA.lQ {l:List α} {k:Nat} {a:α} (c:l[k]? = some a) {j:Nat} {u:Value} (d: (E.enc a)[j]? = some u): (E.all l)[k*E.sz+j]? = some u:=by
 induction l generalizing k with
 | nil=>simp at c
 | cons b l e=>
  have f:E.all (b::l)=E.enc b++E.all l:=by simp[bA.all]
  have g:j<E.sz:=by
   have:=(cK.1 d).1
   rwa [E.len] at this
  rw[f];cases k with
  | zero=>
   simp only[qJ,dA] at c
   subst c;rw[qT,dE,mA (by rw[E.len];exact g)];exact d
  | succ k=>
   simp only[List.getElem?_cons_succ] at c
   rw[kp (by rw[E.len,ja];omega),E.len];have: (k+1)*E.sz+j - E.sz=k*E.sz+j:=by rw[ja];omega
   rw[this];exact e c
theorem bA.wI (l:List α):aI (E.all l):=by
 intro u b;obtain⟨a,_,c⟩:=List.mem_flatMap.1 b;exact E.jc a u c
end
theorem bA.pF {α:Type} (E:bA α) {L:List α} {i j:Nat} {a a':α} {v:Value} (hi:L[i]? = some a) (d:j<E.sz) (e:E.enc a'=(E.enc a).set j v): (E.all L).set (i*E.sz+j) v=E.all (L.set i a'):=by
 induction L generalizing i with
 | nil=>simp at hi
 | cons b L f=>
  have c: ∀(x:α) (l:List α),E.all (x::l)=E.enc x++E.all l:=λx l=>by simp[bA.all]
  cases i with
  | zero=>
   simp only[qJ,dA] at hi
   subst hi;rw[mE,c,c,e,qT,dE,List.set_append_left _ _ (by rw[E.len];exact d)]
  | succ i=>
   simp only[List.getElem?_cons_succ] at hi
   rw[qM,c,c,sa _ _ (by rw[E.len,ja];omega),E.len];have: (i+1)*E.sz+j - E.sz=i*E.sz+j:=by rw[ja];omega
   rw[this,f hi]
structure Rd {α:Type} (E:bA α) (w:World) (F:Nat→Prop) (A:Option Addr) (n c:Nat) (l:List α):Prop where
 len:l.length=n
 cap:n≤c
 max:c≤maxLen
 cells:0<n→ ∃bY,A=some bY∧F bY.block∧ ∀k a j u,l[k]? = some a→(E.enc a)[j]? = some u→w.cell? ((bY.add (k*E.sz)).add j)=some u
section
variable {α:Type} {E:bA α} {w w':World} {F:Nat→Prop} {A:Option Addr} {n c:Nat} {l:List α}
theorem Rd.nil (E:bA α) (w:World) (F:Nat→Prop) (c:Nat) (a:c≤maxLen) (A:Option Addr):Rd E w F A 0 c []:=⟨rfl,bP _,a,λh=>absurd h aa⟩
theorem Rd.ext {S:List Nat} (h:Rd E w F A n c l) (d:Ext S w w') (e: ∀k,F k→k∉S):Rd E w' F A n c l:=by
 refine⟨h.len,h.cap,h.max,λf=>?_⟩;obtain⟨bY,g,b,i⟩:=h.cells f;refine⟨bY,g,b,λk a j u m o=>?_⟩;have:=i k a j u m o
 rw[d.cell (World.block_lt_of_cell? _ _ this) (by rw[block_add,block_add];exact e _ b)];exact this
theorem Rd.dJ (h:Rd E w F A n c l) (b:Ext [] w w'):Rd E w' F A n c l:=by
 refine⟨h.len,h.cap,h.max,λd=>?_⟩;obtain⟨bY,e,f,g⟩:=h.cells d;refine⟨bY,e,f,λk a j u i m=>?_⟩;have:=g k a j u i m
 rw[b.cell (World.block_lt_of_cell? _ _ this) av];exact this
theorem Rd.dC {F':Nat→Prop} (h:Rd E w F A n c l) (a: ∀k,F k→F' k):Rd E w F' A n c l:=by
 refine⟨h.len,h.cap,h.max,λb=>?_⟩;obtain⟨bY,d,e,f⟩:=h.cells b;exact⟨bY,d,a _ e,f⟩
theorem Rd.gf {e:Nat} {v:Value} {m:Nat} (h:w.ownsRow 0 e E.sz v m (E.all l)) (b:l.length=m): ∃A c,v= .slice A m c∧Rd E w (λk=>v.ownBlock=some k) A m c l:=by
 rcases h.2 with ⟨rfl,rfl⟩ | ⟨g,cap,am,rfl,_,o,d,f,_⟩
 exact⟨none,0,rfl,⟨b,bW _,aZ,λh=>absurd h aa⟩⟩;refine⟨_,cap,rfl,⟨b,d,f,λ_=>⟨⟨g,0,none⟩,rfl,rfl,λk a j u i n=>?_⟩⟩⟩;rw[add_add];exact h.cells rfl _ _ (E.lQ i n)
end
section
variable {P:Program} {n:Nat} {ops:Array Oper} {Q:cq} {rest:List Oper} {l:Fr} {d:Nat} {ty:TypeId} {pos:String} {a7:Array Edge}
variable {b:World} {S:List Nat} {cs:List Chunk}
theorem wJ {w:World} {e sz m:Nat} {v:Value} {xs:List Value} (h:w.ownsRow 0 e sz v m xs): ∃A c,v= .slice A m c:=by
 rcases h.2 with ⟨rfl,rfl⟩ | ⟨g,cap,am,rfl,_⟩
 exact⟨none,0,rfl⟩;exact⟨_,cap,rfl⟩
theorem DV {e sz m:Nat} {g c:Nat}: ∀(vs:List Value) (xs:List Value) (w:World) (o i:Nat),w.ownsRow 0 e sz (.slice (some ⟨g,0,none⟩) m c) m xs→o+i+vs.length≤xs.length→aI vs→
 ∃w',(storeCells (⟨g,o,none⟩ :Addr) vs i).run P w= .ok () w'∧w'.ownsRow 0 e sz (.slice (some ⟨g,0,none⟩) m c) m (df xs (o+i) vs)∧Ext [g] w w'
 | [],xs,w,o,i,h,_,_=>⟨w,by simp[storeCells],by simpa [df] using h,Ext.refl _ _⟩
 | v::vs,xs,w,o,i,h,l,d=>by
  simp only[eO] at l
  have n: (⟨g,o,none⟩ :Addr).add i=⟨g,o+i,none⟩:=Addr.add_lit g o i
  have p:=h.1
  rcases h.2 with ⟨a,_⟩ | ⟨F,cap,am,a,q,b,f,r,j,s⟩
  cases a
  injection a with k G t
  simp only[dA,Addr.mk.injEq,and_true] at k
  subst k;subst t
  have x:o+i<am.size:=by
   rw[j];have:m*sz≤c*sz:=k1 _ f
   omega
  have y:w.cell? ⟨g,o+i,none⟩=some am[o+i]:=by
   rw[cell_of_row w g (o+i) am e (0,0) b];simp[x]
  have z:w.frozen? ⟨g,o+i,none⟩=false:=by simp[World.frozen?,b]
  have A: (w.setCell ⟨g,o+i,none⟩ v).ownsRow 0 e sz (.slice (some ⟨g,0,none⟩) m c) m (xs.set (o+i) v):=by
   refine⟨by simpa using p,.inr ⟨g,c,am.setIfInBounds (o+i) v,rfl,q,by simp[World.setCell,qG,b],f,r,by simpa using j,?_⟩⟩;rw[Array.toList_setIfInBounds,←s];rw[List.take_set]
  obtain⟨w',B,C,a⟩:=DV (m:=m) vs (xs.set (o+i) v) (w.setCell ⟨g,o+i,none⟩ v) o (i+1) A (by simp;omega) (λu D=>d u (by simp[D]));refine⟨w',?_,by simpa [df,qO] using C,(Ext.setCell w ⟨g,o+i,none⟩ v).trans a av⟩;have E:=run_store P w ⟨g,o+i,none⟩ v .plain (d v av)
  simp only[storeCells,n,Sem.run_bind,E,y,z];simpa using B
theorem af.so {w:World} {e sz m g c:Nat} {xs:List Value} {cs':List Chunk} (h:af b S cs w) {o:Nat} {vs:List Value} (d:o+vs.length≤xs.length) (f:aI vs)
 (a:bn cs (own e sz (.slice (some ⟨g,0,none⟩) m c) m xs) (own e sz (.slice (some ⟨g,0,none⟩) m c) m (df xs o vs)) cs'):
 ∃w',(storeCells (⟨g,o,none⟩ :Addr) vs 0).run P w= .ok () w'∧af b S cs' w':=by
 obtain⟨w',i,j,l⟩:=DV (P:=P) vs xs w o 0 (h.has a.has) (by simpa using d) f;exact⟨w',i,h.ie a l j (λk n=> .inl n) (by simp[own,Value.ownBlock])⟩
theorem k4 {x y:Operand} {t:Nat} {z v:Value} {p:Addr} {e sz m g c o:Nat} {xs:List Value} {cs':List Chunk} (f:cL P t z) (j:ba l x=some (.pointer (some p))) (k:ba l y=some v) (q:bn cs (own e sz (.slice (some ⟨g,0,none⟩) m c) m xs) (own e sz (.slice (some ⟨g,0,none⟩) m c) m (xs.set o v)) cs') (ai:p=⟨g,o,none⟩)
 (a:v.oneCell'=true) (r:o<xs.length)
 (h:az P n ops Q rest l (af b S cs')):az P n ops Q (⟨none,.store t x y,ty,pos,a7,none⟩::rest) l (af b S cs):=by
 subst ai;obtain⟨i,s,_,u⟩:=f.inf;refine uB λD w d A=>?_
 obtain⟨w',B,C⟩:=A.so (P:=P) (vs:=[v]) r (by simpa [aI] using a) q;refine⟨w',?_,h.at C⟩;simp[execOp,Instr.storeAt,d x _ j,d y _ k,Instr.sureAddr,storeVar,run_sizeOf s,u,wH a,B]
theorem mI {x y:Operand} {t a:Nat} {z vs:List Value} {p:Addr} {e sz m g c o:Nat} {xs:List Value} {cs':List Chunk} (f:cD P t a z) (j:ba l x=some (.pointer (some p))) (k:ba l y=some (.agg vs.toArray)) (q:bn cs (own e sz (.slice (some ⟨g,0,none⟩) m c) m xs) (own e sz (.slice (some ⟨g,0,none⟩) m c) m (df xs o vs)) cs') (ai:p=⟨g,o,none⟩)
 (r:vs.length=a) (s:aI vs) (u:o+vs.length≤xs.length)
 (h:az P n ops Q rest l (af b S cs')):az P n ops Q (⟨none,.store t x y,ty,pos,a7,none⟩::rest) l (af b S cs):=by
 subst ai;obtain⟨i,v,_,A⟩:=f.inf;refine uB λE w d B=>?_
 obtain⟨w',C,D⟩:=B.so (P:=P) u s q;refine⟨w',?_,h.at D⟩;simp[execOp,Instr.storeAt,d x _ j,d y _ k,Instr.sureAddr,storeVar,run_sizeOf v,A,r,Value.cells,C]
theorem jd {e sz m:Nat} {v:Value} {xs:List Value} (d:Has cs (own e sz v m xs)) (h: ∀A c,v= .slice A m c→m≤c→c≤maxLen→xs.length=m*sz→(0<m→ ∃g,A=some ⟨g,0,none⟩)→az P n ops Q rest l (af b S cs)):az P n ops Q rest l (af b S cs):=by
 intro w a;have:=a.has d
 rcases this.2 with ⟨rfl,f⟩ | ⟨g,cap,am,rfl,_,_,i,j,_⟩
 exact h none 0 (by rw[f]) aa aZ this.1 (λai=>absurd ai aa) w a;exact h _ cap rfl i j this.1 (λ_=>⟨g,rfl⟩) w a
theorem hE {d:Code} {e sz m:Nat} {v:Value} {xs:List Value} (f:Has cs (own e sz v m xs)) (h: ∀A c,v= .slice A m c→m≤c→c≤maxLen→xs.length=m*sz→(0<m→ ∃g,A=some ⟨g,0,none⟩)→dc P n d Q l (af b S cs)):dc P n d Q l (af b S cs):=by
 intro w a;have:=a.has f
 rcases this.2 with ⟨rfl,i⟩ | ⟨g,cap,am,rfl,_,_,j,k,_⟩
 exact h none 0 (by rw[i]) aa aZ this.1 (λai=>absurd ai aa) w a;exact h _ cap rfl j k this.1 (λ_=>⟨g,rfl⟩) w a
theorem af.DW {w:World} (h:af b S cs w) {e sz m g c o:Nat} {xs:List Value} (a:Has cs (own e sz (.slice (some ⟨g,0,none⟩) m c) m xs)) {v:Value} (d:xs[o]? = some v):w.cell? ⟨g,o,none⟩=some v:=by
 have:=(h.has a).cells (g:=g) rfl o v d
 rwa [Addr.add_lit,dE] at this
theorem qW {H:World→Prop} {x i:Operand} {t e len sz:Nat} {p:Addr} {q:Nat} {k:IntKind} {j:Int} (f:P.underlying t=some (.array len e)) (b: (P.info? e).map (·.size)=some sz) (ak:Nat.blt d n=true) (g:ba l x=some (.pointer (some p))) (hi:ba l i=some (.int k j))
 (m:j=(q:Int)) (r:q<len)
 (h:az P n ops Q rest ((d,.pointer (some (p.add (q*sz))))::l) H):az P n ops Q (⟨some d,.indexAddr t x i,ty,pos,a7,none⟩::rest) l H:=by
 subst m;cases a:P.info? e with
 | none=>simp[a] at b
 | some inf=>
  have o:inf.size=sz:=by simpa [a] using b
  refine dd _ ak (λs w c=>?_) h;simp[execOp,c x _ g,c i _ hi,Instr.indexAt,asIntOf,run_underlying f,run_sizeOf a,o,Instr.sureAddr]
  omega
end
theorem aI.nil:aI []:=λ_ h=>by simp at h
theorem aI.cons {v:Value} {vs:List Value} (h:v.oneCell'=true) (a:aI vs):aI (v::vs):=λu hu=>by
 rcases e1.1 hu with rfl | hu
 exact h;exact a u hu
theorem aE.bt {P:Program} {s i off:Nat} (h: (match P.underlying s with
 | some (.struct c8)=>match c8[i]? with
  | some f=>match P.info? f.type with
   | some j=>Nat.ble 1 j.size && Nat.beq f.offset off
   | none=>false
  | none=>false
 | _=>false)=true):aE P s i off:=by
 split at h
 rename_i c8 a;split at h
 rename_i f b;split at h
 rename_i j c;simp only[d4] at h
 have:=dV h.1
 exact⟨c8,f,j,a,b,c,aa,gd h.2⟩;cases h
 cases h
 cases h
theorem ad.of {P:Program} {f:FuncId} {fn:Func} (a:P.funcs[f]? = some fn) (b: (fn.name == "runtime.NumGoroutine")=false) (c:fn.body.isNone=false):ad P f:=⟨fn,a,b,c⟩
def putAt (cells:List Value) (off:Nat) (vs:List Value):List Value:=df cells off vs
def hF (a:Nat→Option (Nat × Nat)) (cells:List Value):List (Nat × Value)→Option (List Value)
 | []=>some cells
 | (i,v)::rest=>match a i with
  | none=>none
  | some (off,size)=>match Nat.beq v.cells.toList.length size,Nat.ble (off+v.cells.toList.length) cells.length with
   | true,true=>hF a (putAt cells off v.cells.toList) rest
   | _,_=>none
theorem DX: ∀(vs:List Value) (k:Nat) (xs:List Value) (off:Nat),
 ((vs.zipIdx k).foldl (λ(cs:Array Value) (x:Value × Nat)=>cs.setIfInBounds (off+x.2) x.1) xs.toArray)=(df xs (off+k) vs).toArray
 | [],k,xs,off=>by simp[df]
 | v::vs,k,xs,off=>by
  simp only[List.zipIdx_cons,r6,List.setIfInBounds_toArray,df];rw[DX vs (k+1) (xs.set (off+k) v) off,qO]
theorem wK: ∀(b:List (Nat × Value)) (a:Nat→Option (Nat × Nat)) (cells out:List Value),hF a cells b=some out→Instr.fill a cells.toArray b=some out.toArray
 | [],a,cells,out,h=>by simp only[hF,dA] at h;subst h;rfl
 | (i,v)::rest,a,cells,out,h=>by
  simp only[hF] at h
  unfold Instr.fill;cases ai:a i with
  | none=>rw[ai] at h;cases h
  | some os=>
   obtain⟨off,size⟩:=os;rw[ai] at h
   simp only at h ⊢
   split at h
   rename_i f g;have c:=gd f
   have j:=dV g
   rw[ag (by
    simp only[lI] at c j
    simp[c,List.size_toArray]
    omega)]
   have d:=DX v.cells.toList 0 cells off
   rw[Nat.add_zero] at d
   have e:Array.foldl (λ(cs:Array Value) (x:Value × Nat)=>cs.setIfInBounds (off+x.2) x.1) cells.toArray v.cells.zipIdx=(df cells off v.cells.toList).toArray:=by
    rw[←d,←Array.foldl_toList,Array.toList_zipIdx]
   exact (aU (λz=>Instr.fill a z rest) e).trans (wK rest a _ out h);cases h
class cE (P:Program) (t:TypeId) (pl:outParam (List (Nat × Nat))) (z:outParam (List Value)):Prop where
 hC: ∃c8 i,P.underlying t=some (.struct c8)∧P.info? t=some i∧i.zero=some (.agg z.toArray)∧c8.toList.map (λf=>(f.offset,(P.info? f.type).map (·.size)))=pl.map (λp=>(p.1,some p.2))
theorem cE.of {P:Program} {t:TypeId} {pl:List (Nat × Nat)} {z:List Value}
 (a: (match P.underlying t with | some (.struct c8)=>some (c8.toList.map (λf=>(f.offset,(P.info? f.type).map (·.size)))) | _=>none)=some (pl.map (λp=>(p.1,some p.2))))
 (b: (P.info? t).map (·.zero)=some (some (.agg z.toArray))):cE P t pl z:=by
 split at a
 rename_i c8 c;cases hi:P.info? t with
 | none=>simp[hi] at b
 | some i=>exact⟨c8,i,c,hi,by simpa [hi] using b,by simpa using a⟩
 cases a
theorem DY {P:Program} {w:World}: ∀(c8:List Field) (pl:List (Nat × Nat)),c8.map (λf=>(f.offset,(P.info? f.type).map (·.size)))=pl.map (λp=>(p.1,some p.2))→
 (c8.mapM (λf=>(do pure (f.offset,←sizeOf f.type):Sem (Nat × Nat)))).run P w= .ok pl w
 | [],pl,h=>by
  cases pl with
  | nil=>rfl
  | cons p pl=>simp at h
 | f::c8,pl,h=>by
  cases pl with
  | nil=>simp at h
  | cons p pl=>
   simp only[lM,r4,Prod.mk.injEq] at h
   obtain⟨⟨c,a⟩,d⟩:=h;have b:=DY (P:=P) (w:=w) c8 pl d
   cases hi:P.info? f.type with
   | none=>simp[hi] at a
   | some i=>
    have e:i.size=p.2:=by simpa [hi] using a
    simp only[List.mapM_cons,Sem.run_bind,run_sizeOf hi,Result.andThen_ok,Sem.run_pure] at b ⊢
    rw[b];simp[c,e]
theorem run_build {P:Program} {t:TypeId} {pl:List (Nat × Nat)} {z out:List Value} {a:List (Nat × Value)} {w:World} (h:cE P t pl z) (b:hF (λi=>pl[i]?) z a=some out):
 (Instr.build t a.toArray).run P w= .ok (.agg out.toArray) w:=by
 obtain⟨c8,i,c,d,g,j⟩:=h.hC;have k: (c8.mapM (λf=>(do pure (f.offset,←sizeOf f.type):Sem (Nat × Nat)))).run P w= .ok pl.toArray w:=by
  rw[Array.mapM_eq_mapM_toList];have:=DY (P:=P) (w:=w) c8.toList pl j
  simp only[Sem.run_map,this,Result.andThen_ok]
 have l:=wK a (λi=>pl[i]?) z out b
 unfold Instr.build;simp only[Sem.run_bind,sl d g,Result.andThen_ok,run_underlying c,k];have e:Instr.fill (λx=>pl.toArray[x]?) (Value.agg z.toArray).cells a=some out.toArray:=by
  simpa [Value.cells] using l
 simp only[List.getElem?_toArray] at e ⊢
 simp only[e];rfl
class hG (P:Program) (t:TypeId) (sz:outParam TypeId) (z:outParam (List Value)):Prop where
 hC: ∃len e i j,P.underlying t=some (.array len e)∧P.info? t=some i∧i.zero=some (.agg z.toArray)∧P.info? e=some j∧j.size=sz
theorem hG.of {P:Program} {t sz:TypeId} {z:List Value}
 (a: (match P.underlying t with | some (.array _ e)=>(P.info? e).map (·.size) | _=>none)=some sz)
 (c: (P.info? t).map (·.zero)=some (some (.agg z.toArray))):hG P t sz z:=by
 split at a
 rename_i len e d;cases hi:P.info? t with
 | none=>simp[hi] at c
 | some i=>cases b:P.info? e with
  | none=>simp[b] at a
  | some j=>exact⟨len,e,i,j,d,hi,by simpa [hi] using c,b,by simpa [b] using a⟩
 cases a
theorem L9 {P:Program} {t sz:TypeId} {z out:List Value} {a:List (Nat × Value)} {w:World} (h:hG P t sz z) (b:hF (λi=>some (i*sz,sz)) z a=some out):
 (Instr.build t a.toArray).run P w= .ok (.agg out.toArray) w:=by
 obtain⟨len,e,i,j,c,d,f,g,k⟩:=h.hC;have l:=wK a _ z out b
 unfold Instr.build;simp only[Sem.run_bind,sl d f,Result.andThen_ok,run_underlying c,run_sizeOf g,k];have e:Instr.fill (λi=>some (i*sz,sz)) (Value.agg z.toArray).cells a=some out.toArray:=by simpa [Value.cells] using l
 simp only[e];rfl
def pG (l:Fr):List (Nat × Operand)→Option (List (Nat × Value))
 | []=>some []
 | (i,x)::xs=>match ba l x,pG l xs with
  | some v,some vs=>some ((i,v)::vs)
  | _,_=>none
theorem mH.parts {l:Fr} {b:Operand→Value} (h:mH l b): ∀(xs:List (Nat × Operand)) (vs:List (Nat × Value)),pG l xs=some vs→xs.map (λp=>(p.1,b p.2))=vs
 | [],vs,a=>by simp[pG] at a;simp[a]
 | (i,x)::xs,vs,a=>by
  simp only[pG] at a
  split at a
  rename_i v c d e;simp only[dA] at a
  subst a;simp[h x v d,h.parts xs c e]
  cases a
def ff (z:List Value):Nat→List Value
 | 0=>[]
 | k+1=>z++ff z k
theorem zq (z:List Value) (k:Nat): (ff z k).length=k*z.length:=by
 induction k with
 | zero=>simp[ff]
 | succ k a=>simp[ff,a,ja];omega
theorem DZ (z:List Value): ∀(k i:Nat),i<k*z.length→(ff z k)[i]? = z[i%z.length]?
 | 0,i,h=>by simp at h
 | k+1,i,h=>by
  simp only[ff];by_cases hi:i<z.length
  rw[mA hi,Nat.mod_eq_of_lt hi];rw[kp aa,DZ z k (i - z.length) (by rw[ja] at h;omega)];congr 1
  conv=>rhs;rw[show i=(i - z.length)+z.length by omega]
  rw[Nat.add_mod_right]
theorem D0 (z:List Value) (k:Nat): ((Array.range (k*z.length)).map (λx=>z.toArray[x%z.toArray.size]!))=(ff z k).toArray:=by
 apply Array.ext_getElem?
 intro i;by_cases hi:i<k*z.length
 have b:0<z.length:=Nat.pos_of_ne_zero λh=>by simp[h] at hi
 have a:=iH i b
 simp only[Array.getElem?_map,Array.getElem?_range,hi,if_true,oz,List.getElem?_toArray,DZ z k i hi,List.size_toArray];rw[bE a];simp[a]
 rw[r2 (by simp;omega),r2 (by simp[zq];omega)]
theorem L_ {P:Program} {t e sz d:Nat} {z out:List Value} {len:Nat} {a:List (Nat × Value)} {w:World} (h:c6 P t e sz d z) (f:Nat.ble (len*sz) 16777216=true) (g:Nat.beq len 0=false) (j:hF (λi=>some (i*sz,sz)) (ff z len) a=some out):
 (Instr.buildSlice t len a.toArray).run P w= .ok (.slice (some ⟨w.heap.size,0,none⟩) len len) (w.alloc (.cells out.toArray e)):=by
 obtain⟨i,fs,b,k,l,m,r⟩:=h.inf;have n:=wK a _ _ out j
 have s:=dV f
 have o:=ux g
 have p:len*sz≠0:=Nat.mul_ne_zero o (by have:=h.pos;omega)
 have c:=D0 z len
 rw[h.len] at c
 have q:fs.cells=z.toArray:=by rw[←l]
 unfold Instr.buildSlice;simp only[Sem.run_bind,run_underlying h.fe,Result.andThen_ok,run_sizeOf b,m];rw[ag aa,ag p];simp only[Sem.run_bind,sl b k,Result.andThen_ok,Sem.run_pure,q,c,n];simp[newRow]
section
variable {P:Program} {n:Nat} {ops:Array Oper} {Q:cq} {rest:List Oper} {l:Fr} {d:Nat} {ty:TypeId} {pos:String} {a7:Array Edge} {H:World→Prop}
theorem ks {t:TypeId} {pl:List (Nat × Nat)} {z:List Value} {a:List (Nat × Operand)} {b:List (Nat × Value)} {out:List Value} (c:cE P t pl z) (ak:Nat.blt d n=true) (e:pG l a=some b) (f:hF (λi=>pl[i]?) z b=some out)
 (h:az P n ops Q rest ((d,.agg out.toArray)::l) H):az P n ops Q (⟨some d,.build t a.toArray,ty,pos,a7,none⟩::rest) l H:=
 dd _ ak (λj w g=>by
  have:=g.parts _ _ e
  simp[execOp,this,run_build c f]) h
theorem zr {t sz:TypeId} {z:List Value} {a:List (Nat × Operand)} {b:List (Nat × Value)} {out:List Value} (c:hG P t sz z) (ak:Nat.blt d n=true) (e:pG l a=some b) (f:hF (λi=>some (i*sz,sz)) z b=some out)
 (h:az P n ops Q rest ((d,.agg out.toArray)::l) H):az P n ops Q (⟨some d,.build t a.toArray,ty,pos,a7,none⟩::rest) l H:=
 dd _ ak (λj w g=>by
  have:=g.parts _ _ e
  simp[execOp,this,L9 c f]) h
theorem zs {t e sz m:Nat} {z:List Value} {len:Nat} {f:List (Nat × Operand)} {j:List (Nat × Value)} {out:List Value} {b:World} {S:List Nat} {cs:List Chunk} (o:c6 P t e sz m z) (ak:Nat.blt d n=true) (a: (Nat.ble (len*sz) 16777216 && !(Nat.beq len 0))=true)
 (p:pG l f=some j) (q:hF (λi=>some (i*sz,sz)) (ff z len) j=some out)
 (h: ∀g,b.heap.size≤g→(∀k∈aB cs,k<g)→az P n ops Q rest ((d,.slice (some ⟨g,0,none⟩) len len)::l) (af b S (aD g out e::cs))):az P n ops Q (⟨some d,.buildSlice t len f.toArray,ty,pos,a7,none⟩::rest) l (af b S cs):=
 hD ak λu w r c=>⟨.slice (some ⟨w.heap.size,0,none⟩) len len,w.alloc (.cells out.toArray e),by
  have:=r.parts _ _ p
  simp only[d4,pz] at a
  simp[execOp,this,L_ o a.1 a.2 q],(h w.heap.size c.ext.size (λk s=>c.lt s)).at (c.uC out e)⟩
theorem D1 {x:Operand} {i:Nat} {vs:List Value} {v:Value} (ak:Nat.blt d n=true) (a:ba l x=some (.tuple vs.toArray)) (b:vs[i]? = some v)
 (h:az P n ops Q rest ((d,v)::l) H):az P n ops Q (⟨some d,.extract x i,ty,pos,a7,none⟩::rest) l H:=
 dd _ ak (λe w c=>by simp[execOp,c x _ a,Instr.extract,b]) h
end
section
variable {P:Program} {n:Nat} {ops:Array Oper} {Q:cq} {rest:List Oper} {l:Fr} {H:World→Prop} {d:Nat} {ty:TypeId} {pos:String} {a7:Array Edge}
theorem aW {c:Bool} (t:Nat) (d:look l t=some (.bool c)) (a:c=true→az P n ops Q rest l H) (b:c=false→az P n ops Q rest l H):az P n ops Q rest l H:=by
 cases c
 exact b rfl;exact a rfl
theorem pH {a b:Code} {c:Operand} {p:Prop} [Decidable p] (d:ba l c=some (.bool (decide p))) (e:p→dc P n a Q l H) (f: ¬p→dc P n b Q l H):dc P n (.cond c a b) Q l H:=
 b1 d (λh=>e (aX h)) (λh=>f (bd h))
theorem zt {c x y:Operand} {v:Value} {b:Bool} (ak:Nat.blt d n=true) (a:ba l c=some (.bool b)) (e:b=true) (f:ba l x=some v) (h:az P n ops Q rest ((d,v)::l) H):az P n ops Q (⟨some d,.pick c x y,ty,pos,a7,none⟩::rest) l H:=
 L0 ak (e▸a) f h
theorem kt {c x y:Operand} {v:Value} {b:Bool} (ak:Nat.blt d n=true) (a:ba l c=some (.bool b)) (e:b=false) (f:ba l y=some v) (h:az P n ops Q rest ((d,v)::l) H):az P n ops Q (⟨some d,.pick c x y,ty,pos,a7,none⟩::rest) l H:=
 L1 ak (e▸a) f h
def oE (l':Fr) (H':World→Prop):cq
 | .normal,l,w=>Sub l l'∧H' w
 | _,_,_=>False
theorem gy {l':Fr} {H':World→Prop} (a:Sub l l') (b: ∀w,H w→H' w):dS (oE l' H') .normal l H:=λw c=>⟨a,b w c⟩
end
end
section
section
variable {P:Program} {ops:Array Oper} {Q:Exit→Act→World→Prop}
theorem Ma (S: (Nat→Bool)→Act→World→Prop)
 (B: ∀(D:Nat→Bool) (i:Nat) (o:Oper) (a:Act) (w:World),ops[i]? = some o→D i=false→(∀e∈o.after,Region.binds .any e=true→D e.on=true)→S D a w→
  wpOp P ops Q i (λa' w'=>S (λj=>D j || j == i) a' w') a w)
 (t: ∀(D:Nat→Bool) (a:Act) (w:World),(∀i,i<ops.size→D i=true)→S D a w→Q .normal a w)
 (C: ∀(i:Nat) (o:Oper),ops[i]? = some o→ ∀e∈o.after,Region.binds .any e=true→e.on<i):
 ∀(g:Nat) (listed:Array Bool) (a:Act) (w:World),listed.size=ops.size→listed.toList.count false≤g→S (λj=>listed.getD j false) a w→
  wpAny P .any ops Q g listed a w:=by
 have E: ∀(listed:Array Bool),listed.size=ops.size→Region.ready .any ops listed=[]→ ∀i,i<ops.size→listed.getD i false=true:=by
  intro listed m k i;induction i using Nat.strongRecOn with
  | _ i r=>
   intro hi;cases c:listed.getD i false with
   | true=>rfl
   | false=>
    have u:i∈Region.ready .any ops listed:=by
     rw[mem_ready];refine⟨?_,ops[i],by simp[hi],λe F G=>?_⟩;simp only[jW] at c ⊢
     rw[qF aa] at c ⊢
     exact c;have:=C i ops[i] (by simp[hi]) e F G
     exact r e.on this aa
    rw[k] at u
    cases u
 intro g;induction g with
 | zero=>
  intro listed a w m H n;have v: ∀i,i<ops.size→listed.getD i false=true:=by
   intro i hi;cases c:listed.getD i false with
   | true=>rfl
   | false=>
    have I:false∈listed.toList:=by
     simp only[jW] at c
     rw[qF aa] at c
     rw[Array.mem_toList_iff];simp only[sd] at c
     exact c▸Array.getElem_mem _
    have:=List.count_pos_iff.2 I
    omega
  refine⟨?_,t _ a w v n⟩;cases k:Region.ready .any ops listed with
  | nil=>rfl
  | cons x xs=>
   have y:x∈Region.ready .any ops listed:=by rw[k];simp
   rw[mem_ready] at y
   obtain⟨d,o,p,_⟩:=y;have z:=(lH.1 p).1
   have:=v x z
   simp only[jW] at d this
   rw[qF aa] at d this
   simp only[sd] at d this
   rw[d] at this
   cases this
 | succ g r=>
  intro listed a w m H n;refine⟨λk=>t _ a w (E listed m k) n,λi hi=>?_⟩;rw[mem_ready] at hi
  obtain⟨d,o,p,J⟩:=hi;have z:=(lH.1 p).1
  have q:listed.getD i false=false:=by
   simp only[jW] at d ⊢
   rw[qF aa] at d ⊢
   exact d
  refine wpOp_mono ?_ (B (λj=>listed.getD j false) i o a w p q J n);intro a' w' K;refine r (listed.setIfInBounds i true) a' w' (by simpa using m) ?_ ?_;have f:i<listed.size:=by omega
  have A:listed.toList[i]'(by simpa using f)=false:=by
   simp only[jW] at q
   rw[qF f] at q
   simpa using q
  have N: ((listed.setIfInBounds i true).toList).count false+1=listed.toList.count false:=by
   rw[Array.toList_setIfInBounds];have L:=List.count_set (a:=true) (b:=false) (l:=listed.toList) (i:=i) (by simpa using f)
   have O:0<listed.toList.count false:=List.count_pos_iff.2 (A▸r9 _)
   have M: (listed.toList[i]'(by simpa using f) == false)=true:=by rw[A];rfl
   rw[L,aw M];simp only[Bool.true_beq,Bool.false_eq_true,if_false];omega
  omega
  have e: (λj=>(listed.setIfInBounds i true).getD j false)=λj=>listed.getD j false || j == i:=by
   funext j
   by_cases s:i=j
   subst s;have f:i<listed.size:=by omega
   simp[f]
   rw[getD_set_ne false s];have: (j == i)=false:=by simp;exact λh=>s h.symm
   rw[this,Bool.or_false]
  rw[e];exact K
end
def writer (ops:List Oper) (t:Nat):Option Nat:=ops.findIdx? (λo=>match o.dst with | some d=>Nat.beq d t | none=>false)
def uD (o:Oper) (j:Nat):Bool:=o.after.any λe=>Region.binds .any e && Nat.beq e.on j
def zu (ops:List Oper) (i:Nat) (o:Oper) (t:Nat):Bool:=
 match writer ops t with
 | none=>true
 | some j=>match Nat.blt j i,Nat.blt i j with
  | true,_=>uD o j
  | _,true=>match ops[j]? with
   | some a=>uD a i
   | none=>false
  | _,_=>false
theorem aG {P:Program} {n:Nat} {ops:Array Oper} {H:World→Prop} {l:Fr}:az P n ops (oE l H) [] l H:=sj (gy (Sub.refl _) λ_ h=>h)
theorem D2 {P:Program} {o:Oper} {a a':Act} {w:World} {i j:Act→World→Prop} {Q k:Exit→Act→World→Prop} (l:execOp a.eval o=execOp a'.eval o)
 (g: ∀v w',i (a.put o.dst v) w'→j (a'.put o.dst v) w') (m: ∀d v w',¬i ({ a with defers:=d::a.defers }.put o.dst v) w') (ai: ∀c w',¬Q (.panic c) a w') (n: ¬LetsOut Q)
 (h:o.wp P a w i Q):o.wp P a' w j k:=by
 unfold Oper.wp at *
 rw[←l];generalize (execOp a.eval o).run P w=r at *
 cases r with
 | ok x w'=>
  cases x <;> simp only[Oper.upon] at h ⊢
  case value v=>exact g _ _ h
  case skip=>exact g _ _ h
  case defer d=>exact absurd h (m _ _ _)
  case enter f args=>
   refine Calls.mono h ?_;intro e p b;cases e with
   | returned v=>exact g _ _ b
   | panicked aF=>exact absurd b (ai _ _)
   | outgrown=>exact absurd b n
  case row r args=>exact Rows.mono h λv p b=>g _ _ b
 | halt x w'=>
  cases x <;> simp only[Oper.upon] at h ⊢
  case panic v=>exact absurd h (ai _ _)
theorem Mb {α:Type} {p:α→Bool}: ∀{l:List α} {j:Nat},l.findIdx? p=some j→ ∃x,l[j]? = some x∧p x=true:=by
 intro l j h;rw[List.findIdx?_eq_some_iff_getElem] at h
 obtain⟨a,ai,_⟩:=h;exact⟨l[j],bE a,ai⟩
theorem wL {o:Oper} {j:Nat} (h:uD o j=true): ∃e∈o.after,Region.binds .any e=true∧e.on=j:=by
 unfold uD at h
 obtain⟨e,b,a⟩:=Array.any_eq_true'.1 h;simp only[d4] at a
 exact⟨e,b,a.1,gd a.2⟩
theorem af.drew {b:World} {S:List Nat} {cs:List Chunk} {w:World} (h:af b S cs w):af b S cs w.drew:=h.keep ⟨rfl,rfl,rfl,bW _,λ_ _ _=>rfl⟩
theorem oF {P:Program} {n:Nat} {Q:cq} {l:Fr} {H:World→Prop} {c:Code} (l':Fr) (H':World→Prop) (h:dc P n c (oE l' H') l H) (d:dS Q .normal l' H'):dc P n c Q l H:=by
 intro w f a g;refine wp_mono (h w f a g) ?_;rintro e a w ⟨l1,i,b⟩;cases e with
 | normal=>exact⟨l',i.sub b.1,d w b.2⟩
 | _=>exact b.elim
end
section
section
variable {P:Program} {n:Nat} {ops:Array Oper} {Q:cq} {rest:List Oper} {l:Fr} {H:World→Prop} {d:Nat} {ty:TypeId} {pos:String} {a7:Array Edge}
variable {cv dx:TypeId} {x y:Operand} {k:IntKind} {a b:Int}
theorem nl (ak:Nat.blt d n=true) (c:ba l x=some (.int k a)) (e:ba l y=some (.int k b)) (f:0≤a) (g:0<b)
 (h:az P n ops Q rest ((d,.int k (a%b))::l) H):az P n ops Q (⟨some d,.binOp .rem cv x y dx,ty,pos,a7,none⟩::rest) l H:=
 L2 ak c e aa (Int.tmod_eq_emod_of_nonneg f) h
theorem sp (ak:Nat.blt d n=true) (e:ba l x=some (.int .i64 a)) (f:ba l y=some (.int .i64 b)) (c:0≤a) (g:0<b) (i:a≤9223372036854775807)
 (h:az P n ops Q rest ((d,.int .i64 (a/b))::l) H):az P n ops Q (⟨some d,.binOp .quo cv x y dx,ty,pos,a7,none⟩::rest) l H:=
 L3 ak e f aa (by
  rw[Int.tdiv_eq_ediv_of_nonneg c];have j:0≤a/b:=Int.ediv_nonneg c aa
  have k:a/b≤a:=Int.ediv_le_self _ c
  exact wrap64 aa aa) h
theorem oG {r:Int} (ak:Nat.blt d n=true) (c:ba l x=some (.int k a)) (b:k.wrap (0 - a)=r)
 (h:az P n ops Q rest ((d,.int k r)::l) H):az P n ops Q (⟨some d,.unOp .neg cv x,ty,pos,a7,none⟩::rest) l H:=
 dd _ ak (λf w e=>by simp[execOp,e x _ c,Op.unary,Op.intArith] at b ⊢;exact b) h
section
abbrev bs (s:List UInt8):ByteArray:=⟨s.toArray⟩
theorem bs_self (s:ByteArray):bs s.data.toList=s:=by cases s;simp[bs]
theorem hH (s:List UInt8): (bs s).size=s.length:=by simp[bs,ByteArray.size]
theorem Mc (s t:List UInt8):bs s++bs t=bs (s++t):=by
 apply ByteArray.ext
 simp[bs]
theorem wM (s:List UInt8): (bs s).toList=s:=ByteArray.toList_mk s
variable {s t:List UInt8} {ii:TypeId}
theorem D3 (a:P.underlying ii=some .string) (ak:Nat.blt d n=true) (b:ba l x=some (.string (bs s)))
 (h:az P n ops Q rest ((d,.int .i64 (s.length:Int))::l) H):az P n ops Q (⟨some d,.call ⟨.builtin .len,#[x],#[ii]⟩,ty,pos,a7,none⟩::rest) l H:=
 dd _ ak (λf w c=>by
  have e:=hH s
  simp[execOp,resolve,invoke,builtin,Builtin.len_,goInt,run_underlying a,c x _ b,e]) h
theorem eJ (ak:Nat.blt d n=true) (b:ba l x=some (.string (bs s))) (c:ba l y=some (.string (bs t))) (f: ((s.length+t.length:Nat):Int)≤9223372036854775807)
 (h:az P n ops Q rest ((d,.string (bs (s++t)))::l) H):az P n ops Q (⟨some d,.binOp .add cv x y dx,ty,pos,a7,none⟩::rest) l H:=
 dd _ ak (λg w a=>by
  have e: ¬(((bs s).size+(bs t).size:Nat):Int)>IntKind.i64.max:=by rw[hH,hH,IntKind.max_i64];omega
  simp only[execOp,a x _ b,a y _ c,eqGuard,binOp,Op.stringOp,ag e,Mc];simp) h
theorem D4 (ak:Nat.blt d n=true) (b:ba l x=some (.string (bs s))) (c:ba l y=some (.string (bs t)))
 (h:az P n ops Q rest ((d,.bool (decide (s=t)))::l) H):az P n ops Q (⟨some d,.binOp .eql cv x y dx,ty,pos,a7,none⟩::rest) l H:=
 dd _ ak (λg w a=>by
  have e: ((bs s).toList == (bs t).toList)=decide (s=t):=by
   rw[wM,wM];by_cases f:s=t <;> simp[f]
  simp only[execOp,a x _ b,a y _ c,eqGuard,binOp,Op.stringOp,e];simp) h
theorem Md (ak:Nat.blt d n=true) (b:ba l x=some (.string (bs s))) (c:ba l y=some (.string (bs t)))
 (h:az P n ops Q rest ((d,.bool (decide (s≠t)))::l) H):az P n ops Q (⟨some d,.binOp .neq cv x y dx,ty,pos,a7,none⟩::rest) l H:=
 dd _ ak (λg w a=>by
  have e: ((bs s).toList == (bs t).toList)=decide (s=t):=by
   rw[wM,wM];by_cases f:s=t <;> simp[f]
  simp only[execOp,a x _ b,a y _ c,eqGuard,binOp,Op.stringOp,e];simp) h
theorem ij {i:Operand} {q:Nat} {j:Int} {c:UInt8} (g:P.underlying ii=some .string) (ak:Nat.blt d n=true) (m:ba l x=some (.string (bs s))) (hi:ba l i=some (.int k j)) (o:j=(q:Int)) (a:s[q]? = some c)
 (h:az P n ops Q rest ((d,.int .u8 (c.toNat:Int))::l) H):az P n ops Q (⟨some d,.index ii x i,ty,pos,a7,none⟩::rest) l H:=by
 subst o;refine dd _ ak (λp w b=>?_) h;have f:q<s.length:=(cK.1 a).1
 have e: (bs s)[q]? = some c:=by
  rw[ByteArray.getElem?_lt' _ _ (by rw[hH];exact f)];rw[bE f] at a
  rw[←a];rfl
 simp[execOp,b x _ m,b i _ hi,Instr.index,asIntOf,run_underlying g,e]
theorem Me (s:List UInt8) (lo hi:Nat): (bs s).extract lo hi=bs ((s.take hi).drop lo):=by
 apply ByteArray.ext
 simp[bs,List.drop_take]
theorem zv {w:World} {lo hi:Option Value} {a b:Nat} (c:P.underlying ii=some .string) (d:lo=some (.int k (a:Int))∨lo=none∧a=0) (e:hi=some (.int k (b:Int))∨hi=none∧b=s.length) (f:a≤b) (g:b≤s.length):
 (Instr.slice ii (.string (bs s)) lo hi none).run P w= .ok (.string (bs ((s.take b).drop a))) w:=by
 have h:=hH s
 unfold Instr.slice Instr.sliceBounds;rcases d with rfl | ⟨rfl,rfl⟩ <;> rcases e with rfl | ⟨rfl,rfl⟩ <;>
  simp[run_underlying c,Instr.sliceBound,asIntOf,h,Me,f,g]
theorem Mf {lo hi:Operand} {u v:Int} (a b:Nat) (e:P.underlying ii=some .string) (ak:Nat.blt d n=true) (f:ba l x=some (.string (bs s))) (g:ba l lo=some (.int .i64 u)) (i:ba l hi=some (.int .i64 v)) (j:u=(a:Int)) (m:v=(b:Int)) (o:a≤b) (p:b≤s.length)
 (h:az P n ops Q rest ((d,.string (bs ((s.take b).drop a)))::l) H):az P n ops Q (⟨some d,.slice ii x (some lo) (some hi) none,ty,pos,a7,none⟩::rest) l H:=by
 subst j;subst m
 refine dd _ ak (λq w c=>?_) h;have:=zv (k:= .i64) (w:=w) (lo:=some (.int .i64 (a:Int))) (hi:=some (.int .i64 (b:Int))) e (.inl rfl) (.inl rfl) o p
 simp[execOp,c x _ f,c lo _ g,c hi _ i,Instr.sliceAt,run_underlying e,this]
theorem pI {lo:Operand} {u:Int} (a:Nat) (b:P.underlying ii=some .string) (ak:Nat.blt d n=true) (e:ba l x=some (.string (bs s))) (f:ba l lo=some (.int .i64 u)) (g:u=(a:Int)) (i:a≤s.length)
 (h:az P n ops Q rest ((d,.string (bs (s.drop a)))::l) H):az P n ops Q (⟨some d,.slice ii x (some lo) none none,ty,pos,a7,none⟩::rest) l H:=by
 subst g;refine dd _ ak (λj w c=>?_) h;have:=zv (k:= .i64) (w:=w) (lo:=some (.int .i64 (a:Int))) (hi:=none) b (.inl rfl) (.inr ⟨rfl,rfl⟩) i (bW s.length)
 rw[ow] at this
 simp[execOp,c x _ e,c lo _ f,Instr.sliceAt,run_underlying b,this]
theorem pJ {hi:Operand} {v:Int} (b:Nat) (a:P.underlying ii=some .string) (ak:Nat.blt d n=true) (e:ba l x=some (.string (bs s))) (f:ba l hi=some (.int .i64 v)) (g:v=(b:Int)) (i:b≤s.length)
 (h:az P n ops Q rest ((d,.string (bs (s.take b)))::l) H):az P n ops Q (⟨some d,.slice ii x none (some hi) none,ty,pos,a7,none⟩::rest) l H:=by
 subst g;refine dd _ ak (λj w c=>?_) h;have:=zv (k:= .i64) (w:=w) (lo:=none) (hi:=some (.int .i64 (b:Int))) a (.inr ⟨rfl,rfl⟩) (.inl rfl) (bP _) i
 rw[nf] at this
 simp[execOp,c x _ e,c hi _ f,Instr.sliceAt,run_underlying a,this]
theorem Mg {t:TypeId} {u v:Value} {r:Bool} {w w':World} (h: ∀e:Nat,(Op.equalIn (e+1) t u v).run P w= .ok r w'): (Op.equal t u v).run P w= .ok r w':=h 9999
theorem run_equalIn_bool {e:Nat} {t:TypeId} {p q:Bool} {w:World} (a:P.underlying t=some .bool): (Op.equalIn (e+1) t (.bool p) (.bool q)).run P w= .ok (p == q) w:=by
 simp[Op.equalIn,run_underlying a]
theorem zw {p q:Bool} (b:P.underlying cv=some .bool) (ak:Nat.blt d n=true) (c:ba l x=some (.bool p)) (f:ba l y=some (.bool q))
 (h:az P n ops Q rest ((d,.bool (p == q))::l) H):az P n ops Q (⟨some d,.binOp .eql cv x y dx,ty,pos,a7,none⟩::rest) l H:=
 dd _ ak (λg w a=>by
  have e:=Mg (λe=>run_equalIn_bool (P:=P) (e:=e) (p:=p) (q:=q) (w:=w) b)
  simp[execOp,a x _ c,a y _ f,eqGuard,binOp,e]) h
end
end
end
end Go.Proofs.YtlgnfdodnhokjaaGreatDoor.Mq
