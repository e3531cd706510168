/- part 3 of the proof -/
import Derived.Test.YtkeokgcdnfjaaaaGreatDoorQ02
import Derived.Orders
import Derived.Laws.Strings
namespace Go.Proofs.YtkeokgcdnfjaaaaGreatDoor.Mq
open Go Go.RowKit
section
theorem add_add (a:Addr) (i j:Nat): (a.add i).add j=a.add (i+j):=by
 unfold Addr.add;by_cases hi:i=0 <;> by_cases b:j=0 <;> simp[hi,b,Nat.add_assoc]
theorem block_add (a:Addr) (i:Nat): (a.add i).block=a.block:=by unfold Addr.add;split <;> rfl
structure bA (α:Type) where
 enc:α→List Value
 sz:Nat
 len: ∀a,(enc a).length=sz
 iW: ∀a,aI (enc a)
section
variable {α:Type} (E:bA α)
def bA.all (l:List α):List Value:=l.flatMap E.enc
theorem bA.dH (l:List α): (E.all l).length=l.length*E.sz:=by
 induction l with
 | nil=>simp[bA.all]
 | cons a l b=>simp only[bA.all,n2,b0,E.len,eK] at *;rw[b,iU];omega
theorem bA.all_append (l r:List α):E.all (l++r)=E.all l++E.all r:=by simp[bA.all]
theorem bA.hc (l:List α) (a:α):E.all (l++[a])=E.all l++E.enc a:=by simp[bA.all]
theorem bA.lE {l:List α} {k:Nat} {a:α} (c:l[k]? = some a) {j:Nat} {u:Value} (d: (E.enc a)[j]? = some u): (E.all l)[k*E.sz+j]? = some u:=by
 induction l generalizing k with
 | nil=>simp at c
 | cons b l e=>
  have f:E.all (b::l)=E.enc b++E.all l:=by simp[bA.all]
  have g:j<E.sz:=by
   have:=(cU.1 d).1
   rwa [E.len] at this
  rw[f];cases k with
  | zero=>
   simp only[qu,dz] at c
   subst c;rw[qF,dG,mW (by rw[E.len];exact g)];exact d
  | succ k=>
   simp only[List.getElem?_cons_succ] at c
   rw[kS (by rw[E.len,iU];omega),E.len];have: (k+1)*E.sz+j - E.sz=k*E.sz+j:=by rw[iU];omega
   rw[this];exact e c
theorem bA.wh (l:List α):aI (E.all l):=by
 intro u b;obtain⟨a,_,c⟩:=List.mem_flatMap.1 b;exact E.iW a u c
end
theorem bA.pr {α:Type} (E:bA α) {L:List α} {i j:Nat} {a a':α} {v:Value} (hi:L[i]? = some a) (d:j<E.sz) (e:E.enc a'=(E.enc a).set j v): (E.all L).set (i*E.sz+j) v=E.all (L.set i a'):=by
 induction L generalizing i with
 | nil=>simp at hi
 | cons b L f=>
  have c: ∀(x:α) (l:List α),E.all (x::l)=E.enc x++E.all l:=λx l=>by simp[bA.all]
  cases i with
  | zero=>
   simp only[qu,dz] at hi
   subst hi;rw[mo,c,c,e,qF,dG,List.set_append_left _ _ (by rw[E.len];exact d)]
  | succ i=>
   simp only[List.getElem?_cons_succ] at hi
   rw[qy,c,c,rQ _ _ (by rw[E.len,iU];omega),E.len];have: (i+1)*E.sz+j - E.sz=i*E.sz+j:=by rw[iU];omega
   rw[this,f hi]
structure Rd {α:Type} (E:bA α) (w:World) (F:Nat→Prop) (A:Option Addr) (n c:Nat) (l:List α):Prop where
 len:l.length=n
 cap:n≤c
 max:c≤maxLen
 cells:0<n→ ∃bX,A=some bX∧F bX.block∧ ∀k a j u,l[k]? = some a→(E.enc a)[j]? = some u→w.cell? ((bX.add (k*E.sz)).add j)=some u
section
variable {α:Type} {E:bA α} {w w':World} {F:Nat→Prop} {A:Option Addr} {n c:Nat} {l:List α}
theorem Rd.nil (E:bA α) (w:World) (F:Nat→Prop) (c:Nat) (a:c≤maxLen) (A:Option Addr):Rd E w F A 0 c []:=⟨rfl,bN _,a,λh=>absurd h aa⟩
theorem Rd.ext {S:List Nat} (h:Rd E w F A n c l) (d:Ext S w w') (e: ∀k,F k→k∉S):Rd E w' F A n c l:=by
 refine⟨h.len,h.cap,h.max,λf=>?_⟩;obtain⟨bX,g,b,i⟩:=h.cells f;refine⟨bX,g,b,λk a j u m o=>?_⟩;have:=i k a j u m o
 rw[d.cell (World.block_lt_of_cell? _ _ this) (by rw[block_add,block_add];exact e _ b)];exact this
theorem Rd.dA (h:Rd E w F A n c l) (b:Ext [] w w'):Rd E w' F A n c l:=by
 refine⟨h.len,h.cap,h.max,λd=>?_⟩;obtain⟨bX,e,f,g⟩:=h.cells d;refine⟨bX,e,f,λk a j u i m=>?_⟩;have:=g k a j u i m
 rw[b.cell (World.block_lt_of_cell? _ _ this) av];exact this
theorem Rd.dC {F':Nat→Prop} (h:Rd E w F A n c l) (a: ∀k,F k→F' k):Rd E w F' A n c l:=by
 refine⟨h.len,h.cap,h.max,λb=>?_⟩;obtain⟨bX,d,e,f⟩:=h.cells b;exact⟨bX,d,a _ e,f⟩
theorem Rd.fX {e:Nat} {v:Value} {m:Nat} (h:w.ownsRow 0 e E.sz v m (E.all l)) (b:l.length=m): ∃A c,v= .slice A m c∧Rd E w (λk=>v.ownBlock=some k) A m c l:=by
 rcases h.2 with ⟨rfl,rfl⟩ | ⟨g,cap,am,rfl,_,o,d,f,_⟩
 exact⟨none,0,rfl,⟨b,cd _,a1,λh=>absurd h aa⟩⟩;refine⟨_,cap,rfl,⟨b,d,f,λ_=>⟨⟨g,0,none⟩,rfl,rfl,λk a j u i n=>?_⟩⟩⟩;rw[add_add];exact h.cells rfl _ _ (E.lE i n)
end
section
variable {P:Program} {n:Nat} {ops:Array Oper} {Q:cl} {rest:List Oper} {l:Fr} {d:Nat} {ty:TypeId} {pos:String} {a6:Array Edge}
variable {b:World} {S:List Nat} {cs:List Chunk}
theorem wi {w:World} {e sz m:Nat} {v:Value} {xs:List Value} (h:w.ownsRow 0 e sz v m xs): ∃A c,v= .slice A m c:=by
 rcases h.2 with ⟨rfl,rfl⟩ | ⟨g,cap,am,rfl,_⟩
 exact⟨none,0,rfl⟩;exact⟨_,cap,rfl⟩
theorem Dt {e sz m:Nat} {g c:Nat}: ∀(vs:List Value) (xs:List Value) (w:World) (o i:Nat),w.ownsRow 0 e sz (.slice (some ⟨g,0,none⟩) m c) m xs→o+i+vs.length≤xs.length→aI vs→
 ∃w',(storeCells (⟨g,o,none⟩ :Addr) vs i).run P w= .ok () w'∧w'.ownsRow 0 e sz (.slice (some ⟨g,0,none⟩) m c) m (dd xs (o+i) vs)∧Ext [g] w w'
 | [],xs,w,o,i,h,_,_=>⟨w,by simp[storeCells],by simpa [dd] using h,Ext.refl _ _⟩
 | v::vs,xs,w,o,i,h,l,d=>by
  simp only[eK] at l
  have n: (⟨g,o,none⟩ :Addr).add i=⟨g,o+i,none⟩:=Addr.add_lit g o i
  have p:=h.1
  rcases h.2 with ⟨a,_⟩ | ⟨F,cap,am,a,q,b,f,r,j,s⟩
  cases a
  injection a with k G t
  simp only[dz,Addr.mk.injEq,and_true] at k
  subst k;subst t
  have x:o+i<am.size:=by
   rw[j];have:m*sz≤c*sz:=kT _ f
   omega
  have y:w.cell? ⟨g,o+i,none⟩=some am[o+i]:=by
   rw[cell_of_row w g (o+i) am e (0,0) b];simp[x]
  have z:w.frozen? ⟨g,o+i,none⟩=false:=by simp[World.frozen?,b]
  have A: (w.setCell ⟨g,o+i,none⟩ v).ownsRow 0 e sz (.slice (some ⟨g,0,none⟩) m c) m (xs.set (o+i) v):=by
   refine⟨by simpa using p,.inr ⟨g,c,am.setIfInBounds (o+i) v,rfl,q,by simp[World.setCell,qs,b],f,r,by simpa using j,?_⟩⟩;rw[Array.toList_setIfInBounds,←s];rw[List.take_set]
  obtain⟨w',B,C,a⟩:=Dt (m:=m) vs (xs.set (o+i) v) (w.setCell ⟨g,o+i,none⟩ v) o (i+1) A (by simp;omega) (λu D=>d u (by simp[D]));refine⟨w',?_,by simpa [dd,Nat.add_assoc] using C,(Ext.setCell w ⟨g,o+i,none⟩ v).trans a av⟩;have E:=run_store P w ⟨g,o+i,none⟩ v .plain (d v av)
  simp only[storeCells,n,Sem.run_bind,E,y,z];simpa using B
theorem af.r4 {w:World} {e sz m g c:Nat} {xs:List Value} {cs':List Chunk} (h:af b S cs w) {o:Nat} {vs:List Value} (d:o+vs.length≤xs.length) (f:aI vs)
 (a:bn cs (own e sz (.slice (some ⟨g,0,none⟩) m c) m xs) (own e sz (.slice (some ⟨g,0,none⟩) m c) m (dd xs o vs)) cs'):
 ∃w',(storeCells (⟨g,o,none⟩ :Addr) vs 0).run P w= .ok () w'∧af b S cs' w':=by
 obtain⟨w',i,j,l⟩:=Dt (P:=P) vs xs w o 0 (h.has a.has) (by simpa using d) f;exact⟨w',i,h.hV a l j (λk n=> .inl n) (by simp[own,Value.ownBlock])⟩
theorem kW {x y:Operand} {t:Nat} {z v:Value} {p:Addr} {e sz m g c o:Nat} {xs:List Value} {cs':List Chunk} (f:cJ P t z) (j:a_ l x=some (.pointer (some p))) (k:a_ l y=some v) (q:bn cs (own e sz (.slice (some ⟨g,0,none⟩) m c) m xs) (own e sz (.slice (some ⟨g,0,none⟩) m c) m (xs.set o v)) cs') (ai:p=⟨g,o,none⟩)
 (a:v.oneCell'=true) (r:o<xs.length)
 (h:az P n ops Q rest l (af b S cs')):az P n ops Q (⟨none,.store t x y,ty,pos,a6,none⟩::rest) l (af b S cs):=by
 subst ai;obtain⟨i,s,_,u⟩:=f.inf;refine uh λD w d A=>?_
 obtain⟨w',B,C⟩:=A.r4 (P:=P) (vs:=[v]) r (by simpa [aI] using a) q;refine⟨w',?_,h.at C⟩;simp[execOp,Instr.storeAt,d x _ j,d y _ k,Instr.sureAddr,storeVar,run_sizeOf s,u,wg a,B]
theorem mu {x y:Operand} {t a:Nat} {z vs:List Value} {p:Addr} {e sz m g c o:Nat} {xs:List Value} {cs':List Chunk} (f:cB P t a z) (j:a_ l x=some (.pointer (some p))) (k:a_ l y=some (.agg vs.toArray)) (q:bn cs (own e sz (.slice (some ⟨g,0,none⟩) m c) m xs) (own e sz (.slice (some ⟨g,0,none⟩) m c) m (dd xs o vs)) cs') (ai:p=⟨g,o,none⟩)
 (r:vs.length=a) (s:aI vs) (u:o+vs.length≤xs.length)
 (h:az P n ops Q rest l (af b S cs')):az P n ops Q (⟨none,.store t x y,ty,pos,a6,none⟩::rest) l (af b S cs):=by
 subst ai;obtain⟨i,v,_,A⟩:=f.inf;refine uh λE w d B=>?_
 obtain⟨w',C,D⟩:=B.r4 (P:=P) u s q;refine⟨w',?_,h.at D⟩;simp[execOp,Instr.storeAt,d x _ j,d y _ k,Instr.sureAddr,storeVar,run_sizeOf v,A,r,Value.cells,C]
theorem iX {e sz m:Nat} {v:Value} {xs:List Value} (d:Has cs (own e sz v m xs)) (h: ∀A c,v= .slice A m c→m≤c→c≤maxLen→xs.length=m*sz→(0<m→ ∃g,A=some ⟨g,0,none⟩)→az P n ops Q rest l (af b S cs)):az P n ops Q rest l (af b S cs):=by
 intro w a;have:=a.has d
 rcases this.2 with ⟨rfl,f⟩ | ⟨g,cap,am,rfl,_,_,i,j,_⟩
 exact h none 0 (by rw[f]) aa a1 this.1 (λai=>absurd ai aa) w a;exact h _ cap rfl i j this.1 (λ_=>⟨g,rfl⟩) w a
theorem hv {d:Code} {e sz m:Nat} {v:Value} {xs:List Value} (f:Has cs (own e sz v m xs)) (h: ∀A c,v= .slice A m c→m≤c→c≤maxLen→xs.length=m*sz→(0<m→ ∃g,A=some ⟨g,0,none⟩)→dc P n d Q l (af b S cs)):dc P n d Q l (af b S cs):=by
 intro w a;have:=a.has f
 rcases this.2 with ⟨rfl,i⟩ | ⟨g,cap,am,rfl,_,_,j,k,_⟩
 exact h none 0 (by rw[i]) aa a1 this.1 (λai=>absurd ai aa) w a;exact h _ cap rfl j k this.1 (λ_=>⟨g,rfl⟩) w a
theorem af.Du {w:World} (h:af b S cs w) {e sz m g c o:Nat} {xs:List Value} (a:Has cs (own e sz (.slice (some ⟨g,0,none⟩) m c) m xs)) {v:Value} (d:xs[o]? = some v):w.cell? ⟨g,o,none⟩=some v:=by
 have:=(h.has a).cells (g:=g) rfl o v d
 rwa [Addr.add_lit,dG] at this
theorem qH {H:World→Prop} {x i:Operand} {t e len sz:Nat} {p:Addr} {q:Nat} {k:IntKind} {j:Int} (f:P.underlying t=some (.array len e)) (b: (P.info? e).map (·.size)=some sz) (ak:Nat.blt d n=true) (g:a_ l x=some (.pointer (some p))) (hi:a_ l i=some (.int k j))
 (m:j=(q:Int)) (r:q<len)
 (h:az P n ops Q rest ((d,.pointer (some (p.add (q*sz))))::l) H):az P n ops Q (⟨some d,.indexAddr t x i,ty,pos,a6,none⟩::rest) l H:=by
 subst m;cases a:P.info? e with
 | none=>simp[a] at b
 | some inf=>
  have o:inf.size=sz:=by simpa [a] using b
  refine da _ ak (λs w c=>?_) h;simp[execOp,c x _ g,c i _ hi,Instr.indexAt,asIntOf,run_underlying f,run_sizeOf a,o,Instr.sureAddr]
  omega
end
theorem aI.nil:aI []:=λ_ h=>by simp at h
theorem aI.cons {v:Value} {vs:List Value} (h:v.oneCell'=true) (a:aI vs):aI (v::vs):=λu hu=>by
 rcases eD.1 hu with rfl | hu
 exact h;exact a u hu
theorem aE.bt {P:Program} {s i off:Nat} (h: (match P.underlying s with
 | some (.struct c6)=>match c6[i]? with
  | some f=>match P.info? f.type with
   | some j=>Nat.ble 1 j.size && Nat.beq f.offset off
   | none=>false
  | none=>false
 | _=>false)=true):aE P s i off:=by
 split at h
 rename_i c6 a;split at h
 rename_i f b;split at h
 rename_i j c;simp only[dY] at h
 have:=dT h.1
 exact⟨c6,f,j,a,b,c,aa,fV h.2⟩;cases h
 cases h
 cases h
theorem ad.of {P:Program} {f:FuncId} {fn:Func} (a:P.funcs[f]? = some fn) (b: (fn.name == "runtime.NumGoroutine")=false) (c:fn.body.isNone=false):ad P f:=⟨fn,a,b,c⟩
def putAt (cells:List Value) (off:Nat) (vs:List Value):List Value:=dd cells off vs
def hx (a:Nat→Option (Nat × Nat)) (cells:List Value):List (Nat × Value)→Option (List Value)
 | []=>some cells
 | (i,v)::rest=>match a i with
  | none=>none
  | some (off,size)=>match Nat.beq v.cells.toList.length size,Nat.ble (off+v.cells.toList.length) cells.length with
   | true,true=>hx a (putAt cells off v.cells.toList) rest
   | _,_=>none
theorem Dv: ∀(vs:List Value) (k:Nat) (xs:List Value) (off:Nat),
 ((vs.zipIdx k).foldl (λ(cs:Array Value) (x:Value × Nat)=>cs.setIfInBounds (off+x.2) x.1) xs.toArray)=(dd xs (off+k) vs).toArray
 | [],k,xs,off=>by simp[dd]
 | v::vs,k,xs,off=>by
  simp only[List.zipIdx_cons,rL,List.setIfInBounds_toArray,dd];rw[Dv vs (k+1) (xs.set (off+k) v) off,Nat.add_assoc]
theorem wj: ∀(b:List (Nat × Value)) (a:Nat→Option (Nat × Nat)) (cells out:List Value),hx a cells b=some out→Instr.fill a cells.toArray b=some out.toArray
 | [],a,cells,out,h=>by simp only[hx,dz] at h;subst h;rfl
 | (i,v)::rest,a,cells,out,h=>by
  simp only[hx] at h
  unfold Instr.fill;cases ai:a i with
  | none=>rw[ai] at h;cases h
  | some os=>
   obtain⟨off,size⟩:=os;rw[ai] at h
   simp only at h ⊢
   split at h
   rename_i f g;have c:=fV f
   have j:=dT g
   rw[ag (by
    simp only[lA] at c j
    simp[c,List.size_toArray]
    omega)]
   have d:=Dv v.cells.toList 0 cells off
   rw[Nat.add_zero] at d
   have e:Array.foldl (λ(cs:Array Value) (x:Value × Nat)=>cs.setIfInBounds (off+x.2) x.1) cells.toArray v.cells.zipIdx=(dd cells off v.cells.toList).toArray:=by
    rw[←d,←Array.foldl_toList,Array.toList_zipIdx]
   exact (aX (λz=>Instr.fill a z rest) e).trans (wj rest a _ out h);cases h
class cC (P:Program) (t:TypeId) (pl:outParam (List (Nat × Nat))) (z:outParam (List Value)):Prop where
 hs: ∃c6 i,P.underlying t=some (.struct c6)∧P.info? t=some i∧i.zero=some (.agg z.toArray)∧c6.toList.map (λf=>(f.offset,(P.info? f.type).map (·.size)))=pl.map (λp=>(p.1,some p.2))
theorem cC.of {P:Program} {t:TypeId} {pl:List (Nat × Nat)} {z:List Value}
 (a: (match P.underlying t with | some (.struct c6)=>some (c6.toList.map (λf=>(f.offset,(P.info? f.type).map (·.size)))) | _=>none)=some (pl.map (λp=>(p.1,some p.2))))
 (b: (P.info? t).map (·.zero)=some (some (.agg z.toArray))):cC P t pl z:=by
 split at a
 rename_i c6 c;cases hi:P.info? t with
 | none=>simp[hi] at b
 | some i=>exact⟨c6,i,c,hi,by simpa [hi] using b,by simpa using a⟩
 cases a
theorem Dw {P:Program} {w:World}: ∀(c6:List Field) (pl:List (Nat × Nat)),c6.map (λf=>(f.offset,(P.info? f.type).map (·.size)))=pl.map (λp=>(p.1,some p.2))→
 (c6.mapM (λf=>(do pure (f.offset,←sizeOf f.type):Sem (Nat × Nat)))).run P w= .ok pl w
 | [],pl,h=>by
  cases pl with
  | nil=>rfl
  | cons p pl=>simp at h
 | f::c6,pl,h=>by
  cases pl with
  | nil=>simp at h
  | cons p pl=>
   simp only[lB,rJ,Prod.mk.injEq] at h
   obtain⟨⟨c,a⟩,d⟩:=h;have b:=Dw (P:=P) (w:=w) c6 pl d
   cases hi:P.info? f.type with
   | none=>simp[hi] at a
   | some i=>
    have e:i.size=p.2:=by simpa [hi] using a
    simp only[List.mapM_cons,Sem.run_bind,run_sizeOf hi,Result.andThen_ok,Sem.run_pure] at b ⊢
    rw[b];simp[c,e]
theorem run_build {P:Program} {t:TypeId} {pl:List (Nat × Nat)} {z out:List Value} {a:List (Nat × Value)} {w:World} (h:cC P t pl z) (b:hx (λi=>pl[i]?) z a=some out):
 (Instr.build t a.toArray).run P w= .ok (.agg out.toArray) w:=by
 obtain⟨c6,i,c,d,g,j⟩:=h.hs;have k: (c6.mapM (λf=>(do pure (f.offset,←sizeOf f.type):Sem (Nat × Nat)))).run P w= .ok pl.toArray w:=by
  rw[Array.mapM_eq_mapM_toList];have:=Dw (P:=P) (w:=w) c6.toList pl j
  simp only[Sem.run_map,this,Result.andThen_ok]
 have l:=wj a (λi=>pl[i]?) z out b
 unfold Instr.build;simp only[Sem.run_bind,r1 d g,Result.andThen_ok,run_underlying c,k];have e:Instr.fill (λx=>pl.toArray[x]?) (Value.agg z.toArray).cells a=some out.toArray:=by
  simpa [Value.cells] using l
 simp only[List.getElem?_toArray] at e ⊢
 simp only[e];rfl
class hy (P:Program) (t:TypeId) (sz:outParam TypeId) (z:outParam (List Value)):Prop where
 hs: ∃len e i j,P.underlying t=some (.array len e)∧P.info? t=some i∧i.zero=some (.agg z.toArray)∧P.info? e=some j∧j.size=sz
theorem hy.of {P:Program} {t sz:TypeId} {z:List Value}
 (a: (match P.underlying t with | some (.array _ e)=>(P.info? e).map (·.size) | _=>none)=some sz)
 (c: (P.info? t).map (·.zero)=some (some (.agg z.toArray))):hy P t sz z:=by
 split at a
 rename_i len e d;cases hi:P.info? t with
 | none=>simp[hi] at c
 | some i=>cases b:P.info? e with
  | none=>simp[b] at a
  | some j=>exact⟨len,e,i,j,d,hi,by simpa [hi] using c,b,by simpa [b] using a⟩
 cases a
theorem Lm {P:Program} {t sz:TypeId} {z out:List Value} {a:List (Nat × Value)} {w:World} (h:hy P t sz z) (b:hx (λi=>some (i*sz,sz)) z a=some out):
 (Instr.build t a.toArray).run P w= .ok (.agg out.toArray) w:=by
 obtain⟨len,e,i,j,c,d,f,g,k⟩:=h.hs;have l:=wj a _ z out b
 unfold Instr.build;simp only[Sem.run_bind,r1 d f,Result.andThen_ok,run_underlying c,run_sizeOf g,k];have e:Instr.fill (λi=>some (i*sz,sz)) (Value.agg z.toArray).cells a=some out.toArray:=by simpa [Value.cells] using l
 simp only[e];rfl
def ps (l:Fr):List (Nat × Operand)→Option (List (Nat × Value))
 | []=>some []
 | (i,x)::xs=>match a_ l x,ps l xs with
  | some v,some vs=>some ((i,v)::vs)
  | _,_=>none
theorem ms.parts {l:Fr} {b:Operand→Value} (h:ms l b): ∀(xs:List (Nat × Operand)) (vs:List (Nat × Value)),ps l xs=some vs→xs.map (λp=>(p.1,b p.2))=vs
 | [],vs,a=>by simp[ps] at a;simp[a]
 | (i,x)::xs,vs,a=>by
  simp only[ps] at a
  split at a
  rename_i v c d e;simp only[dz] at a
  subst a;simp[h x v d,h.parts xs c e]
  cases a
def e9 (z:List Value):Nat→List Value
 | 0=>[]
 | k+1=>z++e9 z k
theorem y9 (z:List Value) (k:Nat): (e9 z k).length=k*z.length:=by
 induction k with
 | zero=>simp[e9]
 | succ k a=>simp[e9,a,iU];omega
theorem Dx (z:List Value): ∀(k i:Nat),i<k*z.length→(e9 z k)[i]? = z[i%z.length]?
 | 0,i,h=>by simp at h
 | k+1,i,h=>by
  simp only[e9];by_cases hi:i<z.length
  rw[mW hi,Nat.mod_eq_of_lt hi];rw[kS aa,Dx z k (i - z.length) (by rw[iU] at h;omega)];congr 1
  conv=>rhs;rw[show i=(i - z.length)+z.length by omega]
  rw[Nat.add_mod_right]
theorem Dy (z:List Value) (k:Nat): ((Array.range (k*z.length)).map (λx=>z.toArray[x%z.toArray.size]!))=(e9 z k).toArray:=by
 apply Array.ext_getElem?
 intro i;by_cases hi:i<k*z.length
 have b:0<z.length:=Nat.pos_of_ne_zero λh=>by simp[h] at hi
 have a:=iw i b
 simp only[Array.getElem?_map,Array.getElem?_range,hi,if_true,oc,List.getElem?_toArray,Dx z k i hi,List.size_toArray];rw[bE a];simp[a]
 rw[rH (by simp;omega),rH (by simp[y9];omega)]
theorem Ln {P:Program} {t e sz d:Nat} {z out:List Value} {len:Nat} {a:List (Nat × Value)} {w:World} (h:cY P t e sz d z) (f:Nat.ble (len*sz) 16777216=true) (g:Nat.beq len 0=false) (j:hx (λi=>some (i*sz,sz)) (e9 z len) a=some out):
 (Instr.buildSlice t len a.toArray).run P w= .ok (.slice (some ⟨w.heap.size,0,none⟩) len len) (w.alloc (.cells out.toArray e)):=by
 obtain⟨i,fg,b,k,l,m,r⟩:=h.inf;have n:=wj a _ _ out j
 have s:=dT f
 have o:=ud g
 have p:len*sz≠0:=Nat.mul_ne_zero o (by have:=h.pos;omega)
 have c:=Dy z len
 rw[h.len] at c
 have q:fg.cells=z.toArray:=by rw[←l]
 unfold Instr.buildSlice;simp only[Sem.run_bind,run_underlying h.e8,Result.andThen_ok,run_sizeOf b,m];rw[ag aa,ag p];simp only[Sem.run_bind,r1 b k,Result.andThen_ok,Sem.run_pure,q,c,n];simp[newRow]
section
variable {P:Program} {n:Nat} {ops:Array Oper} {Q:cl} {rest:List Oper} {l:Fr} {d:Nat} {ty:TypeId} {pos:String} {a6:Array Edge} {H:World→Prop}
theorem ki {t:TypeId} {pl:List (Nat × Nat)} {z:List Value} {a:List (Nat × Operand)} {b:List (Nat × Value)} {out:List Value} (c:cC P t pl z) (ak:Nat.blt d n=true) (e:ps l a=some b) (f:hx (λi=>pl[i]?) z b=some out)
 (h:az P n ops Q rest ((d,.agg out.toArray)::l) H):az P n ops Q (⟨some d,.build t a.toArray,ty,pos,a6,none⟩::rest) l H:=
 da _ ak (λj w g=>by
  have:=g.parts _ _ e
  simp[execOp,this,run_build c f]) h
theorem y_ {t sz:TypeId} {z:List Value} {a:List (Nat × Operand)} {b:List (Nat × Value)} {out:List Value} (c:hy P t sz z) (ak:Nat.blt d n=true) (e:ps l a=some b) (f:hx (λi=>some (i*sz,sz)) z b=some out)
 (h:az P n ops Q rest ((d,.agg out.toArray)::l) H):az P n ops Q (⟨some d,.build t a.toArray,ty,pos,a6,none⟩::rest) l H:=
 da _ ak (λj w g=>by
  have:=g.parts _ _ e
  simp[execOp,this,Lm c f]) h
theorem za {t e sz m:Nat} {z:List Value} {len:Nat} {f:List (Nat × Operand)} {j:List (Nat × Value)} {out:List Value} {b:World} {S:List Nat} {cs:List Chunk} (o:cY P t e sz m z) (ak:Nat.blt d n=true) (a: (Nat.ble (len*sz) 16777216 && !(Nat.beq len 0))=true)
 (p:ps l f=some j) (q:hx (λi=>some (i*sz,sz)) (e9 z len) j=some out)
 (h: ∀g,b.heap.size≤g→(∀k∈aB cs,k<g)→az P n ops Q rest ((d,.slice (some ⟨g,0,none⟩) len len)::l) (af b S (aD g out e::cs))):az P n ops Q (⟨some d,.buildSlice t len f.toArray,ty,pos,a6,none⟩::rest) l (af b S cs):=
 ht ak λu w r c=>⟨.slice (some ⟨w.heap.size,0,none⟩) len len,w.alloc (.cells out.toArray e),by
  have:=r.parts _ _ p
  simp only[dY,pj] at a
  simp[execOp,this,Ln o a.1 a.2 q],(h w.heap.size c.ext.size (λk s=>c.lt s)).at (c.ui out e)⟩
theorem Dz {x:Operand} {i:Nat} {vs:List Value} {v:Value} (ak:Nat.blt d n=true) (a:a_ l x=some (.tuple vs.toArray)) (b:vs[i]? = some v)
 (h:az P n ops Q rest ((d,v)::l) H):az P n ops Q (⟨some d,.extract x i,ty,pos,a6,none⟩::rest) l H:=
 da _ ak (λe w c=>by simp[execOp,c x _ a,Instr.extract,b]) h
end
section
variable {P:Program} {n:Nat} {ops:Array Oper} {Q:cl} {rest:List Oper} {l:Fr} {H:World→Prop} {d:Nat} {ty:TypeId} {pos:String} {a6:Array Edge}
theorem aV {c:Bool} (t:Nat) (d:look l t=some (.bool c)) (a:c=true→az P n ops Q rest l H) (b:c=false→az P n ops Q rest l H):az P n ops Q rest l H:=by
 cases c
 exact b rfl;exact a rfl
theorem pt {a b:Code} {c:Operand} {p:Prop} [Decidable p] (d:a_ l c=some (.bool (decide p))) (e:p→dc P n a Q l H) (f: ¬p→dc P n b Q l H):dc P n (.cond c a b) Q l H:=
 b2 d (λh=>e (aY h)) (λh=>f (a8 h))
theorem zb {c x y:Operand} {v:Value} {b:Bool} (ak:Nat.blt d n=true) (a:a_ l c=some (.bool b)) (e:b=true) (f:a_ l x=some v) (h:az P n ops Q rest ((d,v)::l) H):az P n ops Q (⟨some d,.pick c x y,ty,pos,a6,none⟩::rest) l H:=
 Ld ak (e▸a) f h
theorem kj {c x y:Operand} {v:Value} {b:Bool} (ak:Nat.blt d n=true) (a:a_ l c=some (.bool b)) (e:b=false) (f:a_ l y=some v) (h:az P n ops Q rest ((d,v)::l) H):az P n ops Q (⟨some d,.pick c x y,ty,pos,a6,none⟩::rest) l H:=
 Le ak (e▸a) f h
def oh (l':Fr) (H':World→Prop):cl
 | .normal,l,w=>Sub l l'∧H' w
 | _,_,_=>False
theorem gn {l':Fr} {H':World→Prop} (a:Sub l l') (b: ∀w,H w→H' w):dP (oh l' H') .normal l H:=λw c=>⟨a,b w c⟩
end
end
section
section
variable {P:Program} {ops:Array Oper} {Q:Exit→Act→World→Prop}
theorem Lo (S: (Nat→Bool)→Act→World→Prop)
 (B: ∀(D:Nat→Bool) (i:Nat) (o:Oper) (a:Act) (w:World),ops[i]? = some o→D i=false→(∀e∈o.after,Region.binds .any e=true→D e.on=true)→S D a w→
  wpOp P ops Q i (λa' w'=>S (λj=>D j || j == i) a' w') a w)
 (t: ∀(D:Nat→Bool) (a:Act) (w:World),(∀i,i<ops.size→D i=true)→S D a w→Q .normal a w)
 (C: ∀(i:Nat) (o:Oper),ops[i]? = some o→ ∀e∈o.after,Region.binds .any e=true→e.on<i):
 ∀(g:Nat) (listed:Array Bool) (a:Act) (w:World),listed.size=ops.size→listed.toList.count false≤g→S (λj=>listed.getD j false) a w→
  wpAny P .any ops Q g listed a w:=by
 have E: ∀(listed:Array Bool),listed.size=ops.size→Region.ready .any ops listed=[]→ ∀i,i<ops.size→listed.getD i false=true:=by
  intro listed m k i;induction i using Nat.strongRecOn with
  | _ i r=>
   intro hi;cases c:listed.getD i false with
   | true=>rfl
   | false=>
    have u:i∈Region.ready .any ops listed:=by
     rw[mem_ready];refine⟨?_,ops[i],by simp[hi],λe F G=>?_⟩;simp only[jK] at c ⊢
     rw[qq aa] at c ⊢
     exact c;have:=C i ops[i] (by simp[hi]) e F G
     exact r e.on this aa
    rw[k] at u
    cases u
 intro g;induction g with
 | zero=>
  intro listed a w m H n;have v: ∀i,i<ops.size→listed.getD i false=true:=by
   intro i hi;cases c:listed.getD i false with
   | true=>rfl
   | false=>
    have I:false∈listed.toList:=by
     simp only[jK] at c
     rw[qq aa] at c
     rw[Array.mem_toList_iff];simp only[rT] at c
     exact c▸Array.getElem_mem _
    have:=List.count_pos_iff.2 I
    omega
  refine⟨?_,t _ a w v n⟩;cases k:Region.ready .any ops listed with
  | nil=>rfl
  | cons x xs=>
   have y:x∈Region.ready .any ops listed:=by rw[k];simp
   rw[mem_ready] at y
   obtain⟨d,o,p,_⟩:=y;have z:=(lz.1 p).1
   have:=v x z
   simp only[jK] at d this
   rw[qq aa] at d this
   simp only[rT] at d this
   rw[d] at this
   cases this
 | succ g r=>
  intro listed a w m H n;refine⟨λk=>t _ a w (E listed m k) n,λi hi=>?_⟩;rw[mem_ready] at hi
  obtain⟨d,o,p,J⟩:=hi;have z:=(lz.1 p).1
  have q:listed.getD i false=false:=by
   simp only[jK] at d ⊢
   rw[qq aa] at d ⊢
   exact d
  refine wpOp_mono ?_ (B (λj=>listed.getD j false) i o a w p q J n);intro a' w' K;refine r (listed.setIfInBounds i true) a' w' (by simpa using m) ?_ ?_;have f:i<listed.size:=by omega
  have A:listed.toList[i]'(by simpa using f)=false:=by
   simp only[jK] at q
   rw[qq f] at q
   simpa using q
  have N: ((listed.setIfInBounds i true).toList).count false+1=listed.toList.count false:=by
   rw[Array.toList_setIfInBounds];have L:=List.count_set (a:=true) (b:=false) (l:=listed.toList) (i:=i) (by simpa using f)
   have O:0<listed.toList.count false:=List.count_pos_iff.2 (A▸rO _)
   have M: (listed.toList[i]'(by simpa using f) == false)=true:=by rw[A];rfl
   rw[L,ax M];simp only[Bool.true_beq,Bool.false_eq_true,if_false];omega
  omega
  have e: (λj=>(listed.setIfInBounds i true).getD j false)=λj=>listed.getD j false || j == i:=by
   funext j
   by_cases s:i=j
   subst s;have f:i<listed.size:=by omega
   simp[f]
   rw[getD_set_ne false s];have: (j == i)=false:=by simp;exact λh=>s h.symm
   rw[this,Bool.or_false]
  rw[e];exact K
end
def writer (ops:List Oper) (t:Nat):Option Nat:=ops.findIdx? (λo=>match o.dst with | some d=>Nat.beq d t | none=>false)
def uj (o:Oper) (j:Nat):Bool:=o.after.any λe=>Region.binds .any e && Nat.beq e.on j
def zc (ops:List Oper) (i:Nat) (o:Oper) (t:Nat):Bool:=
 match writer ops t with
 | none=>true
 | some j=>match Nat.blt j i,Nat.blt i j with
  | true,_=>uj o j
  | _,true=>match ops[j]? with
   | some a=>uj a i
   | none=>false
  | _,_=>false
theorem aG {P:Program} {n:Nat} {ops:Array Oper} {H:World→Prop} {l:Fr}:az P n ops (oh l H) [] l H:=rZ (gn (Sub.refl _) λ_ h=>h)
theorem DA {P:Program} {o:Oper} {a a':Act} {w:World} {i j:Act→World→Prop} {Q k:Exit→Act→World→Prop} (l:execOp a.eval o=execOp a'.eval o)
 (g: ∀v w',i (a.put o.dst v) w'→j (a'.put o.dst v) w') (m: ∀d v w',¬i ({ a with defers:=d::a.defers }.put o.dst v) w') (ai: ∀c w',¬Q (.panic c) a w') (n: ¬LetsOut Q)
 (h:o.wp P a w i Q):o.wp P a' w j k:=by
 unfold Oper.wp at *
 rw[←l];generalize (execOp a.eval o).run P w=r at *
 cases r with
 | ok x w'=>
  cases x <;> simp only[Oper.upon] at h ⊢
  case value v=>exact g _ _ h
  case skip=>exact g _ _ h
  case defer d=>exact absurd h (m _ _ _)
  case enter f args=>
   refine Calls.mono h ?_;intro e p b;cases e with
   | returned v=>exact g _ _ b
   | panicked aF=>exact absurd b (ai _ _)
   | outgrown=>exact absurd b n
  case row r args=>exact Rows.mono h λv p b=>g _ _ b
 | halt x w'=>
  cases x <;> simp only[Oper.upon] at h ⊢
  case panic v=>exact absurd h (ai _ _)
theorem Lp {α:Type} {p:α→Bool}: ∀{l:List α} {j:Nat},l.findIdx? p=some j→ ∃x,l[j]? = some x∧p x=true:=by
 intro l j h;rw[List.findIdx?_eq_some_iff_getElem] at h
 obtain⟨a,ai,_⟩:=h;exact⟨l[j],bE a,ai⟩
theorem wk {o:Oper} {j:Nat} (h:uj o j=true): ∃e∈o.after,Region.binds .any e=true∧e.on=j:=by
 unfold uj at h
 obtain⟨e,b,a⟩:=Array.any_eq_true'.1 h;simp only[dY] at a
 exact⟨e,b,a.1,fV a.2⟩
theorem af.drew {b:World} {S:List Nat} {cs:List Chunk} {w:World} (h:af b S cs w):af b S cs w.drew:=h.keep ⟨rfl,rfl,rfl,cd _,λ_ _ _=>rfl⟩
theorem oi {P:Program} {n:Nat} {Q:cl} {l:Fr} {H:World→Prop} {c:Code} (l':Fr) (H':World→Prop) (h:dc P n c (oh l' H') l H) (d:dP Q .normal l' H'):dc P n c Q l H:=by
 intro w f a g;refine wp_mono (h w f a g) ?_;rintro e a w ⟨l1,i,b⟩;cases e with
 | normal=>exact⟨l',i.sub b.1,d w b.2⟩
 | _=>exact b.elim
end
section
section
variable {P:Program} {n:Nat} {ops:Array Oper} {Q:cl} {rest:List Oper} {l:Fr} {H:World→Prop} {d:Nat} {ty:TypeId} {pos:String} {a6:Array Edge}
variable {cn du:TypeId} {x y:Operand} {k:IntKind} {a b:Int}
theorem m6 (ak:Nat.blt d n=true) (c:a_ l x=some (.int k a)) (e:a_ l y=some (.int k b)) (f:0≤a) (g:0<b)
 (h:az P n ops Q rest ((d,.int k (a%b))::l) H):az P n ops Q (⟨some d,.binOp .rem cn x y du,ty,pos,a6,none⟩::rest) l H:=
 Lf ak c e aa (Int.tmod_eq_emod_of_nonneg f) h
theorem r5 (ak:Nat.blt d n=true) (e:a_ l x=some (.int .i64 a)) (f:a_ l y=some (.int .i64 b)) (c:0≤a) (g:0<b) (i:a≤9223372036854775807)
 (h:az P n ops Q rest ((d,.int .i64 (a/b))::l) H):az P n ops Q (⟨some d,.binOp .quo cn x y du,ty,pos,a6,none⟩::rest) l H:=
 Lg ak e f aa (by
  rw[Int.tdiv_eq_ediv_of_nonneg c];have j:0≤a/b:=Int.ediv_nonneg c aa
  have k:a/b≤a:=Int.ediv_le_self _ c
  exact wrap64 aa aa) h
theorem oj {r:Int} (ak:Nat.blt d n=true) (c:a_ l x=some (.int k a)) (b:k.wrap (0 - a)=r)
 (h:az P n ops Q rest ((d,.int k r)::l) H):az P n ops Q (⟨some d,.unOp .neg cn x,ty,pos,a6,none⟩::rest) l H:=
 da _ ak (λf w e=>by simp[execOp,e x _ c,Op.unary,Op.intArith] at b ⊢;exact b) h
section
abbrev bs (s:List UInt8):ByteArray:=⟨s.toArray⟩
theorem Lq (s:ByteArray):bs s.data.toList=s:=by cases s;simp[bs]
theorem hz (s:List UInt8): (bs s).size=s.length:=by simp[bs,ByteArray.size]
theorem Lr (s t:List UInt8):bs s++bs t=bs (s++t):=by
 apply ByteArray.ext
 simp[bs]
theorem wl (s:List UInt8): (bs s).toList=s:=ByteArray.toList_mk s
variable {s t:List UInt8} {hY:TypeId}
theorem DB (a:P.underlying hY=some .string) (ak:Nat.blt d n=true) (b:a_ l x=some (.string (bs s)))
 (h:az P n ops Q rest ((d,.int .i64 (s.length:Int))::l) H):az P n ops Q (⟨some d,.call ⟨.builtin .len,#[x],#[hY]⟩,ty,pos,a6,none⟩::rest) l H:=
 da _ ak (λf w c=>by
  have e:=hz s
  simp[execOp,resolve,invoke,builtin,Builtin.len_,goInt,run_underlying a,c x _ b,e]) h
theorem eE (ak:Nat.blt d n=true) (b:a_ l x=some (.string (bs s))) (c:a_ l y=some (.string (bs t))) (f: ((s.length+t.length:Nat):Int)≤9223372036854775807)
 (h:az P n ops Q rest ((d,.string (bs (s++t)))::l) H):az P n ops Q (⟨some d,.binOp .add cn x y du,ty,pos,a6,none⟩::rest) l H:=
 da _ ak (λg w a=>by
  have e: ¬(((bs s).size+(bs t).size:Nat):Int)>IntKind.i64.max:=by rw[hz,hz,IntKind.max_i64];omega
  simp only[execOp,a x _ b,a y _ c,eqGuard,binOp,Op.stringOp,ag e,Lr];simp) h
theorem DC (ak:Nat.blt d n=true) (b:a_ l x=some (.string (bs s))) (c:a_ l y=some (.string (bs t)))
 (h:az P n ops Q rest ((d,.bool (decide (s=t)))::l) H):az P n ops Q (⟨some d,.binOp .eql cn x y du,ty,pos,a6,none⟩::rest) l H:=
 da _ ak (λg w a=>by
  have e: ((bs s).toList == (bs t).toList)=decide (s=t):=by
   rw[wl,wl];by_cases f:s=t <;> simp[f]
  simp only[execOp,a x _ b,a y _ c,eqGuard,binOp,Op.stringOp,e];simp) h
theorem Ls (ak:Nat.blt d n=true) (b:a_ l x=some (.string (bs s))) (c:a_ l y=some (.string (bs t)))
 (h:az P n ops Q rest ((d,.bool (decide (s≠t)))::l) H):az P n ops Q (⟨some d,.binOp .neq cn x y du,ty,pos,a6,none⟩::rest) l H:=
 da _ ak (λg w a=>by
  have e: ((bs s).toList == (bs t).toList)=decide (s=t):=by
   rw[wl,wl];by_cases f:s=t <;> simp[f]
  simp only[execOp,a x _ b,a y _ c,eqGuard,binOp,Op.stringOp,e];simp) h
theorem hZ {i:Operand} {q:Nat} {j:Int} {c:UInt8} (g:P.underlying hY=some .string) (ak:Nat.blt d n=true) (m:a_ l x=some (.string (bs s))) (hi:a_ l i=some (.int k j)) (o:j=(q:Int)) (a:s[q]? = some c)
 (h:az P n ops Q rest ((d,.int .u8 (c.toNat:Int))::l) H):az P n ops Q (⟨some d,.index hY x i,ty,pos,a6,none⟩::rest) l H:=by
 subst o;refine da _ ak (λp w b=>?_) h;have f:q<s.length:=(cU.1 a).1
 have e: (bs s)[q]? = some c:=by
  rw[ByteArray.getElem?_lt' _ _ (by rw[hz];exact f)];rw[bE f] at a
  rw[←a];rfl
 simp[execOp,b x _ m,b i _ hi,Instr.index,asIntOf,run_underlying g,e]
theorem Lt (s:List UInt8) (lo hi:Nat): (bs s).extract lo hi=bs ((s.take hi).drop lo):=by
 apply ByteArray.ext
 simp[bs,List.drop_take]
theorem zd {w:World} {lo hi:Option Value} {a b:Nat} (c:P.underlying hY=some .string) (d:lo=some (.int k (a:Int))∨lo=none∧a=0) (e:hi=some (.int k (b:Int))∨hi=none∧b=s.length) (f:a≤b) (g:b≤s.length):
 (Instr.slice hY (.string (bs s)) lo hi none).run P w= .ok (.string (bs ((s.take b).drop a))) w:=by
 have h:=hz s
 unfold Instr.slice Instr.sliceBounds;rcases d with rfl | ⟨rfl,rfl⟩ <;> rcases e with rfl | ⟨rfl,rfl⟩ <;>
  simp[run_underlying c,Instr.sliceBound,asIntOf,h,Lt,f,g]
theorem Lu {lo hi:Operand} {u v:Int} (a b:Nat) (e:P.underlying hY=some .string) (ak:Nat.blt d n=true) (f:a_ l x=some (.string (bs s))) (g:a_ l lo=some (.int .i64 u)) (i:a_ l hi=some (.int .i64 v)) (j:u=(a:Int)) (m:v=(b:Int)) (o:a≤b) (p:b≤s.length)
 (h:az P n ops Q rest ((d,.string (bs ((s.take b).drop a)))::l) H):az P n ops Q (⟨some d,.slice hY x (some lo) (some hi) none,ty,pos,a6,none⟩::rest) l H:=by
 subst j;subst m
 refine da _ ak (λq w c=>?_) h;have:=zd (k:= .i64) (w:=w) (lo:=some (.int .i64 (a:Int))) (hi:=some (.int .i64 (b:Int))) e (.inl rfl) (.inl rfl) o p
 simp[execOp,c x _ f,c lo _ g,c hi _ i,Instr.sliceAt,run_underlying e,this]
theorem pu {lo:Operand} {u:Int} (a:Nat) (b:P.underlying hY=some .string) (ak:Nat.blt d n=true) (e:a_ l x=some (.string (bs s))) (f:a_ l lo=some (.int .i64 u)) (g:u=(a:Int)) (i:a≤s.length)
 (h:az P n ops Q rest ((d,.string (bs (s.drop a)))::l) H):az P n ops Q (⟨some d,.slice hY x (some lo) none none,ty,pos,a6,none⟩::rest) l H:=by
 subst g;refine da _ ak (λj w c=>?_) h;have:=zd (k:= .i64) (w:=w) (lo:=some (.int .i64 (a:Int))) (hi:=none) b (.inl rfl) (.inr ⟨rfl,rfl⟩) i (cd s.length)
 rw[qA] at this
 simp[execOp,c x _ e,c lo _ f,Instr.sliceAt,run_underlying b,this]
theorem pv {hi:Operand} {v:Int} (b:Nat) (a:P.underlying hY=some .string) (ak:Nat.blt d n=true) (e:a_ l x=some (.string (bs s))) (f:a_ l hi=some (.int .i64 v)) (g:v=(b:Int)) (i:b≤s.length)
 (h:az P n ops Q rest ((d,.string (bs (s.take b)))::l) H):az P n ops Q (⟨some d,.slice hY x none (some hi) none,ty,pos,a6,none⟩::rest) l H:=by
 subst g;refine da _ ak (λj w c=>?_) h;have:=zd (k:= .i64) (w:=w) (lo:=none) (hi:=some (.int .i64 (b:Int))) a (.inr ⟨rfl,rfl⟩) (.inl rfl) (bN _) i
 rw[n1] at this
 simp[execOp,c x _ e,c hi _ f,Instr.sliceAt,run_underlying a,this]
theorem DD {t:TypeId} {u v:Value} {r:Bool} {w w':World} (h: ∀e:Nat,(Op.equalIn (e+1) t u v).run P w= .ok r w'): (Op.equal t u v).run P w= .ok r w':=h 9999
theorem run_equalIn_bool {e:Nat} {t:TypeId} {p q:Bool} {w:World} (a:P.underlying t=some .bool): (Op.equalIn (e+1) t (.bool p) (.bool q)).run P w= .ok (p == q) w:=by
 simp[Op.equalIn,run_underlying a]
theorem ze {p q:Bool} (b:P.underlying cn=some .bool) (ak:Nat.blt d n=true) (c:a_ l x=some (.bool p)) (f:a_ l y=some (.bool q))
 (h:az P n ops Q rest ((d,.bool (p == q))::l) H):az P n ops Q (⟨some d,.binOp .eql cn x y du,ty,pos,a6,none⟩::rest) l H:=
 da _ ak (λg w a=>by
  have e:=DD (λe=>run_equalIn_bool (P:=P) (e:=e) (p:=p) (q:=q) (w:=w) b)
  simp[execOp,a x _ c,a y _ f,eqGuard,binOp,e]) h
theorem Lv {p q:Bool} (b:P.underlying cn=some .bool) (ak:Nat.blt d n=true) (c:a_ l x=some (.bool p)) (f:a_ l y=some (.bool q))
 (h:az P n ops Q rest ((d,.bool (!(p == q)))::l) H):az P n ops Q (⟨some d,.binOp .neq cn x y du,ty,pos,a6,none⟩::rest) l H:=
 da _ ak (λg w a=>by
  have e:=DD (λe=>run_equalIn_bool (P:=P) (e:=e) (p:=p) (q:=q) (w:=w) b)
  simp[execOp,a x _ c,a y _ f,eqGuard,binOp,e]) h
end
end
end
end Go.Proofs.YtkeokgcdnfjaaaaGreatDoor.Mq
