/- part 2 of the proof -/
import Derived.Test.YtoghoobfpcadbaaGreatDoorQ01
namespace Go.Proofs.YtoghoobfpcadbaaGreatDoor.Mq
open Go Go.RowKit
section
def iH:TypeDesc→Bool
 | .struct _=>false
 | .array _ _=>false
 | _=>true
class cN (P:Program) (t:TypeId) (z:outParam Value):Prop where
 e_: ∃d,P.underlying t=some d∧iH d=true
 inf: ∃i,P.info? t=some i∧i.zero=some z∧i.size=1
 one:z.oneCell'=true
class cG (P:Program) (t:TypeId) (sz:outParam Nat) (z:outParam (List Value)):Prop where
 e_: ∃d,P.underlying t=some d∧iH d=false
 inf: ∃i,P.info? t=some i∧i.zero=some (.agg z.toArray)∧i.size=sz
 len:z.length=sz
class c6 (P:Program) (t:Nat) (e sz bytes:outParam Nat) (z:outParam (List Value)):Prop where
 e_:P.underlying t=some (.slice e)
 inf: ∃i fj,P.info? e=some i∧i.zero=some fj∧fj.cells.toList=z∧i.size=sz∧i.bytes=bytes
 pos:0<sz
 len:z.length=sz
class aF (P:Program) (s i:Nat) (off:outParam Nat):Prop where
 hC: ∃c8 f j,P.underlying s=some (.struct c8)∧c8[i]? = some f∧P.info? f.type=some j∧j.size≠0∧f.offset=off
theorem cN.of {P:Program} {t:TypeId} {z:Value} (c: (P.underlying t).map iH=some true) (d: (P.info? t).map (λi=>(i.zero,i.size))=some (some z,1)) (a:z.oneCell'=true):cN P t z:=by
 refine⟨?_,?_,a⟩;cases b:P.underlying t <;> simp_all
 cases b:P.info? t <;> simp_all
theorem cG.of {P:Program} {t:TypeId} {sz:Nat} {z:List Value} (c: (P.underlying t).map iH=some false) (d: (P.info? t).map (λi=>(i.zero,i.size))=some (some (.agg z.toArray),sz)) (a:z.length=sz):cG P t sz z:=by
 refine⟨?_,?_,a⟩;cases b:P.underlying t <;> simp_all
 cases b:P.info? t <;> simp_all
theorem c6.of {P:Program} {t e sz bytes:Nat} (fj:Value) {z:List Value} (a:P.underlying t=some (.slice e)) (d: (P.info? e).map (λi=>(i.zero,i.size,i.bytes))=some (some fj,sz,bytes)) (f:fj.cells.toList=z) (b:z.length=sz) (c:Nat.ble 1 sz=true):c6 P t e sz bytes z:=by
 refine⟨a,?_,dY c,b⟩;cases g:P.info? e <;> simp_all
theorem pw {P:Program} {t:TypeId} {d:TypeDesc} {w:World} (h:P.underlying t=some d): (isAgg t).run P w= .ok (!iH d) w:=by
 unfold isAgg;simp only[Sem.run_bind,run_underlying h,Result.andThen_ok];cases d <;> rfl
theorem run_sizeOf {P:Program} {t:TypeId} {i:TypeInfo} {w:World} (h:P.info? t=some i): (sizeOf t).run P w= .ok i.size w:=by
 simp[sizeOf,typeInfo,h]
theorem r9 {P:Program} {t:TypeId} {i:TypeInfo} {z:Value} {w:World} (h:P.info? t=some i) (a:i.zero=some z): (zeroValue t).run P w= .ok z w:=by
 simp[zeroValue,typeInfo,h,a]
def mz (l:Fr) (a:Operand→Value):Prop:= ∀x v,ba l x=some v→a x=v
def cM (l:Fr):List Operand→Option (List Value)
 | []=>some []
 | x::xs=>match ba l x,cM l xs with
  | some v,some vs=>some (v::vs)
  | _,_=>none
theorem mz.list {l:Fr} {b:Operand→Value} (h:mz l b): ∀(xs:List Operand) (vs:List Value),cM l xs=some vs→xs.map b=vs
 | [],vs,a=>by simp[cM] at a;simp[a]
 | x::xs,vs,a=>by
  simp only[cM] at a
  split at a
  rename_i v c d e;simp only[dI] at a
  subst a;simp[h x v d,h.list xs c e]
  cases a
section
variable {P:Program} {n:Nat} {ops:Array Oper} {Q:cq} {rest:List Oper} {l:Fr} {H:World→Prop} {d:Nat} {ty:TypeId} {pos:String} {a6:Array Edge}
theorem hD {b:Op} (ak:Nat.blt d n=true)
 (h: ∀c w,mz l c→H w→ ∃v w',(execOp c ⟨some d,b,ty,pos,a6,none⟩).run P w= .ok (.value v) w'∧az P n ops Q rest ((d,v)::l) (λx=>x=w')):
 az P n ops Q (⟨some d,b,ty,pos,a6,none⟩::rest) l H:=by
 intro w f a e;obtain⟨v,w',g,i⟩:=h a.eval w (λx v j=>e.ba j) f;unfold wpList;rw[ay (by simp[Region.wanted])];refine .inl ?_;simp only[Oper.wp,g,Oper.upon_value];exact i w' rfl _ (e.put (dY ak) v)
theorem uq {b:Op}
 (h: ∀c w,mz l c→H w→ ∃w',(execOp c ⟨none,b,ty,pos,a6,none⟩).run P w= .ok .skip w'∧az P n ops Q rest l (λx=>x=w')):
 az P n ops Q (⟨none,b,ty,pos,a6,none⟩::rest) l H:=by
 intro w e a d;obtain⟨w',f,g⟩:=h a.eval w (λx v i=>d.ba i) e;unfold wpList;rw[ay (by simp[Region.wanted])];refine .inl ?_;simp only[Oper.wp,f,Oper.upon_skip];exact g w' rfl _ d
theorem az.at {w':World} (h:az P n ops Q rest l H) (b:H w'):az P n ops Q rest l (λx=>x=w'):=λ_ e a c=>by subst e;exact h _ b a c
theorem df {b:Op} (v:Value) (ak:Nat.blt d n=true) (c: ∀a w,mz l a→(execOp a ⟨some d,b,ty,pos,a6,none⟩).run P w= .ok (.value v) w)
 (h:az P n ops Q rest ((d,v)::l) H):az P n ops Q (⟨some d,b,ty,pos,a6,none⟩::rest) l H:=
 hD ak λa w e f=>⟨v,w,c a w e,h.at f⟩
theorem r_ {b:Op} (v:Value) (ak:Nat.blt d n=true) (e: ∀a w,mz l a→H w→(execOp a ⟨some d,b,ty,pos,a6,none⟩).run P w= .ok (.value v) w)
 (h:az P n ops Q rest ((d,v)::l) H):az P n ops Q (⟨some d,b,ty,pos,a6,none⟩::rest) l H:=
 hD ak λa w f c=>⟨v,w,e a w f c,h.at c⟩
theorem bY {d:Op} {e:Option Nat} {j t:Nat} {f b:Bool} (i: (ops[j]?).bind (·.dst)=some t) (k:look l t=some (.bool b)) (m:b=f)
 (h:az P n ops Q (⟨e,d,ty,pos,a6,none⟩::rest) l H):az P n ops Q (⟨e,d,ty,pos,a6,some (j,f)⟩::rest) l H:=by
 intro w o a g;have c:=h w o a g
 unfold wpList at c ⊢
 rw[ay (by simp[Region.wanted])] at c
 rw[ay (by simp[Region.wanted,yielded,i,g.val t _ k,m])];exact c
theorem f_ {f:Op} {j t:Nat} {c b:Bool} (ak:Nat.blt d n=true) (g: (ops[j]?).bind (·.dst)=some t) (i:look l t=some (.bool b)) (k:b= !c)
 (h:az P n ops Q rest ((d,undef)::l) H):az P n ops Q (⟨some d,f,ty,pos,a6,some (j,c)⟩::rest) l H:=by
 intro w m a e;unfold wpList;rw[ag (by simp[Region.wanted,yielded,g,e.val t _ i,k])];exact h w m _ (e.put (dY ak) _)
theorem gl {x:Operand} {v:Value} (ak:Nat.blt d n=true) (a:ba l x=some v) (h:az P n ops Q rest ((d,v)::l) H):az P n ops Q (⟨some d,.move x,ty,pos,a6,none⟩::rest) l H:=
 df v ak (λc w b=>by simp[execOp,b x v a]) h
theorem za {x:Operand} {v:Value} (ak:Nat.blt d n=true) (a:ba l x=some v) (h:az P n ops Q rest ((d,v)::l) H):az P n ops Q (⟨some d,.assign x,ty,pos,a6,none⟩::rest) l H:=
 df v ak (λc w b=>by simp[execOp,b x v a]) h
theorem Lm {c x y:Operand} {v:Value} (ak:Nat.blt d n=true) (b:ba l c=some (.bool true)) (e:ba l x=some v) (h:az P n ops Q rest ((d,v)::l) H):az P n ops Q (⟨some d,.pick c x y,ty,pos,a6,none⟩::rest) l H:=
 df v ak (λf w a=>by simp[execOp,a c _ b,a x v e,asBool]) h
theorem Ln {c x y:Operand} {v:Value} (ak:Nat.blt d n=true) (b:ba l c=some (.bool false)) (e:ba l y=some v) (h:az P n ops Q rest ((d,v)::l) H):az P n ops Q (⟨some d,.pick c x y,ty,pos,a6,none⟩::rest) l H:=
 df v ak (λf w a=>by simp[execOp,a c _ b,a y v e,asBool]) h
theorem wrap64 {z:Int} (a: -9223372036854775808≤z) (b:z≤9223372036854775807):IntKind.i64.wrap z=z:=by
 rw[IntKind.wrap_i64];omega
section
variable {cv dD:TypeId} {x y:Operand} {k:IntKind} {a b:Int}
theorem gu {r:Int} (ak:Nat.blt d n=true) (e:ba l x=some (.int k a)) (f:ba l y=some (.int k b)) (g:k.wrap (a+b)=r)
 (h:az P n ops Q rest ((d,.int k r)::l) H):az P n ops Q (⟨some d,.binOp .add cv x y dD,ty,pos,a6,none⟩::rest) l H:=
 df _ ak (λi w c=>by simp[execOp,c x _ e,c y _ f,eqGuard,binOp,Op.intArith,g]) h
theorem gN {r:Int} (ak:Nat.blt d n=true) (e:ba l x=some (.int k a)) (f:ba l y=some (.int k b)) (g:k.wrap (a - b)=r)
 (h:az P n ops Q rest ((d,.int k r)::l) H):az P n ops Q (⟨some d,.binOp .sub cv x y dD,ty,pos,a6,none⟩::rest) l H:=
 df _ ak (λi w c=>by simp[execOp,c x _ e,c y _ f,eqGuard,binOp,Op.intArith,g]) h
theorem k1 {r:Int} (ak:Nat.blt d n=true) (e:ba l x=some (.int k a)) (f:ba l y=some (.int k b)) (g:k.wrap (a*b)=r)
 (h:az P n ops Q rest ((d,.int k r)::l) H):az P n ops Q (⟨some d,.binOp .mul cv x y dD,ty,pos,a6,none⟩::rest) l H:=
 df _ ak (λi w c=>by simp[execOp,c x _ e,c y _ f,eqGuard,binOp,Op.intArith,g]) h
theorem Lo {r:Int} (ak:Nat.blt d n=true) (e:ba l x=some (.int k a)) (f:ba l y=some (.int k b)) (g:b≠0) (i:a.tmod b=r)
 (h:az P n ops Q rest ((d,.int k r)::l) H):az P n ops Q (⟨some d,.binOp .rem cv x y dD,ty,pos,a6,none⟩::rest) l H:=
 df _ ak (λj w c=>by simp[execOp,c x _ e,c y _ f,eqGuard,binOp,Op.intDiv,g,i]) h
theorem Lp {r:Int} (ak:Nat.blt d n=true) (e:ba l x=some (.int k a)) (f:ba l y=some (.int k b)) (g:b≠0) (i:k.wrap (a.tdiv b)=r)
 (h:az P n ops Q rest ((d,.int k r)::l) H):az P n ops Q (⟨some d,.binOp .quo cv x y dD,ty,pos,a6,none⟩::rest) l H:=
 df _ ak (λj w c=>by simp[execOp,c x _ e,c y _ f,eqGuard,binOp,Op.intDiv,g,i]) h
theorem Dt (ak:Nat.blt d n=true) (e:ba l x=some (.int k a)) (f:ba l y=some (.int k b))
 (h:az P n ops Q rest ((d,.bool (decide (a<b)))::l) H):az P n ops Q (⟨some d,.binOp .lss cv x y dD,ty,pos,a6,none⟩::rest) l H:=
 df _ ak (λg w c=>by simp[execOp,c x _ e,c y _ f,eqGuard,binOp,Op.intCmp]) h
theorem Du (ak:Nat.blt d n=true) (e:ba l x=some (.int k a)) (f:ba l y=some (.int k b))
 (h:az P n ops Q rest ((d,.bool (decide (a≤b)))::l) H):az P n ops Q (⟨some d,.binOp .leq cv x y dD,ty,pos,a6,none⟩::rest) l H:=
 df _ ak (λg w c=>by simp[execOp,c x _ e,c y _ f,eqGuard,binOp,Op.intCmp]) h
theorem sa (ak:Nat.blt d n=true) (e:ba l x=some (.int k a)) (f:ba l y=some (.int k b))
 (h:az P n ops Q rest ((d,.bool (decide (b<a)))::l) H):az P n ops Q (⟨some d,.binOp .gtr cv x y dD,ty,pos,a6,none⟩::rest) l H:=
 df _ ak (λg w c=>by simp[execOp,c x _ e,c y _ f,eqGuard,binOp,Op.intCmp]) h
theorem Dv (ak:Nat.blt d n=true) (e:ba l x=some (.int k a)) (f:ba l y=some (.int k b))
 (h:az P n ops Q rest ((d,.bool (decide (b≤a)))::l) H):az P n ops Q (⟨some d,.binOp .geq cv x y dD,ty,pos,a6,none⟩::rest) l H:=
 df _ ak (λg w c=>by simp[execOp,c x _ e,c y _ f,eqGuard,binOp,Op.intCmp]) h
theorem Dw (a b:Int): (a == b)=decide (a=b):=by by_cases h:a=b <;> simp[h]
theorem Lq (a b:Int): (a != b)=decide (a≠b):=by by_cases h:a=b <;> simp[h]
theorem Dx (ak:Nat.blt d n=true) (e:ba l x=some (.int k a)) (f:ba l y=some (.int k b))
 (h:az P n ops Q rest ((d,.bool (decide (a=b)))::l) H):az P n ops Q (⟨some d,.binOp .eql cv x y dD,ty,pos,a6,none⟩::rest) l H:=
 df _ ak (λg w c=>by simp[execOp,c x _ e,c y _ f,eqGuard,binOp,Op.intCmp,Dw]) h
theorem wr (ak:Nat.blt d n=true) (e:ba l x=some (.int k a)) (f:ba l y=some (.int k b))
 (h:az P n ops Q rest ((d,.bool (decide (a≠b)))::l) H):az P n ops Q (⟨some d,.binOp .neq cv x y dD,ty,pos,a6,none⟩::rest) l H:=
 df _ ak (λg w c=>by simp[execOp,c x _ e,c y _ f,eqGuard,binOp,Op.intCmp,Lq]) h
theorem Dy {t:Bool} (ak:Nat.blt d n=true) (a:ba l x=some (.bool t))
 (h:az P n ops Q rest ((d,.bool (!t))::l) H):az P n ops Q (⟨some d,.unOp .not cv x,ty,pos,a6,none⟩::rest) l H:=
 df _ ak (λc w b=>by simp[execOp,b x _ a,Op.unary]) h
theorem dm {b:IntKind} {src c:TypeId} {e:TypeDesc} {r:Int} (ak:Nat.blt d n=true) (f:ba l x=some (.int k a)) (g:P.underlying src=some e) (i:P.underlying c=some (.int b)) (j:b.wrap a=r)
 (h:az P n ops Q rest ((d,.int b r)::l) H):az P n ops Q (⟨some d,.convert src c x,ty,pos,a6,none⟩::rest) l H:=
 df _ ak (λo w m=>by simp[execOp,m x _ f,convert,run_underlying g,run_underlying i,Conv.intToInt,j]) h
theorem Dz {da:Array TypeId} (ak:Nat.blt d n=true) (f:ba l x=some (.int k a)) (g:ba l y=some (.int k b))
 (h:az P n ops Q rest ((d,.int k (min a b))::l) H):az P n ops Q (⟨some d,.call ⟨.builtin .min,#[x,y],da⟩,ty,pos,a6,none⟩::rest) l H:=
 df _ ak (λi w c=>by
  have e: (if b<a then b else a)=min a b:=by omega
  simp[execOp,resolve,invoke,builtin,Builtin.min_,Builtin.min2,c x _ f,c y _ g,e]) h
theorem DA {da:Array TypeId} (ak:Nat.blt d n=true) (f:ba l x=some (.int k a)) (g:ba l y=some (.int k b))
 (h:az P n ops Q rest ((d,.int k (max a b))::l) H):az P n ops Q (⟨some d,.call ⟨.builtin .max,#[x,y],da⟩,ty,pos,a6,none⟩::rest) l H:=
 df _ ak (λi w c=>by
  have e: (if a<b then b else a)=max a b:=by omega
  simp[execOp,resolve,invoke,builtin,Builtin.max_,Builtin.max2,c x _ f,c y _ g,e]) h
end
theorem ur {x:Operand} {t e:TypeId} {A:Option Addr} {m c:Nat} (a:P.underlying t=some (.slice e)) (ak:Nat.blt d n=true) (b:ba l x=some (.slice A m c))
 (h:az P n ops Q rest ((d,.int .i64 (m:Int))::l) H):az P n ops Q (⟨some d,.call ⟨.builtin .len,#[x],#[t]⟩,ty,pos,a6,none⟩::rest) l H:=
 df _ ak (λg w f=>by simp[execOp,resolve,invoke,builtin,Builtin.len_,goInt,run_underlying a,f x _ b]) h
theorem bw {x i:Operand} {t e sz f:Nat} {z:List Value} {A:Option Addr} {b2:Addr} {m c q:Nat} {k:IntKind} {j:Int} (a:c6 P t e sz f z) (ak:Nat.blt d n=true) (g:ba l x=some (.slice A m c)) (hi:ba l i=some (.int k j))
 (o:A=some b2) (p:j=(q:Int)) (u:q<m)
 (h:az P n ops Q rest ((d,.pointer (some (b2.add (q*sz))))::l) H):az P n ops Q (⟨some d,.indexAddr t x i,ty,pos,a6,none⟩::rest) l H:=by
 subst o;subst p
 obtain⟨inf,fj,r,_,_,s,_⟩:=a.inf;refine df _ ak (λv w b=>?_) h;simp[execOp,b x _ g,b i _ hi,Instr.indexAt,asIntOf,run_underlying a.e_,run_sizeOf r,s]
 omega
theorem k2 {x:Operand} {s i off g o:Nat} (a:aF P s i off) (ak:Nat.blt d n=true) (b:ba l x=some (.pointer (some ⟨g,o,none⟩)))
 (h:az P n ops Q rest ((d,.pointer (some ⟨g,o+off,none⟩))::l) H):az P n ops Q (⟨some d,.fieldAddr s x i,ty,pos,a6,none⟩::rest) l H:=by
 obtain⟨c8,f,j,c,e,k,m,p⟩:=a.hC;refine df _ ak (λr w q=>?_) h;simp[execOp,q x _ b,Instr.fieldAt,run_underlying c,e,Instr.sureAddr,fieldPlace,run_sizeOf k,m,p,Addr.add_lit]
theorem DB {x:Operand} {s i off:Nat} {p:Addr} (a:aF P s i off) (ak:Nat.blt d n=true) (b:ba l x=some (.pointer (some p)))
 (h:az P n ops Q rest ((d,.pointer (some (p.add off)))::l) H):az P n ops Q (⟨some d,.fieldAddr s x i,ty,pos,a6,none⟩::rest) l H:=by
 obtain⟨c8,f,j,c,e,g,k,m⟩:=a.hC;refine df _ ak (λq w o=>?_) h;simp[execOp,o x _ b,Instr.fieldAt,run_underlying c,e,Instr.sureAddr,fieldPlace,run_sizeOf g,k,m]
theorem run_loadCellsFrom {w:World} {p:Addr}: ∀(vs:List Value) (i:Nat) (a:Array Value),(∀j u,vs[j]? = some u→w.cell? (p.add (i+j))=some u)→
 (loadCellsFrom p i vs.length a).run P w= .ok (a++vs.toArray) w
 | [],i,a,_=>by simp[loadCellsFrom]
 | v::vs,i,a,h=>by
  have b:=h 0 v rfl
  simp only[Nat.add_zero] at b
  have c:=run_loadCellsFrom vs (i+1) (a.push v) (λj u d=>by
   have:=h (j+1) u (by simpa using d)
   rwa [show i+(j+1)=i+1+j by omega] at this)
  simp[loadCellsFrom,b,c]
theorem a7 {x:Operand} {t:TypeId} {z:Value} {p:Addr} {v:Value} (a:cN P t z) (ak:Nat.blt d n=true) (b:ba l x=some (.pointer (some p)))
 (c: ∀w,H w→w.cell? p=some v)
 (h:az P n ops Q rest ((d,v)::l) H):az P n ops Q (⟨some d,.load t x,ty,pos,a6,none⟩::rest) l H:=by
 obtain⟨j,e,f⟩:=a.e_;refine r_ _ ak (λk w g i=>?_) h;simp[execOp,g x _ b,Instr.loadAt,Instr.sureAddr,loadVar,pw e,f,c w i]
theorem cy {x:Operand} {t sz:Nat} {z:List Value} {p:Addr} {vs:List Value} (a:cG P t sz z) (ak:Nat.blt d n=true) (b:ba l x=some (.pointer (some p)))
 (c:vs.length=sz) (e: ∀w,H w→ ∀j u,vs[j]? = some u→w.cell? (p.add j)=some u)
 (h:az P n ops Q rest ((d,.agg vs.toArray)::l) H):az P n ops Q (⟨some d,.load t x,ty,pos,a6,none⟩::rest) l H:=by
 obtain⟨s,f,g⟩:=a.e_;obtain⟨i,k,_,m⟩:=a.inf;refine r_ _ ak (λv w o q=>?_) h;have:=run_loadCellsFrom (P:=P) (w:=w) (p:=p) vs 0 #[] (λj u r=>by simpa using e w q j u r)
 simp[execOp,o x _ b,Instr.loadAt,Instr.sureAddr,loadVar,pw f,g,run_sizeOf k,m,loadCells,←c,this]
end
end
section
section
variable {P:Program} {n:Nat} {ops:Array Oper} {Q:cq} {rest:List Oper} {l:Fr} {d:Nat} {ty:TypeId} {pos:String} {a6:Array Edge}
variable {b:World} {S:List Nat} {cs:List Chunk}
theorem af.ut {w:World} (h:af b S cs w) (xs:List Value) (t:TypeId):af b S (aE w.heap.size xs t::cs) (w.alloc (.cells xs.toArray t)):=
 h.add (Ext.alloc _ _ _) (by exact heap_alloc_new w _) (by simp[aE]) (by simp[aE])
theorem Lr {t sz:Nat} {z:List Value} (c:cG P t sz z) (ak:Nat.blt d n=true)
 (h: ∀g,b.heap.size≤g→(∀k∈aA cs,k<g)→az P n ops Q rest ((d,.pointer (some ⟨g,0,none⟩))::l) (af b S (aE g z t::cs))):
 az P n ops Q (⟨some d,.alloc t,ty,pos,a6,none⟩::rest) l (af b S cs):=by
 obtain⟨i,e,f,_⟩:=c.inf;refine hD ak λm w _ a=>⟨.pointer (some ⟨w.heap.size,0,none⟩),w.alloc (.cells z.toArray t),?_,(h w.heap.size a.ext.size (λk j=>a.lt j)).at (a.ut z t)⟩
 simp[execOp,Instr.alloc,r9 e f,newVar,newRow,Value.cells]
theorem wt {z:Value} (h:z.oneCell'=true):z.cells= #[z]:=by
 cases z <;> first | rfl | cases h
theorem sb {t:Nat} {z:Value} (c:cN P t z) (ak:Nat.blt d n=true)
 (h: ∀g,b.heap.size≤g→(∀k∈aA cs,k<g)→az P n ops Q rest ((d,.pointer (some ⟨g,0,none⟩))::l) (af b S (aE g [z] t::cs))):
 az P n ops Q (⟨some d,.alloc t,ty,pos,a6,none⟩::rest) l (af b S cs):=by
 obtain⟨i,e,f,_⟩:=c.inf;refine hD ak λm w _ a=>⟨.pointer (some ⟨w.heap.size,0,none⟩),w.alloc (.cells [z].toArray t),?_,(h w.heap.size a.ext.size (λk j=>a.lt j)).at (a.ut [z] t)⟩
 simp[execOp,Instr.alloc,r9 e f,newVar,newRow,wt c.one]
theorem Ls {t:Nat} {x:Operand} {xs:List Value} (ak:Nat.blt d n=true) (c:ba l x=some (.agg xs.toArray))
 (h: ∀g,b.heap.size≤g→(∀k∈aA cs,k<g)→az P n ops Q rest ((d,.pointer (some ⟨g,0,none⟩))::l) (af b S (aE g xs t::cs))):
 az P n ops Q (⟨some d,.box t x,ty,pos,a6,none⟩::rest) l (af b S cs):=by
 refine hD ak λi w e a=>⟨.pointer (some ⟨w.heap.size,0,none⟩),w.alloc (.cells xs.toArray t),?_,(h w.heap.size a.ext.size (λk f=>a.lt f)).at (a.ut xs t)⟩
 simp[execOp,Instr.box,e x _ c,newVar,newRow,Value.cells]
theorem Lt {t:Nat} {x:Operand} {v:Value} (ak:Nat.blt d n=true) (c:ba l x=some v) (e:v.oneCell'=true)
 (h: ∀g,b.heap.size≤g→(∀k∈aA cs,k<g)→az P n ops Q rest ((d,.pointer (some ⟨g,0,none⟩))::l) (af b S (aE g [v] t::cs))):
 az P n ops Q (⟨some d,.box t x,ty,pos,a6,none⟩::rest) l (af b S cs):=by
 refine hD ak λj w f a=>⟨.pointer (some ⟨w.heap.size,0,none⟩),w.alloc (.cells [v].toArray t),?_,(h w.heap.size a.ext.size (λk i=>a.lt i)).at (a.ut [v] t)⟩
 simp[execOp,Instr.box,f x _ c,newVar,newRow,wt e]
def cZ (xs:List Value):Nat→List Value→List Value
 | _,[]=>xs
 | o,v::vs=>cZ (xs.set o v) (o+1) vs
theorem wu (vs:List Value): ∀(xs:List Value) (o:Nat),(cZ xs o vs).length=xs.length:=by
 induction vs with
 | nil=>intro xs o;rfl
 | cons v vs a=>intro xs o;simp[cZ,a]
def aH (vs:List Value):Prop:= ∀u∈vs,u.oneCell'=true
theorem zb {g:Nat} {t:TypeId}: ∀(vs:List Value) (xs:List Value) (w:World) (o i:Nat),w.heap[g]? = some (.cells xs.toArray t (0,0))→o+i+vs.length≤xs.length→aH vs→
 ∃w',(storeCells (⟨g,o,none⟩ :Addr) vs i).run P w= .ok () w'∧w'.heap[g]? = some (.cells (cZ xs (o+i) vs).toArray t (0,0))∧Ext [g] w w'
 | [],xs,w,o,i,h,_,_=>⟨w,by simp[storeCells],by simpa [cZ] using h,Ext.refl _ _⟩
 | v::vs,xs,w,o,i,h,b,a=>by
  simp only[eK] at b
  have c: (⟨g,o,none⟩ :Addr).add i=⟨g,o+i,none⟩:=Addr.add_lit g o i
  have d:w.cell? ⟨g,o+i,none⟩=some (xs[o+i]'aa):=by
   rw[cell_of_row w g (o+i) xs.toArray t (0,0) h];simp
  have e:w.frozen? ⟨g,o+i,none⟩=false:=by simp[World.frozen?,h]
  have f: (w.setCell ⟨g,o+i,none⟩ v).heap[g]? = some (.cells (xs.set (o+i) v).toArray t (0,0)):=by
   simp[World.setCell,qz,h]
  obtain⟨w',j,k,l⟩:=zb vs (xs.set (o+i) v) (w.setCell ⟨g,o+i,none⟩ v) o (i+1) f (by simp;omega) (λu m=>a u (by simp[m]));refine⟨w',?_,by simpa [cZ,Nat.add_assoc] using k,(Ext.setCell w ⟨g,o+i,none⟩ v).trans l av⟩;have n:=run_store P w ⟨g,o+i,none⟩ v .plain (a v av)
  simp only[storeCells,c,Sem.run_bind,n,d,e];simpa using j
theorem af.store {w:World} {g:Nat} {xs:List Value} {t:TypeId} {cs':List Chunk} (h:af b S cs w) {o:Nat} {vs:List Value} (c:o+vs.length≤xs.length) (d:aH vs)
 (a:bn cs (aE g xs t) (aE g (cZ xs o vs) t) cs'):
 ∃w',(storeCells (⟨g,o,none⟩ :Addr) vs 0).run P w= .ok () w'∧af b S cs' w':=by
 have e: (aE g xs t).pred w:=by
  obtain⟨l,r,rfl,_⟩:=a.split;exact h.all _ av
 obtain⟨w',f,i,j⟩:=zb (P:=P) vs xs w o 0 e (by simpa using c) d;exact⟨w',f,h.ic a j i (by simp[aE]) (by simp[aE])⟩
theorem eW {x y:Operand} {t sz:Nat} {z vs:List Value} {g o:Nat} {xs:List Value} {te:TypeId} {cs':List Chunk} (c:cG P t sz z) (d:ba l x=some (.pointer (some ⟨g,o,none⟩))) (e:ba l y=some (.agg vs.toArray))
 (f:bn cs (aE g xs te) (aE g (cZ xs o vs) te) cs') (j:vs.length=sz) (k:aH vs) (m:o+vs.length≤xs.length)
 (h:az P n ops Q rest l (af b S cs')):az P n ops Q (⟨none,.store t x y,ty,pos,a6,none⟩::rest) l (af b S cs):=by
 obtain⟨i,p,_,q⟩:=c.inf;refine uq λv w a r=>?_
 obtain⟨w',s,u⟩:=r.store (P:=P) m k f;refine⟨w',?_,h.at u⟩;simp[execOp,Instr.storeAt,a x _ d,a y _ e,Instr.sureAddr,storeVar,run_sizeOf p,q,j,Value.cells,s]
theorem DC {x y:Operand} {t:Nat} {z v:Value} {g o:Nat} {xs:List Value} {te:TypeId} {cs':List Chunk} (d:cN P t z) (e:ba l x=some (.pointer (some ⟨g,o,none⟩))) (f:ba l y=some v)
 (j:bn cs (aE g xs te) (aE g (xs.set o v) te) cs') (a:v.oneCell'=true) (k:o+1≤xs.length)
 (h:az P n ops Q rest l (af b S cs')):az P n ops Q (⟨none,.store t x y,ty,pos,a6,none⟩::rest) l (af b S cs):=by
 obtain⟨i,m,_,p⟩:=d.inf;refine uq λu w c q=>?_
 obtain⟨w',r,s⟩:=q.store (P:=P) (vs:=[v]) k (by simpa [aH] using a) j;refine⟨w',?_,h.at s⟩;simp[execOp,Instr.storeAt,c x _ e,c y _ f,Instr.sureAddr,storeVar,run_sizeOf m,p,wt a,r]
theorem zc {x:Operand} {t:TypeId} {z:Value} {g o:Nat} {xs:List Value} {te:TypeId} {v:Value} (a:cN P t z) (ak:Nat.blt d n=true) (c:ba l x=some (.pointer (some ⟨g,o,none⟩)))
 (e:Has cs (aE g xs te)) (f:xs[o]? = some v)
 (h:az P n ops Q rest ((d,v)::l) (af b S cs)):az P n ops Q (⟨some d,.load t x,ty,pos,a6,none⟩::rest) l (af b S cs):=
 a7 a ak c (λ_ i=>i.ep e f) h
theorem zd {x:Operand} {t sz:TypeId} {z:List Value} {g o:Nat} {xs vs:List Value} {te:TypeId} (c:cG P t sz z) (ak:Nat.blt d n=true) (e:ba l x=some (.pointer (some ⟨g,o,none⟩)))
 (f:Has cs (aE g xs te)) (i: (xs.drop o).take sz=vs) (k:vs.length=sz)
 (h:az P n ops Q rest ((d,.agg vs.toArray)::l) (af b S cs)):az P n ops Q (⟨some d,.load t x,ty,pos,a6,none⟩::rest) l (af b S cs):=
 cy c ak e k (λ_ m j u a=>by
  rw[Addr.add_lit];refine m.ep f ?_;rw[←i,iB] at a
  split at a
  simpa using a
  cases a) h
theorem af.ze {w:World} (h:af b S cs w) (e size:Nat):af b S (own e size (.slice none 0 0) 0 []::cs) w:=h.na (by exact World.ownsRow_nil _ _ _ _) rfl
theorem px {H:List Oper} (e size:Nat) (h:az P n ops Q H l (af b S (own e size (.slice none 0 0) 0 []::cs))):az P n ops Q H l (af b S cs):=
 hg h (Sub.refl _) (λ_ a=>a.ze e size)
theorem jS {c:Code} (e size:Nat) (h:de P n c Q l (af b S (own e size (.slice none 0 0) 0 []::cs))):de P n c Q l (af b S cs):=
 cL h (Sub.refl _) (λ_ a=>a.ze e size)
theorem bn.has {cs cs':List Chunk} {c c':Chunk} (h:bn cs c c' cs'):Has cs c:=by
 induction h with
 | head=>exact .head
 | tail _ a=>exact .tail a
theorem aae {x y:Operand} {t e sz s:Nat} {z:List Value} {v:Value} {m:Nat} {xs:List Value} {a:Addr} {k c:Nat} {news:List Value} {cs':Value→List Chunk} (r:c6 P t e sz s z) (ak:Nat.blt d n=true)
 (E:ba l x=some v) (F:ba l y=some (.slice (some a) k c)) (A: ∀f,bn cs (own e sz v m xs) (own e sz f (m+k) (xs++news)) (cs' f))
 (G:news.length=k*sz) (H: ∀w,af b S cs w→ ∀j u,news[j]? = some u→w.cell? (a.add j)=some u) (I:aH news) (J:m+k≤maxLen) (K: (m+k)*s≤140737488355328)
 (h: ∀f,(∀g,f.ownBlock=some g→v.ownBlock=some g∨(b.heap.size≤g∧ ∀k∈aA cs,k<g))→az P n ops Q rest ((d,f)::l) (af b S (cs' f))):
 az P n ops Q (⟨some d,.call ⟨.builtin .append,#[x,y],#[t,t]⟩,ty,pos,a6,none⟩::rest) l (af b S cs):=by
 obtain⟨i,fj,L,M,N,O,R⟩:=r.inf;refine hD ak λY w B p=>?_
 have T:=p.has (A v).has
 obtain⟨f,w',U,V,W,_,o⟩:=run_append_own_at (P:=P) w 0 t ty e i fj sz s r.e_ L M O R (by rw[←lF,N,r.len]) r.pos v m xs T a k c news G (H w p) I J K (bP _);refine⟨f,w',?_,(h f ?_).at (p.ic (A f) (Ext.uo W) V ?_ ?_)⟩;simp[execOp,resolve,invoke,builtin,B x _ E,B y _ F,U]
 intro g C;rcases o with o | o
 exact .inl (o▸C);rw[C] at o
 simp only[dI] at o
 subst o;exact .inr ⟨p.ext.size,λk X=>p.lt X⟩;intro D q;show D∈v.ownBlock.toList∨_
 replace q:D∈f.ownBlock.toList:=q
 rcases o with o | o
 exact .inl (o▸q);rw[o] at q
 simp at q
 exact .inr aa;show f.ownBlock.toList.Nodup
 cases f.ownBlock <;> simp
theorem gv {x y:Operand} {t e sz s:Nat} {z:List Value} {v:Value} {m:Nat} {xs:List Value} {g:Nat} {k c:Nat} {te:TypeId} {news:List Value} {cs':Value→List Chunk} {A:List Chunk} (p:c6 P t e sz s z) (ak:Nat.blt d n=true)
 (G:ba l x=some v) (H:ba l y=some (.slice (some ⟨g,0,none⟩) k c)) (B:bv cs (aE g news te) A) (C: ∀a,bn A (own e sz v m xs) (own e sz a (m+k) (xs++news)) (cs' a))
 (I:news.length=k*sz) (J:aH news) (K:m+k≤maxLen) (L: (m+k)*s≤140737488355328)
 (h: ∀a,(∀g,a.ownBlock=some g→v.ownBlock=some g∨(b.heap.size≤g∧ ∀k∈aA cs,k<g))→az P n ops Q rest ((d,a)::l) (af b S (cs' a))):
 az P n ops Q (⟨some d,.call ⟨.builtin .append,#[x,y],#[t,t]⟩,ty,pos,a6,none⟩::rest) l (af b S cs):=by
 obtain⟨i,fj,M,N,O,R,T⟩:=p.inf;refine hD ak λZb w D q=>?_
 have E:=q.rem B
 have U:=E.has (C v).has
 have r: (aE g news te).pred w:=by
  obtain⟨l1,hh,V,_⟩:=B.split;exact q.all _ (by simp[V])
 obtain⟨a,w',W,X,Y,_,f⟩:=run_append_own_at (P:=P) w 0 t ty e i fj sz s p.e_ M N R T (by rw[←lF,O,p.len]) p.pos v m xs U ⟨g,0,none⟩ k c news I
  (λj u Z=>by
   rw[Addr.add_lit,cell_of_row w g (0+j) news.toArray te (0,0) r];simpa using Z) J K L (bP _)
 refine⟨a,w',?_,(h a ?_).at (E.ic (C a) (Ext.uo Y) X ?_ ?_)⟩;simp[execOp,resolve,invoke,builtin,D x _ G,D y _ H,W]
 intro g r;rcases f with f | f
 exact .inl (f▸r);rw[r] at f
 simp only[dI] at f
 subst f;exact .inr ⟨q.ext.size,λk Za=>q.lt Za⟩;intro F o;show F∈v.ownBlock.toList∨_
 replace o:F∈a.ownBlock.toList:=o
 rcases f with f | f
 exact .inl (f▸o);rw[f] at o
 simp at o
 exact .inr aa;show a.ownBlock.toList.Nodup
 cases a.ownBlock <;> simp
class ad (P:Program) (f:FuncId):Prop where
 hC: ∃fn,P.funcs[f]? = some fn∧(fn.name == "runtime.NumGoroutine")=false∧fn.body.isNone=false
theorem zf {f:FuncId} (h:ad P f) (args:Array Value) (w:World): (callFunc f args).run P w= .ok (.enter f args) w:=by
 obtain⟨fn,a,b,c⟩:=h.hC;simp only[callFunc,Sem.run_bind,run_program,Result.andThen_ok,a,b,c,Bool.false_eq_true,if_false];rfl
section
variable {H:World→Prop} {ie:Operand} {args:List Operand} {da:Array TypeId} {f:FuncId} {vs:List Value}
theorem gO {first cap:Array Value} (g:ba l ie=some (.func (.func f) first cap)) (ak:Nat.blt d n=true) (i:ad P f) (j:cM l args=some vs)
 (h: ∀w,H w→Calls P f (first++vs.toArray++cap) w (λe w'=> ∃v,e= .returned v∧az P n ops Q rest ((d,v)::l) (λx=>x=w'))):
 az P n ops Q (⟨some d,.call ⟨.value ie,args.toArray,da⟩,ty,pos,a6,none⟩::rest) l H:=by
 intro w k a b;have c:mz l a.eval:=λx v m=>b.ba m
 unfold wpList;rw[ay (by simp[Region.wanted])];refine .inl ?_;have o: (execOp a.eval ⟨some d,.call ⟨.value ie,args.toArray,da⟩,ty,pos,a6,none⟩).run P w= .ok (.enter f (first++vs.toArray++cap)) w:=by
  simp[execOp,resolve,c ie _ g,Deferred.ofValue,invoke,c.list _ _ j,zf i]
 simp only[Oper.wp,o,Oper.upon_enter];refine (h w k).mono ?_;rintro e w' ⟨v,rfl,p⟩;exact p w' rfl _ (b.put (dY ak) v)
end
theorem ao {args:List Operand} {da:Array TypeId} {f:FuncId} {vs:List Value} {v:Value} (ak:Nat.blt d n=true) (c:ad P f) (g:cM l args=some vs)
 (i: ∀w,af b S cs w→Calls P f vs.toArray w (λe w'=>e= .returned v∧Ext [] w w'))
 (h:az P n ops Q rest ((d,v)::l) (af b S cs)):
 az P n ops Q (⟨some d,.call ⟨.value (.func f),args.toArray,da⟩,ty,pos,a6,none⟩::rest) l (af b S cs):=by
 refine gO rfl ak c g λw a=>?_
 have:=i w a
 simp only[iA,iX];refine this.mono ?_;rintro e w' ⟨rfl,j⟩;exact⟨v,rfl,h.at (a.keep j)⟩
theorem Lu {args:List Operand} {da:Array TypeId} {f:FuncId} {vs:List Value} (i:World→Value→World→Prop) (ak:Nat.blt d n=true) (j:ad P f) (m:cM l args=some vs)
 (o: ∀w,af b S cs w→Calls P f vs.toArray w (λe w'=> ∃v,e= .returned v∧Ext [] w w'∧i w v w'))
 (h: ∀w v c,af b S cs w→Ext [] w c→i w v c→Ext S b c→(∀k∈aA cs,k<w.heap.size)→az P n ops Q rest ((d,v)::l) (af c (aA cs) cs)):
 az P n ops Q (⟨some d,.call ⟨.value (.func f),args.toArray,da⟩,ty,pos,a6,none⟩::rest) l (af b S cs):=by
 refine gO rfl ak j m λw a=>?_
 have:=o w a
 simp only[iA,iX];refine this.mono ?_;rintro e w' ⟨v,rfl,g,ai⟩;exact⟨v,rfl,(h w v w' a g ai (a.ext.dZ g) (λk p=>a.lt p)).at (a.keep g).oq⟩
end
end
end Go.Proofs.YtoghoobfpcadbaaGreatDoor.Mq
