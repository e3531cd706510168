/- part 2 of the proof -/
import Derived.Test.YtkeokgcdnfjaaaaGreatDoorQ01
namespace Go.Proofs.YtkeokgcdnfjaaaaGreatDoor.Mq
open Go Go.RowKit
section
def iy:TypeDesc→Bool
 | .struct _=>false
 | .array _ _=>false
 | _=>true
class cJ (P:Program) (t:TypeId) (z:outParam Value):Prop where
 e8: ∃d,P.underlying t=some d∧iy d=true
 inf: ∃i,P.info? t=some i∧i.zero=some z∧i.size=1
 one:z.oneCell'=true
class cB (P:Program) (t:TypeId) (sz:outParam Nat) (z:outParam (List Value)):Prop where
 e8: ∃d,P.underlying t=some d∧iy d=false
 inf: ∃i,P.info? t=some i∧i.zero=some (.agg z.toArray)∧i.size=sz
 len:z.length=sz
class cY (P:Program) (t:Nat) (e sz bytes:outParam Nat) (z:outParam (List Value)):Prop where
 e8:P.underlying t=some (.slice e)
 inf: ∃i fg,P.info? e=some i∧i.zero=some fg∧fg.cells.toList=z∧i.size=sz∧i.bytes=bytes
 pos:0<sz
 len:z.length=sz
class aE (P:Program) (s i:Nat) (off:outParam Nat):Prop where
 hs: ∃c6 f j,P.underlying s=some (.struct c6)∧c6[i]? = some f∧P.info? f.type=some j∧j.size≠0∧f.offset=off
theorem cJ.of {P:Program} {t:TypeId} {z:Value} (c: (P.underlying t).map iy=some true) (d: (P.info? t).map (λi=>(i.zero,i.size))=some (some z,1)) (a:z.oneCell'=true):cJ P t z:=by
 refine⟨?_,?_,a⟩;cases b:P.underlying t <;> simp_all
 cases b:P.info? t <;> simp_all
theorem cB.of {P:Program} {t:TypeId} {sz:Nat} {z:List Value} (c: (P.underlying t).map iy=some false) (d: (P.info? t).map (λi=>(i.zero,i.size))=some (some (.agg z.toArray),sz)) (a:z.length=sz):cB P t sz z:=by
 refine⟨?_,?_,a⟩;cases b:P.underlying t <;> simp_all
 cases b:P.info? t <;> simp_all
theorem cY.of {P:Program} {t e sz bytes:Nat} (fg:Value) {z:List Value} (a:P.underlying t=some (.slice e)) (d: (P.info? e).map (λi=>(i.zero,i.size,i.bytes))=some (some fg,sz,bytes)) (f:fg.cells.toList=z) (b:z.length=sz) (c:Nat.ble 1 sz=true):cY P t e sz bytes z:=by
 refine⟨a,?_,dT c,b⟩;cases g:P.info? e <;> simp_all
theorem pp {P:Program} {t:TypeId} {d:TypeDesc} {w:World} (h:P.underlying t=some d): (isAgg t).run P w= .ok (!iy d) w:=by
 unfold isAgg;simp only[Sem.run_bind,run_underlying h,Result.andThen_ok];cases d <;> rfl
theorem run_sizeOf {P:Program} {t:TypeId} {i:TypeInfo} {w:World} (h:P.info? t=some i): (sizeOf t).run P w= .ok i.size w:=by
 simp[sizeOf,typeInfo,h]
theorem r1 {P:Program} {t:TypeId} {i:TypeInfo} {z:Value} {w:World} (h:P.info? t=some i) (a:i.zero=some z): (zeroValue t).run P w= .ok z w:=by
 simp[zeroValue,typeInfo,h,a]
def ms (l:Fr) (a:Operand→Value):Prop:= ∀x v,a_ l x=some v→a x=v
def cH (l:Fr):List Operand→Option (List Value)
 | []=>some []
 | x::xs=>match a_ l x,cH l xs with
  | some v,some vs=>some (v::vs)
  | _,_=>none
theorem ms.list {l:Fr} {b:Operand→Value} (h:ms l b): ∀(xs:List Operand) (vs:List Value),cH l xs=some vs→xs.map b=vs
 | [],vs,a=>by simp[cH] at a;simp[a]
 | x::xs,vs,a=>by
  simp only[cH] at a
  split at a
  rename_i v c d e;simp only[dz] at a
  subst a;simp[h x v d,h.list xs c e]
  cases a
section
variable {P:Program} {n:Nat} {ops:Array Oper} {Q:cl} {rest:List Oper} {l:Fr} {H:World→Prop} {d:Nat} {ty:TypeId} {pos:String} {a6:Array Edge}
theorem ht {b:Op} (ak:Nat.blt d n=true)
 (h: ∀c w,ms l c→H w→ ∃v w',(execOp c ⟨some d,b,ty,pos,a6,none⟩).run P w= .ok (.value v) w'∧az P n ops Q rest ((d,v)::l) (λx=>x=w')):
 az P n ops Q (⟨some d,b,ty,pos,a6,none⟩::rest) l H:=by
 intro w f a e;obtain⟨v,w',g,i⟩:=h a.eval w (λx v j=>e.a_ j) f;unfold wpList;rw[ax (by simp[Region.wanted])];refine .inl ?_;simp only[Oper.wp,g,Oper.upon_value];exact i w' rfl _ (e.put (dT ak) v)
theorem uh {b:Op}
 (h: ∀c w,ms l c→H w→ ∃w',(execOp c ⟨none,b,ty,pos,a6,none⟩).run P w= .ok .skip w'∧az P n ops Q rest l (λx=>x=w')):
 az P n ops Q (⟨none,b,ty,pos,a6,none⟩::rest) l H:=by
 intro w e a d;obtain⟨w',f,g⟩:=h a.eval w (λx v i=>d.a_ i) e;unfold wpList;rw[ax (by simp[Region.wanted])];refine .inl ?_;simp only[Oper.wp,f,Oper.upon_skip];exact g w' rfl _ d
theorem az.at {w':World} (h:az P n ops Q rest l H) (b:H w'):az P n ops Q rest l (λx=>x=w'):=λ_ e a c=>by subst e;exact h _ b a c
theorem da {b:Op} (v:Value) (ak:Nat.blt d n=true) (c: ∀a w,ms l a→(execOp a ⟨some d,b,ty,pos,a6,none⟩).run P w= .ok (.value v) w)
 (h:az P n ops Q rest ((d,v)::l) H):az P n ops Q (⟨some d,b,ty,pos,a6,none⟩::rest) l H:=
 ht ak λa w e f=>⟨v,w,c a w e,h.at f⟩
theorem r2 {b:Op} (v:Value) (ak:Nat.blt d n=true) (e: ∀a w,ms l a→H w→(execOp a ⟨some d,b,ty,pos,a6,none⟩).run P w= .ok (.value v) w)
 (h:az P n ops Q rest ((d,v)::l) H):az P n ops Q (⟨some d,b,ty,pos,a6,none⟩::rest) l H:=
 ht ak λa w f c=>⟨v,w,e a w f c,h.at c⟩
theorem cA {d:Op} {e:Option Nat} {j t:Nat} {f b:Bool} (i: (ops[j]?).bind (·.dst)=some t) (k:look l t=some (.bool b)) (m:b=f)
 (h:az P n ops Q (⟨e,d,ty,pos,a6,none⟩::rest) l H):az P n ops Q (⟨e,d,ty,pos,a6,some (j,f)⟩::rest) l H:=by
 intro w o a g;have c:=h w o a g
 unfold wpList at c ⊢
 rw[ax (by simp[Region.wanted])] at c
 rw[ax (by simp[Region.wanted,yielded,i,g.val t _ k,m])];exact c
theorem fW {f:Op} {j t:Nat} {c b:Bool} (ak:Nat.blt d n=true) (g: (ops[j]?).bind (·.dst)=some t) (i:look l t=some (.bool b)) (k:b= !c)
 (h:az P n ops Q rest ((d,undef)::l) H):az P n ops Q (⟨some d,f,ty,pos,a6,some (j,c)⟩::rest) l H:=by
 intro w m a e;unfold wpList;rw[ag (by simp[Region.wanted,yielded,g,e.val t _ i,k])];exact h w m _ (e.put (dT ak) _)
theorem hW {x:Operand} {v:Value} (ak:Nat.blt d n=true) (a:a_ l x=some v) (h:az P n ops Q rest ((d,v)::l) H):az P n ops Q (⟨some d,.move x,ty,pos,a6,none⟩::rest) l H:=
 da v ak (λc w b=>by simp[execOp,b x v a]) h
theorem y3 {x:Operand} {v:Value} (ak:Nat.blt d n=true) (a:a_ l x=some v) (h:az P n ops Q rest ((d,v)::l) H):az P n ops Q (⟨some d,.assign x,ty,pos,a6,none⟩::rest) l H:=
 da v ak (λc w b=>by simp[execOp,b x v a]) h
theorem Ld {c x y:Operand} {v:Value} (ak:Nat.blt d n=true) (b:a_ l c=some (.bool true)) (e:a_ l x=some v) (h:az P n ops Q rest ((d,v)::l) H):az P n ops Q (⟨some d,.pick c x y,ty,pos,a6,none⟩::rest) l H:=
 da v ak (λf w a=>by simp[execOp,a c _ b,a x v e,asBool]) h
theorem Le {c x y:Operand} {v:Value} (ak:Nat.blt d n=true) (b:a_ l c=some (.bool false)) (e:a_ l y=some v) (h:az P n ops Q rest ((d,v)::l) H):az P n ops Q (⟨some d,.pick c x y,ty,pos,a6,none⟩::rest) l H:=
 da v ak (λf w a=>by simp[execOp,a c _ b,a y v e,asBool]) h
theorem wrap64 {z:Int} (a: -9223372036854775808≤z) (b:z≤9223372036854775807):IntKind.i64.wrap z=z:=by
 rw[IntKind.wrap_i64];omega
section
variable {cn du:TypeId} {x y:Operand} {k:IntKind} {a b:Int}
theorem gH {r:Int} (ak:Nat.blt d n=true) (e:a_ l x=some (.int k a)) (f:a_ l y=some (.int k b)) (g:k.wrap (a+b)=r)
 (h:az P n ops Q rest ((d,.int k r)::l) H):az P n ops Q (⟨some d,.binOp .add cn x y du,ty,pos,a6,none⟩::rest) l H:=
 da _ ak (λi w c=>by simp[execOp,c x _ e,c y _ f,eqGuard,binOp,Op.intArith,g]) h
theorem gI {r:Int} (ak:Nat.blt d n=true) (e:a_ l x=some (.int k a)) (f:a_ l y=some (.int k b)) (g:k.wrap (a - b)=r)
 (h:az P n ops Q rest ((d,.int k r)::l) H):az P n ops Q (⟨some d,.binOp .sub cn x y du,ty,pos,a6,none⟩::rest) l H:=
 da _ ak (λi w c=>by simp[execOp,c x _ e,c y _ f,eqGuard,binOp,Op.intArith,g]) h
theorem kV {r:Int} (ak:Nat.blt d n=true) (e:a_ l x=some (.int k a)) (f:a_ l y=some (.int k b)) (g:k.wrap (a*b)=r)
 (h:az P n ops Q rest ((d,.int k r)::l) H):az P n ops Q (⟨some d,.binOp .mul cn x y du,ty,pos,a6,none⟩::rest) l H:=
 da _ ak (λi w c=>by simp[execOp,c x _ e,c y _ f,eqGuard,binOp,Op.intArith,g]) h
theorem Lf {r:Int} (ak:Nat.blt d n=true) (e:a_ l x=some (.int k a)) (f:a_ l y=some (.int k b)) (g:b≠0) (i:a.tmod b=r)
 (h:az P n ops Q rest ((d,.int k r)::l) H):az P n ops Q (⟨some d,.binOp .rem cn x y du,ty,pos,a6,none⟩::rest) l H:=
 da _ ak (λj w c=>by simp[execOp,c x _ e,c y _ f,eqGuard,binOp,Op.intDiv,g,i]) h
theorem Lg {r:Int} (ak:Nat.blt d n=true) (e:a_ l x=some (.int k a)) (f:a_ l y=some (.int k b)) (g:b≠0) (i:k.wrap (a.tdiv b)=r)
 (h:az P n ops Q rest ((d,.int k r)::l) H):az P n ops Q (⟨some d,.binOp .quo cn x y du,ty,pos,a6,none⟩::rest) l H:=
 da _ ak (λj w c=>by simp[execOp,c x _ e,c y _ f,eqGuard,binOp,Op.intDiv,g,i]) h
theorem Dg (ak:Nat.blt d n=true) (e:a_ l x=some (.int k a)) (f:a_ l y=some (.int k b))
 (h:az P n ops Q rest ((d,.bool (decide (a<b)))::l) H):az P n ops Q (⟨some d,.binOp .lss cn x y du,ty,pos,a6,none⟩::rest) l H:=
 da _ ak (λg w c=>by simp[execOp,c x _ e,c y _ f,eqGuard,binOp,Op.intCmp]) h
theorem Dh (ak:Nat.blt d n=true) (e:a_ l x=some (.int k a)) (f:a_ l y=some (.int k b))
 (h:az P n ops Q rest ((d,.bool (decide (a≤b)))::l) H):az P n ops Q (⟨some d,.binOp .leq cn x y du,ty,pos,a6,none⟩::rest) l H:=
 da _ ak (λg w c=>by simp[execOp,c x _ e,c y _ f,eqGuard,binOp,Op.intCmp]) h
theorem Di (ak:Nat.blt d n=true) (e:a_ l x=some (.int k a)) (f:a_ l y=some (.int k b))
 (h:az P n ops Q rest ((d,.bool (decide (b<a)))::l) H):az P n ops Q (⟨some d,.binOp .gtr cn x y du,ty,pos,a6,none⟩::rest) l H:=
 da _ ak (λg w c=>by simp[execOp,c x _ e,c y _ f,eqGuard,binOp,Op.intCmp]) h
theorem Dj (ak:Nat.blt d n=true) (e:a_ l x=some (.int k a)) (f:a_ l y=some (.int k b))
 (h:az P n ops Q rest ((d,.bool (decide (b≤a)))::l) H):az P n ops Q (⟨some d,.binOp .geq cn x y du,ty,pos,a6,none⟩::rest) l H:=
 da _ ak (λg w c=>by simp[execOp,c x _ e,c y _ f,eqGuard,binOp,Op.intCmp]) h
theorem Dk (a b:Int): (a == b)=decide (a=b):=by by_cases h:a=b <;> simp[h]
theorem Lh (a b:Int): (a != b)=decide (a≠b):=by by_cases h:a=b <;> simp[h]
theorem Dl (ak:Nat.blt d n=true) (e:a_ l x=some (.int k a)) (f:a_ l y=some (.int k b))
 (h:az P n ops Q rest ((d,.bool (decide (a=b)))::l) H):az P n ops Q (⟨some d,.binOp .eql cn x y du,ty,pos,a6,none⟩::rest) l H:=
 da _ ak (λg w c=>by simp[execOp,c x _ e,c y _ f,eqGuard,binOp,Op.intCmp,Dk]) h
theorem we (ak:Nat.blt d n=true) (e:a_ l x=some (.int k a)) (f:a_ l y=some (.int k b))
 (h:az P n ops Q rest ((d,.bool (decide (a≠b)))::l) H):az P n ops Q (⟨some d,.binOp .neq cn x y du,ty,pos,a6,none⟩::rest) l H:=
 da _ ak (λg w c=>by simp[execOp,c x _ e,c y _ f,eqGuard,binOp,Op.intCmp,Lh]) h
theorem Dm {t:Bool} (ak:Nat.blt d n=true) (a:a_ l x=some (.bool t))
 (h:az P n ops Q rest ((d,.bool (!t))::l) H):az P n ops Q (⟨some d,.unOp .not cn x,ty,pos,a6,none⟩::rest) l H:=
 da _ ak (λc w b=>by simp[execOp,b x _ a,Op.unary]) h
theorem dl {b:IntKind} {src c:TypeId} {e:TypeDesc} {r:Int} (ak:Nat.blt d n=true) (f:a_ l x=some (.int k a)) (g:P.underlying src=some e) (i:P.underlying c=some (.int b)) (j:b.wrap a=r)
 (h:az P n ops Q rest ((d,.int b r)::l) H):az P n ops Q (⟨some d,.convert src c x,ty,pos,a6,none⟩::rest) l H:=
 da _ ak (λo w m=>by simp[execOp,m x _ f,convert,run_underlying g,run_underlying i,Conv.intToInt,j]) h
theorem Dn {c_:Array TypeId} (ak:Nat.blt d n=true) (f:a_ l x=some (.int k a)) (g:a_ l y=some (.int k b))
 (h:az P n ops Q rest ((d,.int k (min a b))::l) H):az P n ops Q (⟨some d,.call ⟨.builtin .min,#[x,y],c_⟩,ty,pos,a6,none⟩::rest) l H:=
 da _ ak (λi w c=>by
  have e: (if b<a then b else a)=min a b:=by omega
  simp[execOp,resolve,invoke,builtin,Builtin.min_,Builtin.min2,c x _ f,c y _ g,e]) h
theorem Do {c_:Array TypeId} (ak:Nat.blt d n=true) (f:a_ l x=some (.int k a)) (g:a_ l y=some (.int k b))
 (h:az P n ops Q rest ((d,.int k (max a b))::l) H):az P n ops Q (⟨some d,.call ⟨.builtin .max,#[x,y],c_⟩,ty,pos,a6,none⟩::rest) l H:=
 da _ ak (λi w c=>by
  have e: (if a<b then b else a)=max a b:=by omega
  simp[execOp,resolve,invoke,builtin,Builtin.max_,Builtin.max2,c x _ f,c y _ g,e]) h
end
theorem Dp {x:Operand} {t e:TypeId} {A:Option Addr} {m c:Nat} (a:P.underlying t=some (.slice e)) (ak:Nat.blt d n=true) (b:a_ l x=some (.slice A m c))
 (h:az P n ops Q rest ((d,.int .i64 (m:Int))::l) H):az P n ops Q (⟨some d,.call ⟨.builtin .len,#[x],#[t]⟩,ty,pos,a6,none⟩::rest) l H:=
 da _ ak (λg w f=>by simp[execOp,resolve,invoke,builtin,Builtin.len_,goInt,run_underlying a,f x _ b]) h
theorem bD {x i:Operand} {t e sz f:Nat} {z:List Value} {A:Option Addr} {bX:Addr} {m c q:Nat} {k:IntKind} {j:Int} (a:cY P t e sz f z) (ak:Nat.blt d n=true) (g:a_ l x=some (.slice A m c)) (hi:a_ l i=some (.int k j))
 (o:A=some bX) (p:j=(q:Int)) (u:q<m)
 (h:az P n ops Q rest ((d,.pointer (some (bX.add (q*sz))))::l) H):az P n ops Q (⟨some d,.indexAddr t x i,ty,pos,a6,none⟩::rest) l H:=by
 subst o;subst p
 obtain⟨inf,fg,r,_,_,s,_⟩:=a.inf;refine da _ ak (λv w b=>?_) h;simp[execOp,b x _ g,b i _ hi,Instr.indexAt,asIntOf,run_underlying a.e8,run_sizeOf r,s]
 omega
theorem m5 {x:Operand} {s i off g o:Nat} (a:aE P s i off) (ak:Nat.blt d n=true) (b:a_ l x=some (.pointer (some ⟨g,o,none⟩)))
 (h:az P n ops Q rest ((d,.pointer (some ⟨g,o+off,none⟩))::l) H):az P n ops Q (⟨some d,.fieldAddr s x i,ty,pos,a6,none⟩::rest) l H:=by
 obtain⟨c6,f,j,c,e,k,m,p⟩:=a.hs;refine da _ ak (λr w q=>?_) h;simp[execOp,q x _ b,Instr.fieldAt,run_underlying c,e,Instr.sureAddr,fieldPlace,run_sizeOf k,m,p,Addr.add_lit]
theorem Dq {x:Operand} {s i off:Nat} {p:Addr} (a:aE P s i off) (ak:Nat.blt d n=true) (b:a_ l x=some (.pointer (some p)))
 (h:az P n ops Q rest ((d,.pointer (some (p.add off)))::l) H):az P n ops Q (⟨some d,.fieldAddr s x i,ty,pos,a6,none⟩::rest) l H:=by
 obtain⟨c6,f,j,c,e,g,k,m⟩:=a.hs;refine da _ ak (λq w o=>?_) h;simp[execOp,o x _ b,Instr.fieldAt,run_underlying c,e,Instr.sureAddr,fieldPlace,run_sizeOf g,k,m]
theorem run_loadCellsFrom {w:World} {p:Addr}: ∀(vs:List Value) (i:Nat) (a:Array Value),(∀j u,vs[j]? = some u→w.cell? (p.add (i+j))=some u)→
 (loadCellsFrom p i vs.length a).run P w= .ok (a++vs.toArray) w
 | [],i,a,_=>by simp[loadCellsFrom]
 | v::vs,i,a,h=>by
  have b:=h 0 v rfl
  simp only[Nat.add_zero] at b
  have c:=run_loadCellsFrom vs (i+1) (a.push v) (λj u d=>by
   have:=h (j+1) u (by simpa using d)
   rwa [show i+(j+1)=i+1+j by omega] at this)
  simp[loadCellsFrom,b,c]
theorem ba {x:Operand} {t:TypeId} {z:Value} {p:Addr} {v:Value} (a:cJ P t z) (ak:Nat.blt d n=true) (b:a_ l x=some (.pointer (some p)))
 (c: ∀w,H w→w.cell? p=some v)
 (h:az P n ops Q rest ((d,v)::l) H):az P n ops Q (⟨some d,.load t x,ty,pos,a6,none⟩::rest) l H:=by
 obtain⟨j,e,f⟩:=a.e8;refine r2 _ ak (λk w g i=>?_) h;simp[execOp,g x _ b,Instr.loadAt,Instr.sureAddr,loadVar,pp e,f,c w i]
theorem cw {x:Operand} {t sz:Nat} {z:List Value} {p:Addr} {vs:List Value} (a:cB P t sz z) (ak:Nat.blt d n=true) (b:a_ l x=some (.pointer (some p)))
 (c:vs.length=sz) (e: ∀w,H w→ ∀j u,vs[j]? = some u→w.cell? (p.add j)=some u)
 (h:az P n ops Q rest ((d,.agg vs.toArray)::l) H):az P n ops Q (⟨some d,.load t x,ty,pos,a6,none⟩::rest) l H:=by
 obtain⟨s,f,g⟩:=a.e8;obtain⟨i,k,_,m⟩:=a.inf;refine r2 _ ak (λv w o q=>?_) h;have:=run_loadCellsFrom (P:=P) (w:=w) (p:=p) vs 0 #[] (λj u r=>by simpa using e w q j u r)
 simp[execOp,o x _ b,Instr.loadAt,Instr.sureAddr,loadVar,pp f,g,run_sizeOf k,m,loadCells,←c,this]
end
end
section
section
variable {P:Program} {n:Nat} {ops:Array Oper} {Q:cl} {rest:List Oper} {l:Fr} {d:Nat} {ty:TypeId} {pos:String} {a6:Array Edge}
variable {b:World} {S:List Nat} {cs:List Chunk}
theorem af.ui {w:World} (h:af b S cs w) (xs:List Value) (t:TypeId):af b S (aD w.heap.size xs t::cs) (w.alloc (.cells xs.toArray t)):=
 h.add (Ext.alloc _ _ _) (by exact heap_alloc_new w _) (by simp[aD]) (by simp[aD])
theorem Li {t sz:Nat} {z:List Value} (c:cB P t sz z) (ak:Nat.blt d n=true)
 (h: ∀g,b.heap.size≤g→(∀k∈aB cs,k<g)→az P n ops Q rest ((d,.pointer (some ⟨g,0,none⟩))::l) (af b S (aD g z t::cs))):
 az P n ops Q (⟨some d,.alloc t,ty,pos,a6,none⟩::rest) l (af b S cs):=by
 obtain⟨i,e,f,_⟩:=c.inf;refine ht ak λm w _ a=>⟨.pointer (some ⟨w.heap.size,0,none⟩),w.alloc (.cells z.toArray t),?_,(h w.heap.size a.ext.size (λk j=>a.lt j)).at (a.ui z t)⟩
 simp[execOp,Instr.alloc,r1 e f,newVar,newRow,Value.cells]
theorem wg {z:Value} (h:z.oneCell'=true):z.cells= #[z]:=by
 cases z <;> first | rfl | cases h
theorem r3 {t:Nat} {z:Value} (c:cJ P t z) (ak:Nat.blt d n=true)
 (h: ∀g,b.heap.size≤g→(∀k∈aB cs,k<g)→az P n ops Q rest ((d,.pointer (some ⟨g,0,none⟩))::l) (af b S (aD g [z] t::cs))):
 az P n ops Q (⟨some d,.alloc t,ty,pos,a6,none⟩::rest) l (af b S cs):=by
 obtain⟨i,e,f,_⟩:=c.inf;refine ht ak λm w _ a=>⟨.pointer (some ⟨w.heap.size,0,none⟩),w.alloc (.cells [z].toArray t),?_,(h w.heap.size a.ext.size (λk j=>a.lt j)).at (a.ui [z] t)⟩
 simp[execOp,Instr.alloc,r1 e f,newVar,newRow,wg c.one]
theorem Lj {t:Nat} {x:Operand} {xs:List Value} (ak:Nat.blt d n=true) (c:a_ l x=some (.agg xs.toArray))
 (h: ∀g,b.heap.size≤g→(∀k∈aB cs,k<g)→az P n ops Q rest ((d,.pointer (some ⟨g,0,none⟩))::l) (af b S (aD g xs t::cs))):
 az P n ops Q (⟨some d,.box t x,ty,pos,a6,none⟩::rest) l (af b S cs):=by
 refine ht ak λi w e a=>⟨.pointer (some ⟨w.heap.size,0,none⟩),w.alloc (.cells xs.toArray t),?_,(h w.heap.size a.ext.size (λk f=>a.lt f)).at (a.ui xs t)⟩
 simp[execOp,Instr.box,e x _ c,newVar,newRow,Value.cells]
theorem Lk {t:Nat} {x:Operand} {v:Value} (ak:Nat.blt d n=true) (c:a_ l x=some v) (e:v.oneCell'=true)
 (h: ∀g,b.heap.size≤g→(∀k∈aB cs,k<g)→az P n ops Q rest ((d,.pointer (some ⟨g,0,none⟩))::l) (af b S (aD g [v] t::cs))):
 az P n ops Q (⟨some d,.box t x,ty,pos,a6,none⟩::rest) l (af b S cs):=by
 refine ht ak λj w f a=>⟨.pointer (some ⟨w.heap.size,0,none⟩),w.alloc (.cells [v].toArray t),?_,(h w.heap.size a.ext.size (λk i=>a.lt i)).at (a.ui [v] t)⟩
 simp[execOp,Instr.box,f x _ c,newVar,newRow,wg e]
def dd (xs:List Value):Nat→List Value→List Value
 | _,[]=>xs
 | o,v::vs=>dd (xs.set o v) (o+1) vs
theorem Dr (vs:List Value): ∀(xs:List Value) (o:Nat),(dd xs o vs).length=xs.length:=by
 induction vs with
 | nil=>intro xs o;rfl
 | cons v vs a=>intro xs o;simp[dd,a]
def aI (vs:List Value):Prop:= ∀u∈vs,u.oneCell'=true
theorem y4 {g:Nat} {t:TypeId}: ∀(vs:List Value) (xs:List Value) (w:World) (o i:Nat),w.heap[g]? = some (.cells xs.toArray t (0,0))→o+i+vs.length≤xs.length→aI vs→
 ∃w',(storeCells (⟨g,o,none⟩ :Addr) vs i).run P w= .ok () w'∧w'.heap[g]? = some (.cells (dd xs (o+i) vs).toArray t (0,0))∧Ext [g] w w'
 | [],xs,w,o,i,h,_,_=>⟨w,by simp[storeCells],by simpa [dd] using h,Ext.refl _ _⟩
 | v::vs,xs,w,o,i,h,b,a=>by
  simp only[eK] at b
  have c: (⟨g,o,none⟩ :Addr).add i=⟨g,o+i,none⟩:=Addr.add_lit g o i
  have d:w.cell? ⟨g,o+i,none⟩=some (xs[o+i]'aa):=by
   rw[cell_of_row w g (o+i) xs.toArray t (0,0) h];simp
  have e:w.frozen? ⟨g,o+i,none⟩=false:=by simp[World.frozen?,h]
  have f: (w.setCell ⟨g,o+i,none⟩ v).heap[g]? = some (.cells (xs.set (o+i) v).toArray t (0,0)):=by
   simp[World.setCell,qs,h]
  obtain⟨w',j,k,l⟩:=y4 vs (xs.set (o+i) v) (w.setCell ⟨g,o+i,none⟩ v) o (i+1) f (by simp;omega) (λu m=>a u (by simp[m]));refine⟨w',?_,by simpa [dd,Nat.add_assoc] using k,(Ext.setCell w ⟨g,o+i,none⟩ v).trans l av⟩;have n:=run_store P w ⟨g,o+i,none⟩ v .plain (a v av)
  simp only[storeCells,c,Sem.run_bind,n,d,e];simpa using j
theorem af.store {w:World} {g:Nat} {xs:List Value} {t:TypeId} {cs':List Chunk} (h:af b S cs w) {o:Nat} {vs:List Value} (c:o+vs.length≤xs.length) (d:aI vs)
 (a:bn cs (aD g xs t) (aD g (dd xs o vs) t) cs'):
 ∃w',(storeCells (⟨g,o,none⟩ :Addr) vs 0).run P w= .ok () w'∧af b S cs' w':=by
 have e: (aD g xs t).pred w:=by
  obtain⟨l,r,rfl,_⟩:=a.split;exact h.all _ av
 obtain⟨w',f,i,j⟩:=y4 (P:=P) vs xs w o 0 e (by simpa using c) d;exact⟨w',f,h.hV a j i (by simp[aD]) (by simp[aD])⟩
theorem eX {x y:Operand} {t sz:Nat} {z vs:List Value} {g o:Nat} {xs:List Value} {te:TypeId} {cs':List Chunk} (c:cB P t sz z) (d:a_ l x=some (.pointer (some ⟨g,o,none⟩))) (e:a_ l y=some (.agg vs.toArray))
 (f:bn cs (aD g xs te) (aD g (dd xs o vs) te) cs') (j:vs.length=sz) (k:aI vs) (m:o+vs.length≤xs.length)
 (h:az P n ops Q rest l (af b S cs')):az P n ops Q (⟨none,.store t x y,ty,pos,a6,none⟩::rest) l (af b S cs):=by
 obtain⟨i,p,_,q⟩:=c.inf;refine uh λv w a r=>?_
 obtain⟨w',s,u⟩:=r.store (P:=P) m k f;refine⟨w',?_,h.at u⟩;simp[execOp,Instr.storeAt,a x _ d,a y _ e,Instr.sureAddr,storeVar,run_sizeOf p,q,j,Value.cells,s]
theorem Ds {x y:Operand} {t:Nat} {z v:Value} {g o:Nat} {xs:List Value} {te:TypeId} {cs':List Chunk} (d:cJ P t z) (e:a_ l x=some (.pointer (some ⟨g,o,none⟩))) (f:a_ l y=some v)
 (j:bn cs (aD g xs te) (aD g (xs.set o v) te) cs') (a:v.oneCell'=true) (k:o+1≤xs.length)
 (h:az P n ops Q rest l (af b S cs')):az P n ops Q (⟨none,.store t x y,ty,pos,a6,none⟩::rest) l (af b S cs):=by
 obtain⟨i,m,_,p⟩:=d.inf;refine uh λu w c q=>?_
 obtain⟨w',r,s⟩:=q.store (P:=P) (vs:=[v]) k (by simpa [aI] using a) j;refine⟨w',?_,h.at s⟩;simp[execOp,Instr.storeAt,c x _ e,c y _ f,Instr.sureAddr,storeVar,run_sizeOf m,p,wg a,r]
theorem y5 {x:Operand} {t:TypeId} {z:Value} {g o:Nat} {xs:List Value} {te:TypeId} {v:Value} (a:cJ P t z) (ak:Nat.blt d n=true) (c:a_ l x=some (.pointer (some ⟨g,o,none⟩)))
 (e:Has cs (aD g xs te)) (f:xs[o]? = some v)
 (h:az P n ops Q rest ((d,v)::l) (af b S cs)):az P n ops Q (⟨some d,.load t x,ty,pos,a6,none⟩::rest) l (af b S cs):=
 ba a ak c (λ_ i=>i.eM e f) h
theorem y6 {x:Operand} {t sz:TypeId} {z:List Value} {g o:Nat} {xs vs:List Value} {te:TypeId} (c:cB P t sz z) (ak:Nat.blt d n=true) (e:a_ l x=some (.pointer (some ⟨g,o,none⟩)))
 (f:Has cs (aD g xs te)) (i: (xs.drop o).take sz=vs) (k:vs.length=sz)
 (h:az P n ops Q rest ((d,.agg vs.toArray)::l) (af b S cs)):az P n ops Q (⟨some d,.load t x,ty,pos,a6,none⟩::rest) l (af b S cs):=
 cw c ak e k (λ_ m j u a=>by
  rw[Addr.add_lit];refine m.eM f ?_;rw[←i,is] at a
  split at a
  simpa using a
  cases a) h
theorem af.y7 {w:World} (h:af b S cs w) (e size:Nat):af b S (own e size (.slice none 0 0) 0 []::cs) w:=h.mZ (by exact World.ownsRow_nil _ _ _ _) rfl
theorem pq {H:List Oper} (e size:Nat) (h:az P n ops Q H l (af b S (own e size (.slice none 0 0) 0 []::cs))):az P n ops Q H l (af b S cs):=
 ha h (Sub.refl _) (λ_ a=>a.y7 e size)
theorem jM {c:Code} (e size:Nat) (h:dc P n c Q l (af b S (own e size (.slice none 0 0) 0 []::cs))):dc P n c Q l (af b S cs):=
 cG h (Sub.refl _) (λ_ a=>a.y7 e size)
theorem bn.has {cs cs':List Chunk} {c c':Chunk} (h:bn cs c c' cs'):Has cs c:=by
 induction h with
 | head=>exact .head
 | tail _ a=>exact .tail a
theorem YM {x y:Operand} {t e sz s:Nat} {z:List Value} {v:Value} {m:Nat} {xs:List Value} {a:Addr} {k c:Nat} {news:List Value} {cs':Value→List Chunk} (r:cY P t e sz s z) (ak:Nat.blt d n=true)
 (E:a_ l x=some v) (F:a_ l y=some (.slice (some a) k c)) (A: ∀f,bn cs (own e sz v m xs) (own e sz f (m+k) (xs++news)) (cs' f))
 (G:news.length=k*sz) (H: ∀w,af b S cs w→ ∀j u,news[j]? = some u→w.cell? (a.add j)=some u) (I:aI news) (J:m+k≤maxLen) (K: (m+k)*s≤140737488355328)
 (h: ∀f,(∀g,f.ownBlock=some g→v.ownBlock=some g∨(b.heap.size≤g∧ ∀k∈aB cs,k<g))→az P n ops Q rest ((d,f)::l) (af b S (cs' f))):
 az P n ops Q (⟨some d,.call ⟨.builtin .append,#[x,y],#[t,t]⟩,ty,pos,a6,none⟩::rest) l (af b S cs):=by
 obtain⟨i,fg,L,M,N,O,R⟩:=r.inf;refine ht ak λY w B p=>?_
 have T:=p.has (A v).has
 obtain⟨f,w',U,V,W,_,o⟩:=run_append_own_at (P:=P) w 0 t ty e i fg sz s r.e8 L M O R (by rw[←lA,N,r.len]) r.pos v m xs T a k c news G (H w p) I J K (bN _);refine⟨f,w',?_,(h f ?_).at (p.hV (A f) (Ext.uf W) V ?_ ?_)⟩;simp[execOp,resolve,invoke,builtin,B x _ E,B y _ F,U]
 intro g C;rcases o with o | o
 exact .inl (o▸C);rw[C] at o
 simp only[dz] at o
 subst o;exact .inr ⟨p.ext.size,λk X=>p.lt X⟩;intro D q;show D∈v.ownBlock.toList∨_
 replace q:D∈f.ownBlock.toList:=q
 rcases o with o | o
 exact .inl (o▸q);rw[o] at q
 simp at q
 exact .inr aa;show f.ownBlock.toList.Nodup
 cases f.ownBlock <;> simp
theorem gm {x y:Operand} {t e sz s:Nat} {z:List Value} {v:Value} {m:Nat} {xs:List Value} {g:Nat} {k c:Nat} {te:TypeId} {news:List Value} {cs':Value→List Chunk} {A:List Chunk} (p:cY P t e sz s z) (ak:Nat.blt d n=true)
 (G:a_ l x=some v) (H:a_ l y=some (.slice (some ⟨g,0,none⟩) k c)) (B:bv cs (aD g news te) A) (C: ∀a,bn A (own e sz v m xs) (own e sz a (m+k) (xs++news)) (cs' a))
 (I:news.length=k*sz) (J:aI news) (K:m+k≤maxLen) (L: (m+k)*s≤140737488355328)
 (h: ∀a,(∀g,a.ownBlock=some g→v.ownBlock=some g∨(b.heap.size≤g∧ ∀k∈aB cs,k<g))→az P n ops Q rest ((d,a)::l) (af b S (cs' a))):
 az P n ops Q (⟨some d,.call ⟨.builtin .append,#[x,y],#[t,t]⟩,ty,pos,a6,none⟩::rest) l (af b S cs):=by
 obtain⟨i,fg,M,N,O,R,T⟩:=p.inf;refine ht ak λZb w D q=>?_
 have E:=q.rem B
 have U:=E.has (C v).has
 have r: (aD g news te).pred w:=by
  obtain⟨l1,hb,V,_⟩:=B.split;exact q.all _ (by simp[V])
 obtain⟨a,w',W,X,Y,_,f⟩:=run_append_own_at (P:=P) w 0 t ty e i fg sz s p.e8 M N R T (by rw[←lA,O,p.len]) p.pos v m xs U ⟨g,0,none⟩ k c news I
  (λj u Z=>by
   rw[Addr.add_lit,cell_of_row w g (0+j) news.toArray te (0,0) r];simpa using Z) J K L (bN _)
 refine⟨a,w',?_,(h a ?_).at (E.hV (C a) (Ext.uf Y) X ?_ ?_)⟩;simp[execOp,resolve,invoke,builtin,D x _ G,D y _ H,W]
 intro g r;rcases f with f | f
 exact .inl (f▸r);rw[r] at f
 simp only[dz] at f
 subst f;exact .inr ⟨q.ext.size,λk Za=>q.lt Za⟩;intro F o;show F∈v.ownBlock.toList∨_
 replace o:F∈a.ownBlock.toList:=o
 rcases f with f | f
 exact .inl (f▸o);rw[f] at o
 simp at o
 exact .inr aa;show a.ownBlock.toList.Nodup
 cases a.ownBlock <;> simp
class ad (P:Program) (f:FuncId):Prop where
 hs: ∃fn,P.funcs[f]? = some fn∧(fn.name == "runtime.NumGoroutine")=false∧fn.body.isNone=false
theorem y8 {f:FuncId} (h:ad P f) (args:Array Value) (w:World): (callFunc f args).run P w= .ok (.enter f args) w:=by
 obtain⟨fn,a,b,c⟩:=h.hs;simp only[callFunc,Sem.run_bind,run_program,Result.andThen_ok,a,b,c,Bool.false_eq_true,if_false];rfl
section
variable {H:World→Prop} {hX:Operand} {args:List Operand} {c_:Array TypeId} {f:FuncId} {vs:List Value}
theorem gJ {first cap:Array Value} (g:a_ l hX=some (.func (.func f) first cap)) (ak:Nat.blt d n=true) (i:ad P f) (j:cH l args=some vs)
 (h: ∀w,H w→Calls P f (first++vs.toArray++cap) w (λe w'=> ∃v,e= .returned v∧az P n ops Q rest ((d,v)::l) (λx=>x=w'))):
 az P n ops Q (⟨some d,.call ⟨.value hX,args.toArray,c_⟩,ty,pos,a6,none⟩::rest) l H:=by
 intro w k a b;have c:ms l a.eval:=λx v m=>b.a_ m
 unfold wpList;rw[ax (by simp[Region.wanted])];refine .inl ?_;have o: (execOp a.eval ⟨some d,.call ⟨.value hX,args.toArray,c_⟩,ty,pos,a6,none⟩).run P w= .ok (.enter f (first++vs.toArray++cap)) w:=by
  simp[execOp,resolve,c hX _ g,Deferred.ofValue,invoke,c.list _ _ j,y8 i]
 simp only[Oper.wp,o,Oper.upon_enter];refine (h w k).mono ?_;rintro e w' ⟨v,rfl,p⟩;exact p w' rfl _ (b.put (dT ak) v)
end
theorem ao {args:List Operand} {c_:Array TypeId} {f:FuncId} {vs:List Value} {v:Value} (ak:Nat.blt d n=true) (c:ad P f) (g:cH l args=some vs)
 (i: ∀w,af b S cs w→Calls P f vs.toArray w (λe w'=>e= .returned v∧Ext [] w w'))
 (h:az P n ops Q rest ((d,v)::l) (af b S cs)):
 az P n ops Q (⟨some d,.call ⟨.value (.func f),args.toArray,c_⟩,ty,pos,a6,none⟩::rest) l (af b S cs):=by
 refine gJ rfl ak c g λw a=>?_
 have:=i w a
 simp only[ir,iP];refine this.mono ?_;rintro e w' ⟨rfl,j⟩;exact⟨v,rfl,h.at (a.keep j)⟩
theorem Ll {args:List Operand} {c_:Array TypeId} {f:FuncId} {vs:List Value} (i:World→Value→World→Prop) (ak:Nat.blt d n=true) (j:ad P f) (m:cH l args=some vs)
 (o: ∀w,af b S cs w→Calls P f vs.toArray w (λe w'=> ∃v,e= .returned v∧Ext [] w w'∧i w v w'))
 (h: ∀w v c,af b S cs w→Ext [] w c→i w v c→Ext S b c→(∀k∈aB cs,k<w.heap.size)→az P n ops Q rest ((d,v)::l) (af c (aB cs) cs)):
 az P n ops Q (⟨some d,.call ⟨.value (.func f),args.toArray,c_⟩,ty,pos,a6,none⟩::rest) l (af b S cs):=by
 refine gJ rfl ak j m λw a=>?_
 have:=o w a
 simp only[ir,iP];refine this.mono ?_;rintro e w' ⟨v,rfl,g,ai⟩;exact⟨v,rfl,(h w v w' a g ai (a.ext.dU g) (λk p=>a.lt p)).at (a.keep g).og⟩
end
end
end Go.Proofs.YtkeokgcdnfjaaaaGreatDoor.Mq
