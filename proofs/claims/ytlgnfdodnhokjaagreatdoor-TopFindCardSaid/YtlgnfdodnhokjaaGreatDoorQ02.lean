/- part 2 of the proof -/
import Derived.Test.YtlgnfdodnhokjaaGreatDoorQ01
namespace Go.Proofs.YtlgnfdodnhokjaaGreatDoor.Mq
open Go Go.RowKit
section
def iJ:TypeDesc→Bool
 | .struct _=>false
 | .array _ _=>false
 | _=>true
class cL (P:Program) (t:TypeId) (z:outParam Value):Prop where
 fe: ∃d,P.underlying t=some d∧iJ d=true
 inf: ∃i,P.info? t=some i∧i.zero=some z∧i.size=1
 one:z.oneCell'=true
class cD (P:Program) (t:TypeId) (sz:outParam Nat) (z:outParam (List Value)):Prop where
 fe: ∃d,P.underlying t=some d∧iJ d=false
 inf: ∃i,P.info? t=some i∧i.zero=some (.agg z.toArray)∧i.size=sz
 len:z.length=sz
class c6 (P:Program) (t:Nat) (e sz bytes:outParam Nat) (z:outParam (List Value)):Prop where
 fe:P.underlying t=some (.slice e)
 inf: ∃i fs,P.info? e=some i∧i.zero=some fs∧fs.cells.toList=z∧i.size=sz∧i.bytes=bytes
 pos:0<sz
 len:z.length=sz
class aE (P:Program) (s i:Nat) (off:outParam Nat):Prop where
 hC: ∃c8 f j,P.underlying s=some (.struct c8)∧c8[i]? = some f∧P.info? f.type=some j∧j.size≠0∧f.offset=off
theorem cL.of {P:Program} {t:TypeId} {z:Value} (c: (P.underlying t).map iJ=some true) (d: (P.info? t).map (λi=>(i.zero,i.size))=some (some z,1)) (a:z.oneCell'=true):cL P t z:=by
 refine⟨?_,?_,a⟩;cases b:P.underlying t <;> simp_all
 cases b:P.info? t <;> simp_all
theorem cD.of {P:Program} {t:TypeId} {sz:Nat} {z:List Value} (c: (P.underlying t).map iJ=some false) (d: (P.info? t).map (λi=>(i.zero,i.size))=some (some (.agg z.toArray),sz)) (a:z.length=sz):cD P t sz z:=by
 refine⟨?_,?_,a⟩;cases b:P.underlying t <;> simp_all
 cases b:P.info? t <;> simp_all
theorem c6.of {P:Program} {t e sz bytes:Nat} (fs:Value) {z:List Value} (a:P.underlying t=some (.slice e)) (d: (P.info? e).map (λi=>(i.zero,i.size,i.bytes))=some (some fs,sz,bytes)) (f:fs.cells.toList=z) (b:z.length=sz) (c:Nat.ble 1 sz=true):c6 P t e sz bytes z:=by
 refine⟨a,?_,dV c,b⟩;cases g:P.info? e <;> simp_all
theorem pE {P:Program} {t:TypeId} {d:TypeDesc} {w:World} (h:P.underlying t=some d): (isAgg t).run P w= .ok (!iJ d) w:=by
 unfold isAgg;simp only[Sem.run_bind,run_underlying h,Result.andThen_ok];cases d <;> rfl
theorem run_sizeOf {P:Program} {t:TypeId} {i:TypeInfo} {w:World} (h:P.info? t=some i): (sizeOf t).run P w= .ok i.size w:=by
 simp[sizeOf,typeInfo,h]
theorem sl {P:Program} {t:TypeId} {i:TypeInfo} {z:Value} {w:World} (h:P.info? t=some i) (a:i.zero=some z): (zeroValue t).run P w= .ok z w:=by
 simp[zeroValue,typeInfo,h,a]
def mH (l:Fr) (a:Operand→Value):Prop:= ∀x v,ba l x=some v→a x=v
def cI (l:Fr):List Operand→Option (List Value)
 | []=>some []
 | x::xs=>match ba l x,cI l xs with
  | some v,some vs=>some (v::vs)
  | _,_=>none
theorem mH.list {l:Fr} {b:Operand→Value} (h:mH l b): ∀(xs:List Operand) (vs:List Value),cI l xs=some vs→xs.map b=vs
 | [],vs,a=>by simp[cI] at a;simp[a]
 | x::xs,vs,a=>by
  simp only[cI] at a
  split at a
  rename_i v c d e;simp only[dA] at a
  subst a;simp[h x v d,h.list xs c e]
  cases a
section
variable {P:Program} {n:Nat} {ops:Array Oper} {Q:cq} {rest:List Oper} {l:Fr} {H:World→Prop} {d:Nat} {ty:TypeId} {pos:String} {a7:Array Edge}
theorem hD {b:Op} (ak:Nat.blt d n=true)
 (h: ∀c w,mH l c→H w→ ∃v w',(execOp c ⟨some d,b,ty,pos,a7,none⟩).run P w= .ok (.value v) w'∧az P n ops Q rest ((d,v)::l) (λx=>x=w')):
 az P n ops Q (⟨some d,b,ty,pos,a7,none⟩::rest) l H:=by
 intro w f a e;obtain⟨v,w',g,i⟩:=h a.eval w (λx v j=>e.ba j) f;unfold wpList;rw[aw (by simp[Region.wanted])];refine .inl ?_;simp only[Oper.wp,g,Oper.upon_value];exact i w' rfl _ (e.put (dV ak) v)
theorem uB {b:Op}
 (h: ∀c w,mH l c→H w→ ∃w',(execOp c ⟨none,b,ty,pos,a7,none⟩).run P w= .ok .skip w'∧az P n ops Q rest l (λx=>x=w')):
 az P n ops Q (⟨none,b,ty,pos,a7,none⟩::rest) l H:=by
 intro w e a d;obtain⟨w',f,g⟩:=h a.eval w (λx v i=>d.ba i) e;unfold wpList;rw[aw (by simp[Region.wanted])];refine .inl ?_;simp only[Oper.wp,f,Oper.upon_skip];exact g w' rfl _ d
theorem az.at {w':World} (h:az P n ops Q rest l H) (b:H w'):az P n ops Q rest l (λx=>x=w'):=λ_ e a c=>by subst e;exact h _ b a c
theorem dd {b:Op} (v:Value) (ak:Nat.blt d n=true) (c: ∀a w,mH l a→(execOp a ⟨some d,b,ty,pos,a7,none⟩).run P w= .ok (.value v) w)
 (h:az P n ops Q rest ((d,v)::l) H):az P n ops Q (⟨some d,b,ty,pos,a7,none⟩::rest) l H:=
 hD ak λa w e f=>⟨v,w,c a w e,h.at f⟩
theorem sm {b:Op} (v:Value) (ak:Nat.blt d n=true) (e: ∀a w,mH l a→H w→(execOp a ⟨some d,b,ty,pos,a7,none⟩).run P w= .ok (.value v) w)
 (h:az P n ops Q rest ((d,v)::l) H):az P n ops Q (⟨some d,b,ty,pos,a7,none⟩::rest) l H:=
 hD ak λa w f c=>⟨v,w,e a w f c,h.at c⟩
theorem cC {d:Op} {e:Option Nat} {j t:Nat} {f b:Bool} (i: (ops[j]?).bind (·.dst)=some t) (k:look l t=some (.bool b)) (m:b=f)
 (h:az P n ops Q (⟨e,d,ty,pos,a7,none⟩::rest) l H):az P n ops Q (⟨e,d,ty,pos,a7,some (j,f)⟩::rest) l H:=by
 intro w o a g;have c:=h w o a g
 unfold wpList at c ⊢
 rw[aw (by simp[Region.wanted])] at c
 rw[aw (by simp[Region.wanted,yielded,i,g.val t _ k,m])];exact c
theorem ge {f:Op} {j t:Nat} {c b:Bool} (ak:Nat.blt d n=true) (g: (ops[j]?).bind (·.dst)=some t) (i:look l t=some (.bool b)) (k:b= !c)
 (h:az P n ops Q rest ((d,undef)::l) H):az P n ops Q (⟨some d,f,ty,pos,a7,some (j,c)⟩::rest) l H:=by
 intro w m a e;unfold wpList;rw[ag (by simp[Region.wanted,yielded,g,e.val t _ i,k])];exact h w m _ (e.put (dV ak) _)
theorem ig {x:Operand} {v:Value} (ak:Nat.blt d n=true) (a:ba l x=some v) (h:az P n ops Q rest ((d,v)::l) H):az P n ops Q (⟨some d,.move x,ty,pos,a7,none⟩::rest) l H:=
 dd v ak (λc w b=>by simp[execOp,b x v a]) h
theorem zk {x:Operand} {v:Value} (ak:Nat.blt d n=true) (a:ba l x=some v) (h:az P n ops Q rest ((d,v)::l) H):az P n ops Q (⟨some d,.assign x,ty,pos,a7,none⟩::rest) l H:=
 dd v ak (λc w b=>by simp[execOp,b x v a]) h
theorem L0 {c x y:Operand} {v:Value} (ak:Nat.blt d n=true) (b:ba l c=some (.bool true)) (e:ba l x=some v) (h:az P n ops Q rest ((d,v)::l) H):az P n ops Q (⟨some d,.pick c x y,ty,pos,a7,none⟩::rest) l H:=
 dd v ak (λf w a=>by simp[execOp,a c _ b,a x v e,asBool]) h
theorem L1 {c x y:Operand} {v:Value} (ak:Nat.blt d n=true) (b:ba l c=some (.bool false)) (e:ba l y=some v) (h:az P n ops Q rest ((d,v)::l) H):az P n ops Q (⟨some d,.pick c x y,ty,pos,a7,none⟩::rest) l H:=
 dd v ak (λf w a=>by simp[execOp,a c _ b,a y v e,asBool]) h
theorem wrap64 {z:Int} (a: -9223372036854775808≤z) (b:z≤9223372036854775807):IntKind.i64.wrap z=z:=by
 rw[IntKind.wrap_i64];omega
section
variable {cv dx:TypeId} {x y:Operand} {k:IntKind} {a b:Int}
theorem hk {r:Int} (ak:Nat.blt d n=true) (e:ba l x=some (.int k a)) (f:ba l y=some (.int k b)) (g:k.wrap (a+b)=r)
 (h:az P n ops Q rest ((d,.int k r)::l) H):az P n ops Q (⟨some d,.binOp .add cv x y dx,ty,pos,a7,none⟩::rest) l H:=
 dd _ ak (λi w c=>by simp[execOp,c x _ e,c y _ f,eqGuard,binOp,Op.intArith,g]) h
theorem gS {r:Int} (ak:Nat.blt d n=true) (e:ba l x=some (.int k a)) (f:ba l y=some (.int k b)) (g:k.wrap (a - b)=r)
 (h:az P n ops Q rest ((d,.int k r)::l) H):az P n ops Q (⟨some d,.binOp .sub cv x y dx,ty,pos,a7,none⟩::rest) l H:=
 dd _ ak (λi w c=>by simp[execOp,c x _ e,c y _ f,eqGuard,binOp,Op.intArith,g]) h
theorem k3 {r:Int} (ak:Nat.blt d n=true) (e:ba l x=some (.int k a)) (f:ba l y=some (.int k b)) (g:k.wrap (a*b)=r)
 (h:az P n ops Q rest ((d,.int k r)::l) H):az P n ops Q (⟨some d,.binOp .mul cv x y dx,ty,pos,a7,none⟩::rest) l H:=
 dd _ ak (λi w c=>by simp[execOp,c x _ e,c y _ f,eqGuard,binOp,Op.intArith,g]) h
theorem L2 {r:Int} (ak:Nat.blt d n=true) (e:ba l x=some (.int k a)) (f:ba l y=some (.int k b)) (g:b≠0) (i:a.tmod b=r)
 (h:az P n ops Q rest ((d,.int k r)::l) H):az P n ops Q (⟨some d,.binOp .rem cv x y dx,ty,pos,a7,none⟩::rest) l H:=
 dd _ ak (λj w c=>by simp[execOp,c x _ e,c y _ f,eqGuard,binOp,Op.intDiv,g,i]) h
theorem L3 {r:Int} (ak:Nat.blt d n=true) (e:ba l x=some (.int k a)) (f:ba l y=some (.int k b)) (g:b≠0) (i:k.wrap (a.tdiv b)=r)
 (h:az P n ops Q rest ((d,.int k r)::l) H):az P n ops Q (⟨some d,.binOp .quo cv x y dx,ty,pos,a7,none⟩::rest) l H:=
 dd _ ak (λj w c=>by simp[execOp,c x _ e,c y _ f,eqGuard,binOp,Op.intDiv,g,i]) h
theorem DI (ak:Nat.blt d n=true) (e:ba l x=some (.int k a)) (f:ba l y=some (.int k b))
 (h:az P n ops Q rest ((d,.bool (decide (a<b)))::l) H):az P n ops Q (⟨some d,.binOp .lss cv x y dx,ty,pos,a7,none⟩::rest) l H:=
 dd _ ak (λg w c=>by simp[execOp,c x _ e,c y _ f,eqGuard,binOp,Op.intCmp]) h
theorem DJ (ak:Nat.blt d n=true) (e:ba l x=some (.int k a)) (f:ba l y=some (.int k b))
 (h:az P n ops Q rest ((d,.bool (decide (a≤b)))::l) H):az P n ops Q (⟨some d,.binOp .leq cv x y dx,ty,pos,a7,none⟩::rest) l H:=
 dd _ ak (λg w c=>by simp[execOp,c x _ e,c y _ f,eqGuard,binOp,Op.intCmp]) h
theorem DK (ak:Nat.blt d n=true) (e:ba l x=some (.int k a)) (f:ba l y=some (.int k b))
 (h:az P n ops Q rest ((d,.bool (decide (b<a)))::l) H):az P n ops Q (⟨some d,.binOp .gtr cv x y dx,ty,pos,a7,none⟩::rest) l H:=
 dd _ ak (λg w c=>by simp[execOp,c x _ e,c y _ f,eqGuard,binOp,Op.intCmp]) h
theorem DL (ak:Nat.blt d n=true) (e:ba l x=some (.int k a)) (f:ba l y=some (.int k b))
 (h:az P n ops Q rest ((d,.bool (decide (b≤a)))::l) H):az P n ops Q (⟨some d,.binOp .geq cv x y dx,ty,pos,a7,none⟩::rest) l H:=
 dd _ ak (λg w c=>by simp[execOp,c x _ e,c y _ f,eqGuard,binOp,Op.intCmp]) h
theorem DM (a b:Int): (a == b)=decide (a=b):=by by_cases h:a=b <;> simp[h]
theorem L4 (a b:Int): (a != b)=decide (a≠b):=by by_cases h:a=b <;> simp[h]
theorem DN (ak:Nat.blt d n=true) (e:ba l x=some (.int k a)) (f:ba l y=some (.int k b))
 (h:az P n ops Q rest ((d,.bool (decide (a=b)))::l) H):az P n ops Q (⟨some d,.binOp .eql cv x y dx,ty,pos,a7,none⟩::rest) l H:=
 dd _ ak (λg w c=>by simp[execOp,c x _ e,c y _ f,eqGuard,binOp,Op.intCmp,DM]) h
theorem wG (ak:Nat.blt d n=true) (e:ba l x=some (.int k a)) (f:ba l y=some (.int k b))
 (h:az P n ops Q rest ((d,.bool (decide (a≠b)))::l) H):az P n ops Q (⟨some d,.binOp .neq cv x y dx,ty,pos,a7,none⟩::rest) l H:=
 dd _ ak (λg w c=>by simp[execOp,c x _ e,c y _ f,eqGuard,binOp,Op.intCmp,L4]) h
theorem DO {t:Bool} (ak:Nat.blt d n=true) (a:ba l x=some (.bool t))
 (h:az P n ops Q rest ((d,.bool (!t))::l) H):az P n ops Q (⟨some d,.unOp .not cv x,ty,pos,a7,none⟩::rest) l H:=
 dd _ ak (λc w b=>by simp[execOp,b x _ a,Op.unary]) h
theorem dn {b:IntKind} {src c:TypeId} {e:TypeDesc} {r:Int} (ak:Nat.blt d n=true) (f:ba l x=some (.int k a)) (g:P.underlying src=some e) (i:P.underlying c=some (.int b)) (j:b.wrap a=r)
 (h:az P n ops Q rest ((d,.int b r)::l) H):az P n ops Q (⟨some d,.convert src c x,ty,pos,a7,none⟩::rest) l H:=
 dd _ ak (λo w m=>by simp[execOp,m x _ f,convert,run_underlying g,run_underlying i,Conv.intToInt,j]) h
theorem DP {db:Array TypeId} (ak:Nat.blt d n=true) (f:ba l x=some (.int k a)) (g:ba l y=some (.int k b))
 (h:az P n ops Q rest ((d,.int k (min a b))::l) H):az P n ops Q (⟨some d,.call ⟨.builtin .min,#[x,y],db⟩,ty,pos,a7,none⟩::rest) l H:=
 dd _ ak (λi w c=>by
  have e: (if b<a then b else a)=min a b:=by omega
  simp[execOp,resolve,invoke,builtin,Builtin.min_,Builtin.min2,c x _ f,c y _ g,e]) h
theorem DQ {db:Array TypeId} (ak:Nat.blt d n=true) (f:ba l x=some (.int k a)) (g:ba l y=some (.int k b))
 (h:az P n ops Q rest ((d,.int k (max a b))::l) H):az P n ops Q (⟨some d,.call ⟨.builtin .max,#[x,y],db⟩,ty,pos,a7,none⟩::rest) l H:=
 dd _ ak (λi w c=>by
  have e: (if a<b then b else a)=max a b:=by omega
  simp[execOp,resolve,invoke,builtin,Builtin.max_,Builtin.max2,c x _ f,c y _ g,e]) h
end
theorem DR {x:Operand} {t e:TypeId} {A:Option Addr} {m c:Nat} (a:P.underlying t=some (.slice e)) (ak:Nat.blt d n=true) (b:ba l x=some (.slice A m c))
 (h:az P n ops Q rest ((d,.int .i64 (m:Int))::l) H):az P n ops Q (⟨some d,.call ⟨.builtin .len,#[x],#[t]⟩,ty,pos,a7,none⟩::rest) l H:=
 dd _ ak (λg w f=>by simp[execOp,resolve,invoke,builtin,Builtin.len_,goInt,run_underlying a,f x _ b]) h
theorem bC {x i:Operand} {t e sz f:Nat} {z:List Value} {A:Option Addr} {bY:Addr} {m c q:Nat} {k:IntKind} {j:Int} (a:c6 P t e sz f z) (ak:Nat.blt d n=true) (g:ba l x=some (.slice A m c)) (hi:ba l i=some (.int k j))
 (o:A=some bY) (p:j=(q:Int)) (u:q<m)
 (h:az P n ops Q rest ((d,.pointer (some (bY.add (q*sz))))::l) H):az P n ops Q (⟨some d,.indexAddr t x i,ty,pos,a7,none⟩::rest) l H:=by
 subst o;subst p
 obtain⟨inf,fs,r,_,_,s,_⟩:=a.inf;refine dd _ ak (λv w b=>?_) h;simp[execOp,b x _ g,b i _ hi,Instr.indexAt,asIntOf,run_underlying a.fe,run_sizeOf r,s]
 omega
theorem nk {x:Operand} {s i off g o:Nat} (a:aE P s i off) (ak:Nat.blt d n=true) (b:ba l x=some (.pointer (some ⟨g,o,none⟩)))
 (h:az P n ops Q rest ((d,.pointer (some ⟨g,o+off,none⟩))::l) H):az P n ops Q (⟨some d,.fieldAddr s x i,ty,pos,a7,none⟩::rest) l H:=by
 obtain⟨c8,f,j,c,e,k,m,p⟩:=a.hC;refine dd _ ak (λr w q=>?_) h;simp[execOp,q x _ b,Instr.fieldAt,run_underlying c,e,Instr.sureAddr,fieldPlace,run_sizeOf k,m,p,Addr.add_lit]
theorem DS {x:Operand} {s i off:Nat} {p:Addr} (a:aE P s i off) (ak:Nat.blt d n=true) (b:ba l x=some (.pointer (some p)))
 (h:az P n ops Q rest ((d,.pointer (some (p.add off)))::l) H):az P n ops Q (⟨some d,.fieldAddr s x i,ty,pos,a7,none⟩::rest) l H:=by
 obtain⟨c8,f,j,c,e,g,k,m⟩:=a.hC;refine dd _ ak (λq w o=>?_) h;simp[execOp,o x _ b,Instr.fieldAt,run_underlying c,e,Instr.sureAddr,fieldPlace,run_sizeOf g,k,m]
theorem run_loadCellsFrom {w:World} {p:Addr}: ∀(vs:List Value) (i:Nat) (a:Array Value),(∀j u,vs[j]? = some u→w.cell? (p.add (i+j))=some u)→
 (loadCellsFrom p i vs.length a).run P w= .ok (a++vs.toArray) w
 | [],i,a,_=>by simp[loadCellsFrom]
 | v::vs,i,a,h=>by
  have b:=h 0 v rfl
  simp only[Nat.add_zero] at b
  have c:=run_loadCellsFrom vs (i+1) (a.push v) (λj u d=>by
   have:=h (j+1) u (by simpa using d)
   rwa [show i+(j+1)=i+1+j by omega] at this)
  simp[loadCellsFrom,b,c]
theorem a_ {x:Operand} {t:TypeId} {z:Value} {p:Addr} {v:Value} (a:cL P t z) (ak:Nat.blt d n=true) (b:ba l x=some (.pointer (some p)))
 (c: ∀w,H w→w.cell? p=some v)
 (h:az P n ops Q rest ((d,v)::l) H):az P n ops Q (⟨some d,.load t x,ty,pos,a7,none⟩::rest) l H:=by
 obtain⟨j,e,f⟩:=a.fe;refine sm _ ak (λk w g i=>?_) h;simp[execOp,g x _ b,Instr.loadAt,Instr.sureAddr,loadVar,pE e,f,c w i]
theorem cx {x:Operand} {t sz:Nat} {z:List Value} {p:Addr} {vs:List Value} (a:cD P t sz z) (ak:Nat.blt d n=true) (b:ba l x=some (.pointer (some p)))
 (c:vs.length=sz) (e: ∀w,H w→ ∀j u,vs[j]? = some u→w.cell? (p.add j)=some u)
 (h:az P n ops Q rest ((d,.agg vs.toArray)::l) H):az P n ops Q (⟨some d,.load t x,ty,pos,a7,none⟩::rest) l H:=by
 obtain⟨s,f,g⟩:=a.fe;obtain⟨i,k,_,m⟩:=a.inf;refine sm _ ak (λv w o q=>?_) h;have:=run_loadCellsFrom (P:=P) (w:=w) (p:=p) vs 0 #[] (λj u r=>by simpa using e w q j u r)
 simp[execOp,o x _ b,Instr.loadAt,Instr.sureAddr,loadVar,pE f,g,run_sizeOf k,m,loadCells,←c,this]
end
end
section
section
variable {P:Program} {n:Nat} {ops:Array Oper} {Q:cq} {rest:List Oper} {l:Fr} {d:Nat} {ty:TypeId} {pos:String} {a7:Array Edge}
variable {b:World} {S:List Nat} {cs:List Chunk}
theorem af.uC {w:World} (h:af b S cs w) (xs:List Value) (t:TypeId):af b S (aD w.heap.size xs t::cs) (w.alloc (.cells xs.toArray t)):=
 h.add (Ext.alloc _ _ _) (by exact heap_alloc_new w _) (by simp[aD]) (by simp[aD])
theorem L5 {t sz:Nat} {z:List Value} (c:cD P t sz z) (ak:Nat.blt d n=true)
 (h: ∀g,b.heap.size≤g→(∀k∈aB cs,k<g)→az P n ops Q rest ((d,.pointer (some ⟨g,0,none⟩))::l) (af b S (aD g z t::cs))):
 az P n ops Q (⟨some d,.alloc t,ty,pos,a7,none⟩::rest) l (af b S cs):=by
 obtain⟨i,e,f,_⟩:=c.inf;refine hD ak λm w _ a=>⟨.pointer (some ⟨w.heap.size,0,none⟩),w.alloc (.cells z.toArray t),?_,(h w.heap.size a.ext.size (λk j=>a.lt j)).at (a.uC z t)⟩
 simp[execOp,Instr.alloc,sl e f,newVar,newRow,Value.cells]
theorem wH {z:Value} (h:z.oneCell'=true):z.cells= #[z]:=by
 cases z <;> first | rfl | cases h
theorem oD {t:Nat} {z:Value} (c:cL P t z) (ak:Nat.blt d n=true)
 (h: ∀g,b.heap.size≤g→(∀k∈aB cs,k<g)→az P n ops Q rest ((d,.pointer (some ⟨g,0,none⟩))::l) (af b S (aD g [z] t::cs))):
 az P n ops Q (⟨some d,.alloc t,ty,pos,a7,none⟩::rest) l (af b S cs):=by
 obtain⟨i,e,f,_⟩:=c.inf;refine hD ak λm w _ a=>⟨.pointer (some ⟨w.heap.size,0,none⟩),w.alloc (.cells [z].toArray t),?_,(h w.heap.size a.ext.size (λk j=>a.lt j)).at (a.uC [z] t)⟩
 simp[execOp,Instr.alloc,sl e f,newVar,newRow,wH c.one]
theorem L6 {t:Nat} {x:Operand} {xs:List Value} (ak:Nat.blt d n=true) (c:ba l x=some (.agg xs.toArray))
 (h: ∀g,b.heap.size≤g→(∀k∈aB cs,k<g)→az P n ops Q rest ((d,.pointer (some ⟨g,0,none⟩))::l) (af b S (aD g xs t::cs))):
 az P n ops Q (⟨some d,.box t x,ty,pos,a7,none⟩::rest) l (af b S cs):=by
 refine hD ak λi w e a=>⟨.pointer (some ⟨w.heap.size,0,none⟩),w.alloc (.cells xs.toArray t),?_,(h w.heap.size a.ext.size (λk f=>a.lt f)).at (a.uC xs t)⟩
 simp[execOp,Instr.box,e x _ c,newVar,newRow,Value.cells]
theorem L7 {t:Nat} {x:Operand} {v:Value} (ak:Nat.blt d n=true) (c:ba l x=some v) (e:v.oneCell'=true)
 (h: ∀g,b.heap.size≤g→(∀k∈aB cs,k<g)→az P n ops Q rest ((d,.pointer (some ⟨g,0,none⟩))::l) (af b S (aD g [v] t::cs))):
 az P n ops Q (⟨some d,.box t x,ty,pos,a7,none⟩::rest) l (af b S cs):=by
 refine hD ak λj w f a=>⟨.pointer (some ⟨w.heap.size,0,none⟩),w.alloc (.cells [v].toArray t),?_,(h w.heap.size a.ext.size (λk i=>a.lt i)).at (a.uC [v] t)⟩
 simp[execOp,Instr.box,f x _ c,newVar,newRow,wH e]
def df (xs:List Value):Nat→List Value→List Value
 | _,[]=>xs
 | o,v::vs=>df (xs.set o v) (o+1) vs
theorem DT (vs:List Value): ∀(xs:List Value) (o:Nat),(df xs o vs).length=xs.length:=by
 induction vs with
 | nil=>intro xs o;rfl
 | cons v vs a=>intro xs o;simp[df,a]
def aI (vs:List Value):Prop:= ∀u∈vs,u.oneCell'=true
theorem zl {g:Nat} {t:TypeId}: ∀(vs:List Value) (xs:List Value) (w:World) (o i:Nat),w.heap[g]? = some (.cells xs.toArray t (0,0))→o+i+vs.length≤xs.length→aI vs→
 ∃w',(storeCells (⟨g,o,none⟩ :Addr) vs i).run P w= .ok () w'∧w'.heap[g]? = some (.cells (df xs (o+i) vs).toArray t (0,0))∧Ext [g] w w'
 | [],xs,w,o,i,h,_,_=>⟨w,by simp[storeCells],by simpa [df] using h,Ext.refl _ _⟩
 | v::vs,xs,w,o,i,h,b,a=>by
  simp only[eO] at b
  have c: (⟨g,o,none⟩ :Addr).add i=⟨g,o+i,none⟩:=Addr.add_lit g o i
  have d:w.cell? ⟨g,o+i,none⟩=some (xs[o+i]'aa):=by
   rw[cell_of_row w g (o+i) xs.toArray t (0,0) h];simp
  have e:w.frozen? ⟨g,o+i,none⟩=false:=by simp[World.frozen?,h]
  have f: (w.setCell ⟨g,o+i,none⟩ v).heap[g]? = some (.cells (xs.set (o+i) v).toArray t (0,0)):=by
   simp[World.setCell,qG,h]
  obtain⟨w',j,k,l⟩:=zl vs (xs.set (o+i) v) (w.setCell ⟨g,o+i,none⟩ v) o (i+1) f (by simp;omega) (λu m=>a u (by simp[m]));refine⟨w',?_,by simpa [df,qO] using k,(Ext.setCell w ⟨g,o+i,none⟩ v).trans l av⟩;have n:=run_store P w ⟨g,o+i,none⟩ v .plain (a v av)
  simp only[storeCells,c,Sem.run_bind,n,d,e];simpa using j
theorem af.store {w:World} {g:Nat} {xs:List Value} {t:TypeId} {cs':List Chunk} (h:af b S cs w) {o:Nat} {vs:List Value} (c:o+vs.length≤xs.length) (d:aI vs)
 (a:bn cs (aD g xs t) (aD g (df xs o vs) t) cs'):
 ∃w',(storeCells (⟨g,o,none⟩ :Addr) vs 0).run P w= .ok () w'∧af b S cs' w':=by
 have e: (aD g xs t).pred w:=by
  obtain⟨l,r,rfl,_⟩:=a.split;exact h.all _ av
 obtain⟨w',f,i,j⟩:=zl (P:=P) vs xs w o 0 e (by simpa using c) d;exact⟨w',f,h.ie a j i (by simp[aD]) (by simp[aD])⟩
theorem e3 {x y:Operand} {t sz:Nat} {z vs:List Value} {g o:Nat} {xs:List Value} {te:TypeId} {cs':List Chunk} (c:cD P t sz z) (d:ba l x=some (.pointer (some ⟨g,o,none⟩))) (e:ba l y=some (.agg vs.toArray))
 (f:bn cs (aD g xs te) (aD g (df xs o vs) te) cs') (j:vs.length=sz) (k:aI vs) (m:o+vs.length≤xs.length)
 (h:az P n ops Q rest l (af b S cs')):az P n ops Q (⟨none,.store t x y,ty,pos,a7,none⟩::rest) l (af b S cs):=by
 obtain⟨i,p,_,q⟩:=c.inf;refine uB λv w a r=>?_
 obtain⟨w',s,u⟩:=r.store (P:=P) m k f;refine⟨w',?_,h.at u⟩;simp[execOp,Instr.storeAt,a x _ d,a y _ e,Instr.sureAddr,storeVar,run_sizeOf p,q,j,Value.cells,s]
theorem DU {x y:Operand} {t:Nat} {z v:Value} {g o:Nat} {xs:List Value} {te:TypeId} {cs':List Chunk} (d:cL P t z) (e:ba l x=some (.pointer (some ⟨g,o,none⟩))) (f:ba l y=some v)
 (j:bn cs (aD g xs te) (aD g (xs.set o v) te) cs') (a:v.oneCell'=true) (k:o+1≤xs.length)
 (h:az P n ops Q rest l (af b S cs')):az P n ops Q (⟨none,.store t x y,ty,pos,a7,none⟩::rest) l (af b S cs):=by
 obtain⟨i,m,_,p⟩:=d.inf;refine uB λu w c q=>?_
 obtain⟨w',r,s⟩:=q.store (P:=P) (vs:=[v]) k (by simpa [aI] using a) j;refine⟨w',?_,h.at s⟩;simp[execOp,Instr.storeAt,c x _ e,c y _ f,Instr.sureAddr,storeVar,run_sizeOf m,p,wH a,r]
theorem zm {x:Operand} {t:TypeId} {z:Value} {g o:Nat} {xs:List Value} {te:TypeId} {v:Value} (a:cL P t z) (ak:Nat.blt d n=true) (c:ba l x=some (.pointer (some ⟨g,o,none⟩)))
 (e:Has cs (aD g xs te)) (f:xs[o]? = some v)
 (h:az P n ops Q rest ((d,v)::l) (af b S cs)):az P n ops Q (⟨some d,.load t x,ty,pos,a7,none⟩::rest) l (af b S cs):=
 a_ a ak c (λ_ i=>i.eP e f) h
theorem zn {x:Operand} {t sz:TypeId} {z:List Value} {g o:Nat} {xs vs:List Value} {te:TypeId} (c:cD P t sz z) (ak:Nat.blt d n=true) (e:ba l x=some (.pointer (some ⟨g,o,none⟩)))
 (f:Has cs (aD g xs te)) (i: (xs.drop o).take sz=vs) (k:vs.length=sz)
 (h:az P n ops Q rest ((d,.agg vs.toArray)::l) (af b S cs)):az P n ops Q (⟨some d,.load t x,ty,pos,a7,none⟩::rest) l (af b S cs):=
 cx c ak e k (λ_ m j u a=>by
  rw[Addr.add_lit];refine m.eP f ?_;rw[←i,iD] at a
  split at a
  simpa using a
  cases a) h
theorem af.zo {w:World} (h:af b S cs w) (e size:Nat):af b S (own e size (.slice none 0 0) 0 []::cs) w:=h.nj (by exact World.ownsRow_nil _ _ _ _) rfl
theorem qV {H:List Oper} (e size:Nat) (h:az P n ops Q H l (af b S (own e size (.slice none 0 0) 0 []::cs))):az P n ops Q H l (af b S cs):=
 gR h (Sub.refl _) (λ_ a=>a.zo e size)
theorem jZ {c:Code} (e size:Nat) (h:dc P n c Q l (af b S (own e size (.slice none 0 0) 0 []::cs))):dc P n c Q l (af b S cs):=
 cH h (Sub.refl _) (λ_ a=>a.zo e size)
theorem bn.has {cs cs':List Chunk} {c c':Chunk} (h:bn cs c c' cs'):Has cs c:=by
 induction h with
 | head=>exact .head
 | tail _ a=>exact .tail a
theorem aaC {x y:Operand} {t e sz s:Nat} {z:List Value} {v:Value} {m:Nat} {xs:List Value} {a:Addr} {k c:Nat} {news:List Value} {cs':Value→List Chunk} (r:c6 P t e sz s z) (ak:Nat.blt d n=true)
 (E:ba l x=some v) (F:ba l y=some (.slice (some a) k c)) (A: ∀f,bn cs (own e sz v m xs) (own e sz f (m+k) (xs++news)) (cs' f))
 (G:news.length=k*sz) (H: ∀w,af b S cs w→ ∀j u,news[j]? = some u→w.cell? (a.add j)=some u) (I:aI news) (J:m+k≤maxLen) (K: (m+k)*s≤140737488355328)
 (h: ∀f,(∀g,f.ownBlock=some g→v.ownBlock=some g∨(b.heap.size≤g∧ ∀k∈aB cs,k<g))→az P n ops Q rest ((d,f)::l) (af b S (cs' f))):
 az P n ops Q (⟨some d,.call ⟨.builtin .append,#[x,y],#[t,t]⟩,ty,pos,a7,none⟩::rest) l (af b S cs):=by
 obtain⟨i,fs,L,M,N,O,R⟩:=r.inf;refine hD ak λY w B p=>?_
 have T:=p.has (A v).has
 obtain⟨f,w',U,V,W,_,o⟩:=run_append_own_at (P:=P) w 0 t ty e i fs sz s r.fe L M O R (by rw[←lI,N,r.len]) r.pos v m xs T a k c news G (H w p) I J K (bP _);refine⟨f,w',?_,(h f ?_).at (p.ie (A f) (Ext.uz W) V ?_ ?_)⟩;simp[execOp,resolve,invoke,builtin,B x _ E,B y _ F,U]
 intro g C;rcases o with o | o
 exact .inl (o▸C);rw[C] at o
 simp only[dA] at o
 subst o;exact .inr ⟨p.ext.size,λk X=>p.lt X⟩;intro D q;show D∈v.ownBlock.toList∨_
 replace q:D∈f.ownBlock.toList:=q
 rcases o with o | o
 exact .inl (o▸q);rw[o] at q
 simp at q
 exact .inr aa;show f.ownBlock.toList.Nodup
 cases f.ownBlock <;> simp
theorem gx {x y:Operand} {t e sz s:Nat} {z:List Value} {v:Value} {m:Nat} {xs:List Value} {g:Nat} {k c:Nat} {te:TypeId} {news:List Value} {cs':Value→List Chunk} {A:List Chunk} (p:c6 P t e sz s z) (ak:Nat.blt d n=true)
 (G:ba l x=some v) (H:ba l y=some (.slice (some ⟨g,0,none⟩) k c)) (B:bw cs (aD g news te) A) (C: ∀a,bn A (own e sz v m xs) (own e sz a (m+k) (xs++news)) (cs' a))
 (I:news.length=k*sz) (J:aI news) (K:m+k≤maxLen) (L: (m+k)*s≤140737488355328)
 (h: ∀a,(∀g,a.ownBlock=some g→v.ownBlock=some g∨(b.heap.size≤g∧ ∀k∈aB cs,k<g))→az P n ops Q rest ((d,a)::l) (af b S (cs' a))):
 az P n ops Q (⟨some d,.call ⟨.builtin .append,#[x,y],#[t,t]⟩,ty,pos,a7,none⟩::rest) l (af b S cs):=by
 obtain⟨i,fs,M,N,O,R,T⟩:=p.inf;refine hD ak λZb w D q=>?_
 have E:=q.rem B
 have U:=E.has (C v).has
 have r: (aD g news te).pred w:=by
  obtain⟨l1,hl,V,_⟩:=B.split;exact q.all _ (by simp[V])
 obtain⟨a,w',W,X,Y,_,f⟩:=run_append_own_at (P:=P) w 0 t ty e i fs sz s p.fe M N R T (by rw[←lI,O,p.len]) p.pos v m xs U ⟨g,0,none⟩ k c news I
  (λj u Z=>by
   rw[Addr.add_lit,cell_of_row w g (0+j) news.toArray te (0,0) r];simpa using Z) J K L (bP _)
 refine⟨a,w',?_,(h a ?_).at (E.ie (C a) (Ext.uz Y) X ?_ ?_)⟩;simp[execOp,resolve,invoke,builtin,D x _ G,D y _ H,W]
 intro g r;rcases f with f | f
 exact .inl (f▸r);rw[r] at f
 simp only[dA] at f
 subst f;exact .inr ⟨q.ext.size,λk Za=>q.lt Za⟩;intro F o;show F∈v.ownBlock.toList∨_
 replace o:F∈a.ownBlock.toList:=o
 rcases f with f | f
 exact .inl (f▸o);rw[f] at o
 simp at o
 exact .inr aa;show a.ownBlock.toList.Nodup
 cases a.ownBlock <;> simp
class ad (P:Program) (f:FuncId):Prop where
 hC: ∃fn,P.funcs[f]? = some fn∧(fn.name == "runtime.NumGoroutine")=false∧fn.body.isNone=false
theorem zp {f:FuncId} (h:ad P f) (args:Array Value) (w:World): (callFunc f args).run P w= .ok (.enter f args) w:=by
 obtain⟨fn,a,b,c⟩:=h.hC;simp only[callFunc,Sem.run_bind,run_program,Result.andThen_ok,a,b,c,Bool.false_eq_true,if_false];rfl
section
variable {H:World→Prop} {ih:Operand} {args:List Operand} {db:Array TypeId} {f:FuncId} {vs:List Value}
theorem gT {first cap:Array Value} (g:ba l ih=some (.func (.func f) first cap)) (ak:Nat.blt d n=true) (i:ad P f) (j:cI l args=some vs)
 (h: ∀w,H w→Calls P f (first++vs.toArray++cap) w (λe w'=> ∃v,e= .returned v∧az P n ops Q rest ((d,v)::l) (λx=>x=w'))):
 az P n ops Q (⟨some d,.call ⟨.value ih,args.toArray,db⟩,ty,pos,a7,none⟩::rest) l H:=by
 intro w k a b;have c:mH l a.eval:=λx v m=>b.ba m
 unfold wpList;rw[aw (by simp[Region.wanted])];refine .inl ?_;have o: (execOp a.eval ⟨some d,.call ⟨.value ih,args.toArray,db⟩,ty,pos,a7,none⟩).run P w= .ok (.enter f (first++vs.toArray++cap)) w:=by
  simp[execOp,resolve,c ih _ g,Deferred.ofValue,invoke,c.list _ _ j,zp i]
 simp only[Oper.wp,o,Oper.upon_enter];refine (h w k).mono ?_;rintro e w' ⟨v,rfl,p⟩;exact p w' rfl _ (b.put (dV ak) v)
end
theorem ao {args:List Operand} {db:Array TypeId} {f:FuncId} {vs:List Value} {v:Value} (ak:Nat.blt d n=true) (c:ad P f) (g:cI l args=some vs)
 (i: ∀w,af b S cs w→Calls P f vs.toArray w (λe w'=>e= .returned v∧Ext [] w w'))
 (h:az P n ops Q rest ((d,v)::l) (af b S cs)):
 az P n ops Q (⟨some d,.call ⟨.value (.func f),args.toArray,db⟩,ty,pos,a7,none⟩::rest) l (af b S cs):=by
 refine gT rfl ak c g λw a=>?_
 have:=i w a
 simp only[iA,i8];refine this.mono ?_;rintro e w' ⟨rfl,j⟩;exact⟨v,rfl,h.at (a.keep j)⟩
theorem L8 {args:List Operand} {db:Array TypeId} {f:FuncId} {vs:List Value} (i:World→Value→World→Prop) (ak:Nat.blt d n=true) (j:ad P f) (m:cI l args=some vs)
 (o: ∀w,af b S cs w→Calls P f vs.toArray w (λe w'=> ∃v,e= .returned v∧Ext [] w w'∧i w v w'))
 (h: ∀w v c,af b S cs w→Ext [] w c→i w v c→Ext S b c→(∀k∈aB cs,k<w.heap.size)→az P n ops Q rest ((d,v)::l) (af c (aB cs) cs)):
 az P n ops Q (⟨some d,.call ⟨.value (.func f),args.toArray,db⟩,ty,pos,a7,none⟩::rest) l (af b S cs):=by
 refine gT rfl ak j m λw a=>?_
 have:=o w a
 simp only[iA,i8];refine this.mono ?_;rintro e w' ⟨v,rfl,g,ai⟩;exact⟨v,rfl,(h w v w' a g ai (a.ext.dW g) (λk p=>a.lt p)).at (a.keep g).oC⟩
end
end
end Go.Proofs.YtlgnfdodnhokjaaGreatDoor.Mq
