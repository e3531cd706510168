/- part 1 of the proof -/
import Derived.KernelRfl
import Derived.Tactics
import Derived.Below
import Derived.Maps.AppendAt
namespace Go.Proofs.YtkeokgcdnfjaaaaGreatDoor.Mq
open Go Go.RowKit
section
theorem aa {p:Prop} (h:p:=by omega):p:=h
theorem ab {p:Prop} (h:p:=by kernel_rfl):p:=h
theorem av {p:Prop} (h:p:=by simp):p:=h
theorem a1 {p:Prop} (h:p:=by decide):p:=h
theorem a7 {p:Prop} (h:p:=by rfl):p:=h
theorem bz {p:Prop} (h:p:=by assumption):p:=h
theorem dj {p:Prop} (h:p:=by trivial):p:=h
theorem iP:type_of% @Array.append_empty:=@Array.append_empty
theorem ir:type_of% @Array.empty_append:=@Array.empty_append
theorem jK:type_of% @Array.getD_eq_getD_getElem?:=@Array.getD_eq_getD_getElem?
theorem tS:type_of% @Array.getElem?_append_left:=@Array.getElem?_append_left
theorem qq:type_of% @Array.getElem?_eq_getElem:=@Array.getElem?_eq_getElem
theorem rH:type_of% @Array.getElem?_eq_none:=@Array.getElem?_eq_none
theorem lz:type_of% @Array.getElem?_eq_some_iff:=@Array.getElem?_eq_some_iff
theorem qs:type_of% @Array.getElem?_modify:=@Array.getElem?_modify
theorem tT:type_of% @Array.getElem?_setIfInBounds_ne:=@Array.getElem?_setIfInBounds_ne
theorem lA:type_of% @Array.length_toList:=@Array.length_toList
theorem tU:type_of% @Bool.and_eq_false_iff:=@Bool.and_eq_false_iff
theorem dY:type_of% @Bool.and_eq_true:=@Bool.and_eq_true
theorem qt:type_of% @Bool.and_true:=@Bool.and_true
theorem pj:type_of% @Bool.not_eq_true':=@Bool.not_eq_true'
theorem mh:type_of% @Bool.or_eq_true:=@Bool.or_eq_true
theorem mU:type_of% @Int.le_refl:=@Int.le_refl
theorem rI:type_of% @Int.natCast_nonneg:=@Int.natCast_nonneg
theorem gZ:type_of% @Int.toNat_natCast:=@Int.toNat_natCast
theorem iQ:type_of% @List.all_eq_true:=@List.all_eq_true
theorem e0:type_of% @List.append_assoc:=@List.append_assoc
theorem fJ:type_of% @List.append_nil:=@List.append_nil
theorem rJ:type_of% @List.cons.injEq:=@List.cons.injEq
theorem mi:type_of% @List.cons_append:=@List.cons_append
theorem mj:type_of% @List.drop_drop:=@List.drop_drop
theorem kR:type_of% @List.drop_eq_getElem_cons:=@List.drop_eq_getElem_cons
theorem n0:type_of% @List.drop_of_length_le:=@List.drop_of_length_le
theorem n1:type_of% @List.drop_zero:=@List.drop_zero
theorem iR:type_of% @List.eq_nil_of_length_eq_zero:=@List.eq_nil_of_length_eq_zero
theorem mV:type_of% @List.eq_of_mem_replicate:=@List.eq_of_mem_replicate
theorem ml:type_of% @List.ext_getElem?:=@List.ext_getElem?
theorem tV:type_of% @List.flatMap_append:=@List.flatMap_append
theorem n2:type_of% @List.flatMap_cons:=@List.flatMap_cons
theorem rK:type_of% @List.flatMap_nil:=@List.flatMap_nil
theorem rL:type_of% @List.foldl_cons:=@List.foldl_cons
theorem tW:type_of% @List.forall_mem_cons:=@List.forall_mem_cons
theorem fy:type_of% @List.getD_eq_getElem?_getD:=@List.getD_eq_getElem?_getD
theorem mW:type_of% @List.getElem?_append_left:=@List.getElem?_append_left
theorem kS:type_of% @List.getElem?_append_right:=@List.getElem?_append_right
theorem qu:type_of% @List.getElem?_cons_zero:=@List.getElem?_cons_zero
theorem mm:type_of% @List.getElem?_drop:=@List.getElem?_drop
theorem bE:type_of% @List.getElem?_eq_getElem:=@List.getElem?_eq_getElem
theorem kg:type_of% @List.getElem?_eq_none:=@List.getElem?_eq_none
theorem cU:type_of% @List.getElem?_eq_some_iff:=@List.getElem?_eq_some_iff
theorem eJ:type_of% @List.getElem?_map:=@List.getElem?_map
theorem qv:type_of% @List.getElem?_of_mem:=@List.getElem?_of_mem
theorem rM:type_of% @List.getElem?_range:=@List.getElem?_range
theorem rN:type_of% @List.getElem?_replicate:=@List.getElem?_replicate
theorem n3:type_of% @List.getElem?_set:=@List.getElem?_set
theorem jr:type_of% @List.getElem?_set_ne:=@List.getElem?_set_ne
theorem is:type_of% @List.getElem?_take:=@List.getElem?_take
theorem rO:type_of% @List.getElem_mem:=@List.getElem_mem
theorem v_:type_of% @List.getLast?_eq_some_getLast:=@List.getLast?_eq_some_getLast
theorem b0:type_of% @List.length_append:=@List.length_append
theorem eK:type_of% @List.length_cons:=@List.length_cons
theorem fz:type_of% @List.length_drop:=@List.length_drop
theorem cN:type_of% @List.length_map:=@List.length_map
theorem jL:type_of% @List.length_nil:=@List.length_nil
theorem tX:type_of% @List.length_pos_iff:=@List.length_pos_iff
theorem g_:type_of% @List.length_replicate:=@List.length_replicate
theorem fT:type_of% @List.length_set:=@List.length_set
theorem iS:type_of% @List.length_singleton:=@List.length_singleton
theorem dn:type_of% @List.length_take:=@List.length_take
theorem gb:type_of% @List.map_append:=@List.map_append
theorem tY:type_of% @List.map_congr_left:=@List.map_congr_left
theorem lB:type_of% @List.map_cons:=@List.map_cons
theorem n4:type_of% @List.map_map:=@List.map_map
theorem n5:type_of% @List.map_set:=@List.map_set
theorem cX:type_of% @List.mem_append:=@List.mem_append
theorem n7:type_of% @List.mem_append_left:=@List.mem_append_left
theorem eD:type_of% @List.mem_cons:=@List.mem_cons
theorem tZ:type_of% @List.mem_cons_of_mem:=@List.mem_cons_of_mem
theorem dF:type_of% @List.mem_map:=@List.mem_map
theorem c8:type_of% @List.mem_of_getElem?:=@List.mem_of_getElem?
theorem t_:type_of% @List.mem_of_getLast?:=@List.mem_of_getLast?
theorem lC:type_of% @List.mem_of_mem_drop:=@List.mem_of_mem_drop
theorem iu:type_of% @List.mem_of_mem_take:=@List.mem_of_mem_take
theorem rP:type_of% @List.mem_or_eq_of_mem_set:=@List.mem_or_eq_of_mem_set
theorem n8:type_of% @List.mem_range'_1:=@List.mem_range'_1
theorem ua:type_of% @List.mem_replicate:=@List.mem_replicate
theorem eL:type_of% @List.mem_singleton:=@List.mem_singleton
theorem qw:type_of% @List.nil_append:=@List.nil_append
theorem fK:type_of% @List.nodup_append:=@List.nodup_append
theorem qx:type_of% @List.pairwise_map:=@List.pairwise_map
theorem n9:type_of% @List.perm_append_comm:=@List.perm_append_comm
theorem n_:type_of% @List.perm_middle:=@List.perm_middle
theorem mn:type_of% @List.replicate_succ:=@List.replicate_succ
theorem ub:type_of% @List.reverse_append:=@List.reverse_append
theorem rQ:type_of% @List.set_append_right:=@List.set_append_right
theorem qy:type_of% @List.set_cons_succ:=@List.set_cons_succ
theorem mo:type_of% @List.set_cons_zero:=@List.set_cons_zero
theorem qz:type_of% @List.set_eq_take_append_cons_drop:=@List.set_eq_take_append_cons_drop
theorem rR:type_of% @List.singleton_append:=@List.singleton_append
theorem fU:type_of% @List.take_add_one:=@List.take_add_one
theorem iT:type_of% @List.take_append_drop:=@List.take_append_drop
theorem rS:type_of% @List.take_left':=@List.take_left'
theorem qA:type_of% @List.take_length:=@List.take_length
theorem eu:type_of% @List.take_of_length_le:=@List.take_of_length_le
theorem iU:type_of% @Nat.add_mul:=@Nat.add_mul
theorem uc:type_of% @Nat.add_sub_cancel:=@Nat.add_sub_cancel
theorem fV:type_of% @Nat.eq_of_beq_eq_true:=@Nat.eq_of_beq_eq_true
theorem gF:type_of% @Nat.eq_zero_or_pos:=@Nat.eq_zero_or_pos
theorem dT:type_of% @Nat.le_of_ble_eq_true:=@Nat.le_of_ble_eq_true
theorem cd:type_of% @Nat.le_refl:=@Nat.le_refl
theorem fp:type_of% @Nat.le_trans:=@Nat.le_trans
theorem qB:type_of% @Nat.lt_of_le_of_lt:=@Nat.lt_of_le_of_lt
theorem pk:type_of% @Nat.lt_of_lt_of_le:=@Nat.lt_of_lt_of_le
theorem e1:type_of% @Nat.lt_or_ge:=@Nat.lt_or_ge
theorem iv:type_of% @Nat.min_eq_left:=@Nat.min_eq_left
theorem iw:type_of% @Nat.mod_lt:=@Nat.mod_lt
theorem qC:type_of% @Nat.mul_comm:=@Nat.mul_comm
theorem kT:type_of% @Nat.mul_le_mul_right:=@Nat.mul_le_mul_right
theorem ud:type_of% @Nat.ne_of_beq_eq_false:=@Nat.ne_of_beq_eq_false
theorem oa:type_of% @Nat.or_lt_two_pow:=@Nat.or_lt_two_pow
theorem qD:type_of% @Nat.pow_le_pow_right:=@Nat.pow_le_pow_right
theorem qE:type_of% @Nat.pow_lt_pow_right:=@Nat.pow_lt_pow_right
theorem mX:type_of% @Nat.sub_self:=@Nat.sub_self
theorem kh:type_of% @Nat.sub_zero:=@Nat.sub_zero
theorem ob:type_of% @Nat.succ_mul:=@Nat.succ_mul
theorem ue:type_of% @Nat.testBit_lt_two_pow:=@Nat.testBit_lt_two_pow
theorem dG:type_of% @Nat.zero_add:=@Nat.zero_add
theorem bN:type_of% @Nat.zero_le:=@Nat.zero_le
theorem qF:type_of% @Nat.zero_mul:=@Nat.zero_mul
theorem lD:type_of% @Option.bind_eq_some_iff:=@Option.bind_eq_some_iff
theorem rT:type_of% @Option.getD_some:=@Option.getD_some
theorem oc:type_of% @Option.map_some:=@Option.map_some
theorem iV:type_of% @Option.mem_toList:=@Option.mem_toList
theorem od:type_of% @Option.some.inj:=@Option.some.inj
theorem dz:type_of% @Option.some.injEq:=@Option.some.injEq
theorem pm:type_of% @Option.toList_some:=@Option.toList_some
theorem qG:type_of% @UInt8.toNat_ofNat':=@UInt8.toNat_ofNat'
theorem aX:type_of% @congrArg:=@congrArg
theorem gG:type_of% @decide_eq_decide:=@decide_eq_decide
theorem cm:type_of% @decide_eq_false:=@decide_eq_false
theorem e2:type_of% @decide_eq_false_iff_not:=@decide_eq_false_iff_not
theorem b1:type_of% @decide_eq_true:=@decide_eq_true
theorem e3:type_of% @decide_eq_true_eq:=@decide_eq_true_eq
theorem ag:type_of% @if_neg:=@if_neg
theorem ax:type_of% @if_pos:=@if_pos
theorem a8:type_of% @of_decide_eq_false:=@of_decide_eq_false
theorem aY:type_of% @of_decide_eq_true:=@of_decide_eq_true
theorem aU:type_of% @trivial:=@trivial
abbrev Fr:=List (Nat × Value)
def look:Fr→Nat→Option Value
 | [],_=>none
 | (d,v)::l,t=>match Nat.beq d t with
  | true=>some v
  | false=>look l t
def a_ (l:Fr):Operand→Option Value
 | .tmp t=>look l t
 | .const v=>some v
 | .global g=>some (.pointer (some ⟨g,0,none⟩))
 | .func f=>some (.func (.func f) #[] #[])
structure hr (n:Nat) (l:Fr) (a:Act):Prop where
 size:a.tmps.size=n
 pn:a.defers=[]
 val: ∀t v,look l t=some v→a.tmps[t]? = some v
theorem hr.a_ {n:Nat} {l:Fr} {a:Act} (h:hr n l a) {x:Operand} {v:Value} (b:a_ l x=some v):a.eval x=v:=by
 cases x with
 | tmp t=>simp[Act.eval,jK,h.val t v b]
 | const c=>simpa [Mq.a_,Act.eval] using b
 | global g=>simpa [Mq.a_,Act.eval] using b
 | func f=>simpa [Mq.a_,Act.eval] using b
theorem hr.put {n:Nat} {l:Fr} {a:Act} (h:hr n l a) {d:Nat} (ak:d<n) (v:Value):hr n ((d,v)::l) (a.put (some d) v):=by
 refine⟨by simp[Act.put,h.size],h.pn,λt u b=>?_⟩;have e:=h.size
 simp only[look] at b
 cases c:Nat.beq d t with
 | true=>
  rw[c] at b
  have f:=fV c
  subst f;simp only[dz] at b
  subst b;simp[Act.put,e,ak]
 | false=>
  rw[c] at b
  have g:d≠t:=ud c
  simp only[Act.put];rw[tT g];exact h.val t u b
def Sub (l l':Fr):Prop:= ∀t v,look l' t=some v→look l t=some v
theorem Sub.nil {l:Fr}:Sub l []:=λt v h=>by simp[look] at h
theorem Sub.cons {l l':Fr} {t:Nat} {v:Value} (h:look l t=some v) (c:Sub l l'):Sub l ((t,v)::l'):=by
 intro u x a;simp only[look] at a
 cases b:Nat.beq t u with
 | true=>
  rw[b] at a
  have d:=fV b
  subst d;simp only[dz] at a
  subst a;exact h
 | false=>rw[b] at a;exact c u x a
theorem Sub.refl (l:Fr):Sub l l:=λ_ _ h=>h
theorem hr.sub {n:Nat} {l l':Fr} {a:Act} (h:hr n l a) (b:Sub l l'):hr n l' a:=⟨h.size,h.pn,λt v c=>h.val t v (b t v c)⟩
abbrev cl:=Exit→Fr→World→Prop
def rU (n:Nat) (Q:cl):Exit→Act→World→Prop:=λe a w=> ∃l,hr n l a∧Q e l w
def yZ (P:Program) (n:Nat) (c:Code) (Q:cl) (l:Fr) (w:World):Prop:= ∀a,hr n l a→c.wp P (rU n Q) a w
def dc (P:Program) (n:Nat) (c:Code) (Q:cl) (l:Fr) (H:World→Prop):Prop:= ∀w,H w→yZ P n c Q l w
def dP (Q:cl) (e:Exit) (l:Fr) (H:World→Prop):Prop:= ∀w,H w→Q e l w
def az (P:Program) (n:Nat) (ops:Array Oper) (Q:cl) (rest:List Oper) (l:Fr) (H:World→Prop):Prop:=
 ∀w,H w→ ∀a,hr n l a→wpList P ops (rU n Q) rest a w
def wa (a:Fr→World→Prop) (Q:cl):cl
 | .normal,l,w=>a l w
 | e,l,w=>Q e l w
def po (id:Nat) (Q:cl):cl
 | .exit a,l,w=>if a=id then Q .normal l w else Q (.exit a) l w
 | e,l,w=>Q e l w
def wb {ι:Type} (fr:ι→Fr) (fA:ι→World→Prop) (ok:ι→Prop) (mq:ι→Nat) (m:Nat) (Q:cl):cl
 | .normal,l,w=> ∃i,ok i∧mq i<m∧Sub l (fr i)∧fA i w
 | e,l,w=>Q e l w
def Fin (P:Program) (n:Nat) (fn:Func) (R:Ending→World→Prop):cl
 | .normal,l,w | .ret,l,w=> ∀a,hr n l a→ ∃v,(results fn a.tmps).run P w= .ok v w∧R (.returned v) w
 | _,_,_=>False
section
variable {P:Program} {n:Nat} {Q:cl} {l:Fr} {H:World→Prop}
theorem cG {c:Code} {l':Fr} {H':World→Prop} (h:dc P n c Q l' H') (b:Sub l l') (d: ∀w,H w→H' w):dc P n c Q l H:=
 λw e a f=>h w (d w e) a (f.sub b)
theorem kU {x y:Code} (h:dc P n x (wa (yZ P n y Q) Q) l H):dc P n (.seq x y) Q l H:=by
 intro w d a f;refine wp_seq (wp_mono (h w d a f) ?_);intro e _ _ ⟨l',b,c⟩;cases e with
 | normal=>exact c _ b
 | _=>exact⟨l',b,c⟩
theorem y0 (h:dP Q .normal l H):dc P n .skip Q l H:=λw a _ b=>wp_skip ⟨l,b,h w a⟩
theorem De {k:Nat} (h:dP Q .normal l H):dc P n (.label k) Q l H:=λw a _ b=>wp_label ⟨l,b,h w a⟩
theorem K3 {id:Nat} (h:dP Q (.exit id) l H):dc P n (.exit id) Q l H:=λw a _ b=>wp_exit ⟨l,b,h w a⟩
theorem K4 (h:dP Q .ret l H):dc P n .ret Q l H:=λw a _ b=>wp_ret ⟨l,b,h w a⟩
theorem K5 {id:Nat} {c:Code} (h:dc P n c (po id Q) l H):dc P n (.block id c) Q l H:=by
 intro w g a i;refine wp_block (wp_mono (h w g a i) ?_);intro e _ _ ⟨l',d,b⟩;cases e with
 | exit j=>
  simp only[po] at b
  simp only[Exit.inBlock];split
  rename_i f;rw[ax f] at b;exact⟨l',d,b⟩
  rename_i f;rw[ag f] at b;exact⟨l',d,b⟩
 | _=>exact⟨l',d,b⟩
theorem b2 {c:Operand} {x y:Code} {t:Bool} (e:a_ l c=some (.bool t)) (f:t=true→dc P n x Q l H) (g:t=false→dc P n y Q l H):
 dc P n (.cond c x y) Q l H:=
 λw d a b=>wp_cond_split (b.a_ e) (λh=>f h w d a b) (λh=>g h w d a b)
theorem b3 {c:Code} {ι:Type} (fr:ι→Fr) (fA:ι→World→Prop) (ok:ι→Prop) (mq:ι→Nat)
 (s: ∀w,H w→ ∃i,ok i∧Sub l (fr i)∧fA i w)
 (t: ∀i,ok i→dc P n c (wb fr fA ok mq (mq i) Q) (fr i) (fA i)):dc P n (.loop c) Q l H:=by
 intro w u a v b k cs;have y: ∀m i a w,mq i=m→ok i→hr n (fr i) a→fA i w→
  ∃e a' w',rU n Q e a' w'∧Arrives P (lone (b.at a (.code c:: .inLoop c::k)) cs w) b k cs e a' w':=by
  intro m;induction m using Nat.strongRecOn with
  | _ m z=>
   intro i a w A o B p;obtain⟨e,g,h,⟨l₁,j,d⟩,f⟩:=t i o w p a B b (.inLoop c::k) cs;cases e with
   | normal=>
    obtain⟨r,C,D,q,E⟩:=d;obtain⟨F,G,I,J,K⟩:=z (mq r) (A▸D) r g h rfl C (j.sub q) E;exact⟨F,G,I,J,.of_steps (Steps.trans f (.one step_inLoop)) K⟩
   | exit id=>exact⟨_,g,h,⟨l₁,j,d⟩,.pass (x:= .inLoop c) rfl (λ_ _=> .inl av) f⟩
   | goto l=>exact⟨_,g,h,⟨l₁,j,d⟩,.pass (x:= .inLoop c) rfl (λ_ _=> .inl av) f⟩
   | ret=>exact⟨_,g,h,⟨l₁,j,d⟩,.pass (x:= .inLoop c) rfl (λ_ _=> .inl av) f⟩
   | panic aF=>exact⟨_,g,h,⟨l₁,j,d⟩,.pass (x:= .inLoop c) rfl (λ_ _=> .inl av) f⟩
   | outgrown=>exact⟨_,g,h,⟨l₁,j,d⟩,.pass (x:= .inLoop c) rfl (λ_ _=> .inl av) f⟩
 obtain⟨i,o,q,p⟩:=s w u;obtain⟨e,a',w',d,f⟩:=y _ i a w rfl o (v.sub q) p;exact⟨e,a',w',d,.of_steps (.one step_loop) f⟩
theorem mY {id:Nat} {ops:List Oper} (h:az P n ops.toArray Q ops l H):dc P n (.region id ops.toArray false) Q l H:=
 λw b a c=>wp_region_lit (h w b a c)
theorem mr {y:Code} (h:dc P n y Q l H):dP (wa (yZ P n y Q) Q) .normal l H:=h
theorem rV {a:Fr→World→Prop} {i:Nat} (h:dP Q (.exit i) l H):dP (wa a Q) (.exit i) l H:=h
theorem wc {a:Fr→World→Prop} (h:dP Q .ret l H):dP (wa a Q) .ret l H:=h
theorem K6 {i:Nat} (h:dP Q .normal l H):dP (po i Q) .normal l H:=h
theorem K7 {i:Nat} (h:dP Q .ret l H):dP (po i Q) .ret l H:=h
theorem rW {i:Nat} (h:dP Q .normal l H):dP (po i Q) (.exit i) l H:=λw a=>by simp only[po,if_true];exact h w a
theorem rX {i j:Nat} (a: (Nat.beq i j)=false) (h:dP Q (.exit j) l H):dP (po i Q) (.exit j) l H:=λw b=>by
 have:j≠i:=λe=>ud a e.symm
 simp only[po,ag this];exact h w b
section
variable {ι:Type} {fr:ι→Fr} {fA:ι→World→Prop} {ok:ι→Prop} {mq:ι→Nat} {m:Nat}
theorem rY {i:Nat} (h:dP Q (.exit i) l H):dP (wb fr fA ok mq m Q) (.exit i) l H:=h
theorem K8 (h:dP Q .ret l H):dP (wb fr fA ok mq m Q) .ret l H:=h
theorem bg (i:ι) (a:ok i) (b:mq i<m) (c:Sub l (fr i)) (d: ∀w,H w→fA i w):dP (wb fr fA ok mq m Q) .normal l H:=
 λw e=>⟨i,a,b,c,d w e⟩
end
theorem K9 {fn:Func} {R:Ending→World→Prop} {t:Nat} {v:Value} (b:fn.results= #[.tmp t]) (c:look l t=some v) (h: ∀w,H w→R (.returned v) w):dP (Fin P n fn R) .ret l H:=by
 intro w d a e;refine⟨_,results_tmp b _ _ _,?_⟩;rw[jK,e.val t v c];exact h w d
theorem Df {fn:Func} {R:Ending→World→Prop} (b:fn.results= #[]) (h: ∀w,H w→R (.returned (.tuple #[])) w):dP (Fin P n fn R) .ret l H:=by
 intro w c a d;exact⟨_,results_none b _ _ _,h w c⟩
theorem y1 {fn:Func} {R:Ending→World→Prop} (a:fn.results= #[]) (h: ∀w,H w→R (.returned (.tuple #[])) w):dP (Fin P n fn R) .normal l H:=
 Df (P:=P) a h
theorem K_ {fn:Func} {R:Ending→World→Prop} {t u:Nat} {v x:Value} (c:fn.results= #[.tmp t,.tmp u]) (d:look l t=some v) (e:look l u=some x) (h: ∀w,H w→R (.returned (.tuple #[v,x])) w):dP (Fin P n fn R) .ret l H:=by
 intro w f a b;refine⟨_,results_tmp2 c _ _ _,?_⟩;rw[jK,jK,b.val t v d,b.val u x e];exact h w f
theorem La {fn:Func} {R:Ending→World→Prop} {t u s:Nat} {v x y:Value} (c:fn.results= #[.tmp t,.tmp u,.tmp s]) (d:look l t=some v) (e:look l u=some x) (f:look l s=some y)
 (h: ∀w,H w→R (.returned (.tuple #[v,x,y])) w):dP (Fin P n fn R) .ret l H:=by
 intro w g a b;refine⟨.tuple #[v,x,y],?_,h w g⟩;simp[results,c,jK,b.val t v d,b.val u x e,b.val s y f]
theorem rZ {ops:Array Oper} (h:dP Q .normal l H):az P n ops Q [] l H:=λw a _ b=>wpList_nil ⟨l,b,h w a⟩
theorem ha {ops:Array Oper} {rest:List Oper} {l':Fr} {H':World→Prop} (h:az P n ops Q rest l' H') (b:Sub l l') (c: ∀w,H w→H' w):az P n ops Q rest l H:=
 λw d a e=>h w (c w d) a (e.sub b)
end
def oe:List Value→Nat→Fr
 | [],_=>[]
 | v::vs,k=>(k,v)::oe vs (k+1)
theorem Lb (vs:List Value): ∀(k t:Nat) (v:Value),look (oe vs k) t=some v→k≤t∧vs[t - k]? = some v:=by
 induction vs with
 | nil=>intro k t v h;simp[oe,look] at h
 | cons x xs b=>
  intro k t v h;simp only[oe,look] at h
  cases a:Nat.beq k t with
  | true=>
   rw[a] at h
   have c:=fV a
   subst c;simpa using h
  | false=>
   rw[a] at h
   have e:=ud a
   obtain⟨f,d⟩:=b (k+1) t v h;refine⟨aa,?_⟩;have:t - k=(t - (k+1))+1:=by omega
   rw[this,List.getElem?_cons_succ];exact d
theorem calls {P:Program} {f:FuncId} {fn:Func} {c:Code} {vs:List Value} {w:World} {R:Ending→World→Prop}
 (n:Nat) (k:P.funcs[f]? = some fn) (m:fn.body=some c) (o:fn.ntmps=n) (p:Nat.ble vs.length n=true)
 (h:dc P n c (Fin P n fn R) (oe vs 0) (λx=>x=w)):Calls P f vs.toArray w R:=by
 subst o;refine calls_of_wp k m (wp_mono (h w rfl _ ?_) ?_);have r:=dT p
 refine⟨by simp;omega,rfl,λt v d=>?_⟩;obtain⟨_,d⟩:=Lb vs 0 t v d;have q:t<vs.length:=by
  have:=(cU.1 (by simpa using d)).1
  exact this
 simp only[kh] at d
 rw[tS (by simpa using q)];simpa using d
 intro e a w ⟨l,g,b⟩;cases e with
 | normal=>obtain⟨v,i,j⟩:=b a g;exact⟨g.pn,v,i,j⟩
 | ret=>obtain⟨v,i,j⟩:=b a g;exact⟨g.pn,v,i,j⟩
 | exit _=>exact b.elim
 | goto _=>exact b.elim
 | panic _=>exact b.elim
 | outgrown=>exact b.elim
end
structure Ext (S:List Nat) (w w':World):Prop where
 os:w'.os=w.os
 tape:w'.tape=w.tape
 output:w'.output=w.output
 size:w.heap.size≤w'.heap.size
 block: ∀b,b<w.heap.size→b∉S→w'.heap[b]? = w.heap[b]?
theorem Ext.refl (S:List Nat) (w:World):Ext S w w:=⟨rfl,rfl,rfl,cd _,λ_ _ _=>rfl⟩
theorem Ext.trans {S e:List Nat} {a b c:World} (h:Ext S a b) (k:Ext e b c) (g: ∀x∈e,x<a.heap.size→x∈S):Ext S a c:=
 ⟨k.os.trans h.os,k.tape.trans h.tape,k.output.trans h.output,fp h.size k.size,λx d f=>
  (k.block x (pk d h.size) λi=>f (g x i d)).trans (h.block x d f)⟩
theorem Ext.dU {S:List Nat} {a b c:World} (h:Ext S a b) (k:Ext [] b c):Ext S a c:=h.trans k av
theorem Ext.mono {S c:List Nat} {a b:World} (h:Ext S a b) (e: ∀x∈S,x<a.heap.size→x∈c):Ext c a b:=
 ⟨h.os,h.tape,h.output,h.size,λx d f=>h.block x d λg=>f (e x g d)⟩
theorem Ext.cell {S:List Nat} {w w':World} (h:Ext S w w') {p:Addr} (ai:p.block<w.heap.size) (a:p.block∉S):w'.cell? p=w.cell? p:=
 World.cell?_of_block (w:=w) (h.block p.block ai a)
theorem Ext.alloc (w:World) (o:Obj) (S:List Nat):Ext S w (w.alloc o):=⟨rfl,rfl,rfl,by simp,λk a _=>Below.heap_alloc _ _ _ a⟩
theorem Ext.setCell (w:World) (p:Addr) (u:Value):Ext [p.block] w (w.setCell p u):=
 ⟨rfl,rfl,rfl,by simp,λk _ a=>Below.heap_setCell _ _ _ _ (by simpa using a)⟩
theorem Ext.r0 {w w':World} (h:Below w.heap.size w w'):Ext [] w w':=⟨h.os,h.tape,h.output,h.size,λk a _=>h.block k a⟩
theorem Ext.uf {w w':World} {row:Option Nat} (h:w.grownBy w' row):Ext row.toList w w':=
 ⟨h.os,h.tape,h.output,h.size,λk a b=>h.block k a (by cases row <;> simp_all)⟩
structure Chunk where
 ce:List Nat
 pred:World→Prop
 low: ∀w,pred w→ ∀b∈ce,b<w.heap.size
 loc: ∀w w':World,(∀b∈ce,w'.heap[b]? = w.heap[b]?)→pred w→pred w'
def aB (cs:List Chunk):List Nat:=cs.flatMap (·.ce)
theorem ff (c:Chunk) (cs:List Chunk):aB (c::cs)=c.ce++aB cs:=rfl
structure af (b:World) (S:List Nat) (cs:List Chunk) (w:World):Prop where
 ext:Ext S b w
 nodup: (aB cs).Nodup
 all: ∀c∈cs,c.pred w
 ee: ∀k∈aB cs,k<b.heap.size→k∈S
theorem e4 {cs:List Chunk} {k:Nat}:k∈aB cs↔ ∃c∈cs,k∈c.ce:=by simp[aB]
theorem af.lt {b:World} {S:List Nat} {cs:List Chunk} {w:World} (h:af b S cs w) {k:Nat} (a:k∈aB cs):k<w.heap.size:=by
 obtain⟨c,d,e⟩:=e4.1 a;exact c.low w (h.all c d) k e
theorem af.start (w:World):af w [] [] w:=⟨Ext.refl _ _,by simp[aB],by simp,by simp[aB]⟩
theorem af.Lc (b w:World) (h:w=b):af b [] [] w:=h▸af.start b
theorem af.og {b:World} {S:List Nat} {cs:List Chunk} {w:World} (h:af b S cs w):af w (aB cs) cs w:=
 ⟨Ext.refl _ _,h.nodup,h.all,λ_ a _=>a⟩
theorem af.y2 {b a:World} {S ug:List Nat} {cs:List Chunk} {w:World} (h:af a ug cs w) (c:Ext S b a) (d: ∀k∈ug,k<b.heap.size→k∈S):af b S cs w:=
 ⟨c.trans h.ext d,h.nodup,h.all,λk f e=>d k (h.ee k f (pk e c.size)) e⟩
theorem af.keep {b:World} {S:List Nat} {cs:List Chunk} {w w':World} (h:af b S cs w) (a:Ext [] w w'):af b S cs w':=
 ⟨h.ext.dU a,h.nodup,λc d=>c.loc w w' (λk e=>a.block k (c.low w (h.all c d) k e) av) (h.all c d),h.ee⟩
theorem af.add {b:World} {S:List Nat} {cs:List Chunk} {w w':World} (h:af b S cs w) (i:Ext [] w w') {c:Chunk} (ai:c.pred w') (f: ∀k∈c.ce,w.heap.size≤k) (j:c.ce.Nodup):af b S (c::cs) w':=by
 have g:=h.keep i
 refine⟨g.ext,?_,?_,?_⟩;rw[ff,fK];refine⟨j,h.nodup,λx l y m e=>?_⟩;have n:=f x l
 have o:=h.lt m
 omega
 intro d ak;rcases eD.1 ak with rfl | ak
 exact ai;exact g.all d ak;intro k a p;rw[ff,cX] at a
 rcases a with a | a
 have n:=f k a
 have o:=h.ext.size
 omega
 exact h.ee k a p
theorem af.mZ {b:World} {S:List Nat} {cs:List Chunk} {w:World} (h:af b S cs w) {c:Chunk} (ai:c.pred w) (a:c.ce=[]):af b S (c::cs) w:=
 h.add (Ext.refl _ _) ai (by simp[a]) (by simp[a])
inductive bn:List Chunk→Chunk→Chunk→List Chunk→Prop
 | head {c c':Chunk} {cs:List Chunk}:bn (c::cs) c c' (c'::cs)
 | tail {c c' x:Chunk} {cs cs':List Chunk}:bn cs c c' cs'→bn (x::cs) c c' (x::cs')
theorem bn.split {cs cs':List Chunk} {c c':Chunk} (h:bn cs c c' cs'): ∃l r,cs=l++c::r∧cs'=l++c'::r:=by
 induction h with
 | head=>exact⟨[],_,rfl,rfl⟩
 | @tail c c' x cs cs' _ a=>obtain⟨l,r,rfl,rfl⟩:=a;exact⟨x::l,r,rfl,rfl⟩
inductive Has:List Chunk→Chunk→Prop
 | head {c:Chunk} {cs:List Chunk}:Has (c::cs) c
 | tail {c x:Chunk} {cs:List Chunk}:Has cs c→Has (x::cs) c
theorem Has.mem {cs:List Chunk} {c:Chunk} (h:Has cs c):c∈cs:=by
 induction h with
 | head=>simp
 | tail _ a=>exact tZ _ a
inductive bv:List Chunk→Chunk→List Chunk→Prop
 | head {c:Chunk} {cs:List Chunk}:bv (c::cs) c cs
 | tail {c x:Chunk} {cs cs':List Chunk}:bv cs c cs'→bv (x::cs) c (x::cs')
theorem bv.split {cs cs':List Chunk} {c:Chunk} (h:bv cs c cs'): ∃l r,cs=l++c::r∧cs'=l++r:=by
 induction h with
 | head=>exact⟨[],_,rfl,rfl⟩
 | @tail c x cs cs' _ a=>obtain⟨l,r,rfl,rfl⟩:=a;exact⟨x::l,r,rfl,rfl⟩
theorem ix (l r:List Chunk):aB (l++r)=aB l++aB r:=by simp[aB]
theorem af.has {b:World} {S:List Nat} {cs:List Chunk} {w:World} (h:af b S cs w) {c:Chunk} (a:Has cs c):c.pred w:=h.all c a.mem
theorem af.rem {b:World} {S:List Nat} {cs cs':List Chunk} {w:World} (h:af b S cs w) {c:Chunk} (e:bv cs c cs'):af b S cs' w:=by
 obtain⟨l,r,rfl,rfl⟩:=e.split;refine⟨h.ext,?_,λd ak=>h.all d (by rcases cX.1 ak with ak | ak <;> simp[ak]),λk a=>h.ee k (by
  rw[ix,cX] at a
  rcases a with a | a <;> simp[ix,ff,a])⟩
 have:=h.nodup
 rw[ix,ff] at this
 rw[ix];exact this.sublist av
theorem af.hV {b:World} {S:List Nat} {cs cs':List Chunk} {w w':World} (h:af b S cs w) {c c':Chunk} (s:bn cs c c' cs') (m:Ext c.ce w w') (ai:c'.pred w')
 (n: ∀k∈c'.ce,k∈c.ce∨w.heap.size≤k) (t:c'.ce.Nodup):af b S cs' w':=by
 obtain⟨l,r,rfl,rfl⟩:=s.split;have o:=h.nodup
 rw[ix,ff,fK,fK] at o
 obtain⟨u,⟨D,v,z⟩,p⟩:=o;have g: ∀d,d∈l∨d∈r→ ∀k∈d.ce,k<w.heap.size∧k∉c.ce:=by
  intro d ak k a;refine⟨d.low w (h.all d (by rcases ak with ak | ak <;> simp[ak])) k a,λq=>?_⟩;rcases ak with ak | ak
  exact p k (e4.2 ⟨d,ak,a⟩) k (by simp[q]) rfl;exact z k q k (e4.2 ⟨d,ak,a⟩) rfl
 refine⟨h.ext.trans m (λx i j=>h.ee x (by simp[ix,ff,i]) j),?_,?_,?_⟩;rw[ix,ff,fK,fK];refine⟨u,⟨t,v,?_⟩,?_⟩;rintro x i y f rfl;obtain⟨d,ak,A⟩:=e4.1 f;have:=g d (.inr ak) x A
 rcases n x i with e | e
 exact this.2 e;omega
 rintro x i y f rfl;obtain⟨d,ak,B⟩:=e4.1 i;have C:=g d (.inl ak) x B
 rcases cX.1 f with f | f
 rcases n x f with e | e
 exact C.2 e;omega
 exact p x i x (by simp[f]) rfl;intro d ak;simp only[cX,eD] at ak
 rcases ak with ak | rfl | ak
 exact d.loc w w' (λk a=>m.block k (g d (.inl ak) k a).1 (g d (.inl ak) k a).2) (h.all d (by simp[ak]));exact ai;exact d.loc w w' (λk a=>m.block k (g d (.inr ak) k a).1 (g d (.inr ak) k a).2) (h.all d (by simp[ak]));intro k a j;rw[ix,ff,cX,cX] at a
 rcases a with a | a | a
 exact h.ee k (by simp[ix,ff,a]) j;rcases n k a with e | e
 exact h.ee k (by simp[ix,ff,e]) j;have:=h.ext.size
 omega
 exact h.ee k (by simp[ix,ff,a]) j
def aD (g:Nat) (xs:List Value) (t:TypeId):Chunk where
 ce:=[g]
 pred w:=w.heap[g]? = some (.cells xs.toArray t (0,0))
 low w h k a:=by
  simp only[eL] at a
  subst a
  exact (lz.1 h).1
 loc w w' h ai:=by rw[h g av];exact ai
def own (e:TypeId) (size:Nat) (v:Value) (n:Nat) (xs:List Value):Chunk where
 ce:=v.ownBlock.toList
 pred w:=w.ownsRow 0 e size v n xs
 low w h k a:=(h.lt k (by simpa using a)).2
 loc w w' h ai:=by
  refine⟨ai.1,?_⟩
  rcases ai.2 with b | ⟨g,cap,am,rfl,c,d,rest⟩
  exact .inl b
  exact .inr ⟨g,cap,am,rfl,c,by rw[h g (by simp[Value.ownBlock])];exact d,rest⟩
theorem af.eM {b:World} {S:List Nat} {cs:List Chunk} {w:World} (h:af b S cs w) {g:Nat} {xs:List Value} {t:TypeId} (a:Has cs (aD g xs t)) {o:Nat} {v:Value} (c:xs[o]? = some v):
 w.cell? ⟨g,o,none⟩=some v:=by
 have d:=h.has a
 rw[cell_of_row w g o xs.toArray t (0,0) d];simpa using c
theorem af.ct {b:World} {S:List Nat} {cs:List Chunk} {w:World} (h:af b S cs w) {p:Addr} {v:Value} (a:b.cell? p=some v) (c:p.block∉S):w.cell? p=some v:=by
 rw[h.ext.cell (World.block_lt_of_cell? _ _ a) c];exact a
end Go.Proofs.YtkeokgcdnfjaaaaGreatDoor.Mq
