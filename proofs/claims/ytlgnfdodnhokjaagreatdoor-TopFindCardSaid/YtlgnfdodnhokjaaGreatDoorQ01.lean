/- part 1 of the proof -/
import Derived.KernelRfl
import Derived.Tactics
import Derived.Below
import Derived.Maps.AppendAt
namespace Go.Proofs.YtlgnfdodnhokjaaGreatDoor.Mq
open Go Go.RowKit
section
theorem aa {p:Prop} (h:p:=by omega):p:=h
theorem ab {p:Prop} (h:p:=by kernel_rfl):p:=h
theorem av {p:Prop} (h:p:=by simp):p:=h
theorem aZ {p:Prop} (h:p:=by decide):p:=h
theorem bc {p:Prop} (h:p:=by rfl):p:=h
theorem bv {p:Prop} (h:p:=by assumption):p:=h
theorem dp {p:Prop} (h:p:=by trivial):p:=h
theorem i8:type_of% @Array.append_empty:=@Array.append_empty
theorem iA:type_of% @Array.empty_append:=@Array.empty_append
theorem jW:type_of% @Array.getD_eq_getD_getElem?:=@Array.getD_eq_getD_getElem?
theorem uk:type_of% @Array.getElem?_append_left:=@Array.getElem?_append_left
theorem qF:type_of% @Array.getElem?_eq_getElem:=@Array.getElem?_eq_getElem
theorem r2:type_of% @Array.getElem?_eq_none:=@Array.getElem?_eq_none
theorem lH:type_of% @Array.getElem?_eq_some_iff:=@Array.getElem?_eq_some_iff
theorem qG:type_of% @Array.getElem?_modify:=@Array.getElem?_modify
theorem ul:type_of% @Array.getElem?_setIfInBounds_ne:=@Array.getElem?_setIfInBounds_ne
theorem lI:type_of% @Array.length_toList:=@Array.length_toList
theorem um:type_of% @Bool.and_eq_false_iff:=@Bool.and_eq_false_iff
theorem d4:type_of% @Bool.and_eq_true:=@Bool.and_eq_true
theorem qH:type_of% @Bool.and_true:=@Bool.and_true
theorem pz:type_of% @Bool.not_eq_true':=@Bool.not_eq_true'
theorem mx:type_of% @Bool.or_eq_true:=@Bool.or_eq_true
theorem iB:type_of% @Int.le_refl:=@Int.le_refl
theorem r3:type_of% @Int.natCast_nonneg:=@Int.natCast_nonneg
theorem fV:type_of% @Int.toNat_natCast:=@Int.toNat_natCast
theorem i_:type_of% @List.all_eq_true:=@List.all_eq_true
theorem ea:type_of% @List.append_assoc:=@List.append_assoc
theorem eu:type_of% @List.append_nil:=@List.append_nil
theorem r4:type_of% @List.cons.injEq:=@List.cons.injEq
theorem my:type_of% @List.cons_append:=@List.cons_append
theorem lJ:type_of% @List.drop_drop:=@List.drop_drop
theorem lK:type_of% @List.drop_eq_getElem_cons:=@List.drop_eq_getElem_cons
theorem ol:type_of% @List.drop_of_length_le:=@List.drop_of_length_le
theorem nf:type_of% @List.drop_zero:=@List.drop_zero
theorem iC:type_of% @List.eq_nil_of_length_eq_zero:=@List.eq_nil_of_length_eq_zero
theorem ng:type_of% @List.eq_of_mem_replicate:=@List.eq_of_mem_replicate
theorem mz:type_of% @List.ext_getElem?:=@List.ext_getElem?
theorem un:type_of% @List.flatMap_append:=@List.flatMap_append
theorem jX:type_of% @List.flatMap_cons:=@List.flatMap_cons
theorem r5:type_of% @List.flatMap_nil:=@List.flatMap_nil
theorem r6:type_of% @List.foldl_cons:=@List.foldl_cons
theorem qI:type_of% @List.forall_mem_cons:=@List.forall_mem_cons
theorem fI:type_of% @List.getD_eq_getElem?_getD:=@List.getD_eq_getElem?_getD
theorem mA:type_of% @List.getElem?_append_left:=@List.getElem?_append_left
theorem kp:type_of% @List.getElem?_append_right:=@List.getElem?_append_right
theorem qJ:type_of% @List.getElem?_cons_zero:=@List.getElem?_cons_zero
theorem mB:type_of% @List.getElem?_drop:=@List.getElem?_drop
theorem bE:type_of% @List.getElem?_eq_getElem:=@List.getElem?_eq_getElem
theorem kq:type_of% @List.getElem?_eq_none:=@List.getElem?_eq_none
theorem cK:type_of% @List.getElem?_eq_some_iff:=@List.getElem?_eq_some_iff
theorem eD:type_of% @List.getElem?_map:=@List.getElem?_map
theorem qK:type_of% @List.getElem?_of_mem:=@List.getElem?_of_mem
theorem r7:type_of% @List.getElem?_range:=@List.getElem?_range
theorem r8:type_of% @List.getElem?_replicate:=@List.getElem?_replicate
theorem om:type_of% @List.getElem?_set:=@List.getElem?_set
theorem jA:type_of% @List.getElem?_set_ne:=@List.getElem?_set_ne
theorem iD:type_of% @List.getElem?_take:=@List.getElem?_take
theorem r9:type_of% @List.getElem_mem:=@List.getElem_mem
theorem wC:type_of% @List.getLast?_eq_some_getLast:=@List.getLast?_eq_some_getLast
theorem b6:type_of% @List.length_append:=@List.length_append
theorem eO:type_of% @List.length_cons:=@List.length_cons
theorem fJ:type_of% @List.length_drop:=@List.length_drop
theorem cB:type_of% @List.length_map:=@List.length_map
theorem lL:type_of% @List.length_nil:=@List.length_nil
theorem uo:type_of% @List.length_pos_iff:=@List.length_pos_iff
theorem hj:type_of% @List.length_replicate:=@List.length_replicate
theorem gc:type_of% @List.length_set:=@List.length_set
theorem jY:type_of% @List.length_singleton:=@List.length_singleton
theorem dl:type_of% @List.length_take:=@List.length_take
theorem fQ:type_of% @List.map_append:=@List.map_append
theorem uq:type_of% @List.map_congr_left:=@List.map_congr_left
theorem lM:type_of% @List.map_cons:=@List.map_cons
theorem mC:type_of% @List.map_map:=@List.map_map
theorem oo:type_of% @List.map_set:=@List.map_set
theorem cZ:type_of% @List.mem_append:=@List.mem_append
theorem oq:type_of% @List.mem_append_left:=@List.mem_append_left
theorem e1:type_of% @List.mem_cons:=@List.mem_cons
theorem ur:type_of% @List.mem_cons_of_mem:=@List.mem_cons_of_mem
theorem dH:type_of% @List.mem_map:=@List.mem_map
theorem da:type_of% @List.mem_of_getElem?:=@List.mem_of_getElem?
theorem ut:type_of% @List.mem_of_getLast?:=@List.mem_of_getLast?
theorem lN:type_of% @List.mem_of_mem_drop:=@List.mem_of_mem_drop
theorem iE:type_of% @List.mem_of_mem_take:=@List.mem_of_mem_take
theorem r_:type_of% @List.mem_or_eq_of_mem_set:=@List.mem_or_eq_of_mem_set
theorem ot:type_of% @List.mem_range'_1:=@List.mem_range'_1
theorem uu:type_of% @List.mem_replicate:=@List.mem_replicate
theorem eb:type_of% @List.mem_singleton:=@List.mem_singleton
theorem lO:type_of% @List.nil_append:=@List.nil_append
theorem fW:type_of% @List.nodup_append:=@List.nodup_append
theorem qL:type_of% @List.pairwise_map:=@List.pairwise_map
theorem ou:type_of% @List.perm_append_comm:=@List.perm_append_comm
theorem ov:type_of% @List.perm_middle:=@List.perm_middle
theorem mD:type_of% @List.replicate_succ:=@List.replicate_succ
theorem uv:type_of% @List.reverse_append:=@List.reverse_append
theorem sa:type_of% @List.set_append_right:=@List.set_append_right
theorem qM:type_of% @List.set_cons_succ:=@List.set_cons_succ
theorem mE:type_of% @List.set_cons_zero:=@List.set_cons_zero
theorem qN:type_of% @List.set_eq_take_append_cons_drop:=@List.set_eq_take_append_cons_drop
theorem sb:type_of% @List.singleton_append:=@List.singleton_append
theorem fR:type_of% @List.take_add_one:=@List.take_add_one
theorem iF:type_of% @List.take_append_drop:=@List.take_append_drop
theorem sc:type_of% @List.take_left':=@List.take_left'
theorem ow:type_of% @List.take_length:=@List.take_length
theorem ev:type_of% @List.take_of_length_le:=@List.take_of_length_le
theorem qO:type_of% @Nat.add_assoc:=@Nat.add_assoc
theorem ja:type_of% @Nat.add_mul:=@Nat.add_mul
theorem uw:type_of% @Nat.add_sub_cancel:=@Nat.add_sub_cancel
theorem gd:type_of% @Nat.eq_of_beq_eq_true:=@Nat.eq_of_beq_eq_true
theorem gw:type_of% @Nat.eq_zero_or_pos:=@Nat.eq_zero_or_pos
theorem dV:type_of% @Nat.le_of_ble_eq_true:=@Nat.le_of_ble_eq_true
theorem bW:type_of% @Nat.le_refl:=@Nat.le_refl
theorem fp:type_of% @Nat.le_trans:=@Nat.le_trans
theorem qP:type_of% @Nat.lt_of_le_of_lt:=@Nat.lt_of_le_of_lt
theorem pA:type_of% @Nat.lt_of_lt_of_le:=@Nat.lt_of_lt_of_le
theorem ej:type_of% @Nat.lt_or_ge:=@Nat.lt_or_ge
theorem iG:type_of% @Nat.min_eq_left:=@Nat.min_eq_left
theorem iH:type_of% @Nat.mod_lt:=@Nat.mod_lt
theorem qQ:type_of% @Nat.mul_comm:=@Nat.mul_comm
theorem k1:type_of% @Nat.mul_le_mul_right:=@Nat.mul_le_mul_right
theorem ux:type_of% @Nat.ne_of_beq_eq_false:=@Nat.ne_of_beq_eq_false
theorem ox:type_of% @Nat.or_lt_two_pow:=@Nat.or_lt_two_pow
theorem qR:type_of% @Nat.pow_le_pow_right:=@Nat.pow_le_pow_right
theorem qS:type_of% @Nat.pow_lt_pow_right:=@Nat.pow_lt_pow_right
theorem nh:type_of% @Nat.sub_self:=@Nat.sub_self
theorem kr:type_of% @Nat.sub_zero:=@Nat.sub_zero
theorem oy:type_of% @Nat.succ_mul:=@Nat.succ_mul
theorem uy:type_of% @Nat.testBit_lt_two_pow:=@Nat.testBit_lt_two_pow
theorem dE:type_of% @Nat.zero_add:=@Nat.zero_add
theorem bP:type_of% @Nat.zero_le:=@Nat.zero_le
theorem qT:type_of% @Nat.zero_mul:=@Nat.zero_mul
theorem lP:type_of% @Option.bind_eq_some_iff:=@Option.bind_eq_some_iff
theorem sd:type_of% @Option.getD_some:=@Option.getD_some
theorem oz:type_of% @Option.map_some:=@Option.map_some
theorem jb:type_of% @Option.mem_toList:=@Option.mem_toList
theorem oA:type_of% @Option.some.inj:=@Option.some.inj
theorem dA:type_of% @Option.some.injEq:=@Option.some.injEq
theorem pB:type_of% @Option.toList_some:=@Option.toList_some
theorem qU:type_of% @UInt8.toNat_ofNat':=@UInt8.toNat_ofNat'
theorem aU:type_of% @congrArg:=@congrArg
theorem gQ:type_of% @decide_eq_decide:=@decide_eq_decide
theorem cg:type_of% @decide_eq_false:=@decide_eq_false
theorem e2:type_of% @decide_eq_false_iff_not:=@decide_eq_false_iff_not
theorem bX:type_of% @decide_eq_true:=@decide_eq_true
theorem e9:type_of% @decide_eq_true_eq:=@decide_eq_true_eq
theorem ag:type_of% @if_neg:=@if_neg
theorem aw:type_of% @if_pos:=@if_pos
theorem bd:type_of% @of_decide_eq_false:=@of_decide_eq_false
theorem aX:type_of% @of_decide_eq_true:=@of_decide_eq_true
theorem a1:type_of% @trivial:=@trivial
abbrev Fr:=List (Nat × Value)
def look:Fr→Nat→Option Value
 | [],_=>none
 | (d,v)::l,t=>match Nat.beq d t with
  | true=>some v
  | false=>look l t
def ba (l:Fr):Operand→Option Value
 | .tmp t=>look l t
 | .const v=>some v
 | .global g=>some (.pointer (some ⟨g,0,none⟩))
 | .func f=>some (.func (.func f) #[] #[])
structure hB (n:Nat) (l:Fr) (a:Act):Prop where
 size:a.tmps.size=n
 pC:a.defers=[]
 val: ∀t v,look l t=some v→a.tmps[t]? = some v
theorem hB.ba {n:Nat} {l:Fr} {a:Act} (h:hB n l a) {x:Operand} {v:Value} (b:ba l x=some v):a.eval x=v:=by
 cases x with
 | tmp t=>simp[Act.eval,jW,h.val t v b]
 | const c=>simpa [Mq.ba,Act.eval] using b
 | global g=>simpa [Mq.ba,Act.eval] using b
 | func f=>simpa [Mq.ba,Act.eval] using b
theorem hB.put {n:Nat} {l:Fr} {a:Act} (h:hB n l a) {d:Nat} (ak:d<n) (v:Value):hB n ((d,v)::l) (a.put (some d) v):=by
 refine⟨by simp[Act.put,h.size],h.pC,λt u b=>?_⟩;have e:=h.size
 simp only[look] at b
 cases c:Nat.beq d t with
 | true=>
  rw[c] at b
  have f:=gd c
  subst f;simp only[dA] at b
  subst b;simp[Act.put,e,ak]
 | false=>
  rw[c] at b
  have g:d≠t:=ux c
  simp only[Act.put];rw[ul g];exact h.val t u b
def Sub (l l':Fr):Prop:= ∀t v,look l' t=some v→look l t=some v
theorem Sub.nil {l:Fr}:Sub l []:=λt v h=>by simp[look] at h
theorem Sub.cons {l l':Fr} {t:Nat} {v:Value} (h:look l t=some v) (c:Sub l l'):Sub l ((t,v)::l'):=by
 intro u x a;simp only[look] at a
 cases b:Nat.beq t u with
 | true=>
  rw[b] at a
  have d:=gd b
  subst d;simp only[dA] at a
  subst a;exact h
 | false=>rw[b] at a;exact c u x a
theorem Sub.refl (l:Fr):Sub l l:=λ_ _ h=>h
theorem hB.sub {n:Nat} {l l':Fr} {a:Act} (h:hB n l a) (b:Sub l l'):hB n l' a:=⟨h.size,h.pC,λt v c=>h.val t v (b t v c)⟩
abbrev cq:=Exit→Fr→World→Prop
def se (n:Nat) (Q:cq):Exit→Act→World→Prop:=λe a w=> ∃l,hB n l a∧Q e l w
def zg (P:Program) (n:Nat) (c:Code) (Q:cq) (l:Fr) (w:World):Prop:= ∀a,hB n l a→c.wp P (se n Q) a w
def dc (P:Program) (n:Nat) (c:Code) (Q:cq) (l:Fr) (H:World→Prop):Prop:= ∀w,H w→zg P n c Q l w
def dS (Q:cq) (e:Exit) (l:Fr) (H:World→Prop):Prop:= ∀w,H w→Q e l w
def az (P:Program) (n:Nat) (ops:Array Oper) (Q:cq) (rest:List Oper) (l:Fr) (H:World→Prop):Prop:=
 ∀w,H w→ ∀a,hB n l a→wpList P ops (se n Q) rest a w
def wD (a:Fr→World→Prop) (Q:cq):cq
 | .normal,l,w=>a l w
 | e,l,w=>Q e l w
def pD (id:Nat) (Q:cq):cq
 | .exit a,l,w=>if a=id then Q .normal l w else Q (.exit a) l w
 | e,l,w=>Q e l w
def wE {ι:Type} (fr:ι→Fr) (fK:ι→World→Prop) (ok:ι→Prop) (mF:ι→Nat) (m:Nat) (Q:cq):cq
 | .normal,l,w=> ∃i,ok i∧mF i<m∧Sub l (fr i)∧fK i w
 | e,l,w=>Q e l w
def Fin (P:Program) (n:Nat) (fn:Func) (R:Ending→World→Prop):cq
 | .normal,l,w | .ret,l,w=> ∀a,hB n l a→ ∃v,(results fn a.tmps).run P w= .ok v w∧R (.returned v) w
 | _,_,_=>False
section
variable {P:Program} {n:Nat} {Q:cq} {l:Fr} {H:World→Prop}
theorem cH {c:Code} {l':Fr} {H':World→Prop} (h:dc P n c Q l' H') (b:Sub l l') (d: ∀w,H w→H' w):dc P n c Q l H:=
 λw e a f=>h w (d w e) a (f.sub b)
theorem k2 {x y:Code} (h:dc P n x (wD (zg P n y Q) Q) l H):dc P n (.seq x y) Q l H:=by
 intro w d a f;refine wp_seq (wp_mono (h w d a f) ?_);intro e _ _ ⟨l',b,c⟩;cases e with
 | normal=>exact c _ b
 | _=>exact⟨l',b,c⟩
theorem zh (h:dS Q .normal l H):dc P n .skip Q l H:=λw a _ b=>wp_skip ⟨l,b,h w a⟩
theorem DG {k:Nat} (h:dS Q .normal l H):dc P n (.label k) Q l H:=λw a _ b=>wp_label ⟨l,b,h w a⟩
theorem LP {id:Nat} (h:dS Q (.exit id) l H):dc P n (.exit id) Q l H:=λw a _ b=>wp_exit ⟨l,b,h w a⟩
theorem LQ (h:dS Q .ret l H):dc P n .ret Q l H:=λw a _ b=>wp_ret ⟨l,b,h w a⟩
theorem LR {id:Nat} {c:Code} (h:dc P n c (pD id Q) l H):dc P n (.block id c) Q l H:=by
 intro w g a i;refine wp_block (wp_mono (h w g a i) ?_);intro e _ _ ⟨l',d,b⟩;cases e with
 | exit j=>
  simp only[pD] at b
  simp only[Exit.inBlock];split
  rename_i f;rw[aw f] at b;exact⟨l',d,b⟩
  rename_i f;rw[ag f] at b;exact⟨l',d,b⟩
 | _=>exact⟨l',d,b⟩
theorem b1 {c:Operand} {x y:Code} {t:Bool} (e:ba l c=some (.bool t)) (f:t=true→dc P n x Q l H) (g:t=false→dc P n y Q l H):
 dc P n (.cond c x y) Q l H:=
 λw d a b=>wp_cond_split (b.ba e) (λh=>f h w d a b) (λh=>g h w d a b)
theorem b2 {c:Code} {ι:Type} (fr:ι→Fr) (fK:ι→World→Prop) (ok:ι→Prop) (mF:ι→Nat)
 (s: ∀w,H w→ ∃i,ok i∧Sub l (fr i)∧fK i w)
 (t: ∀i,ok i→dc P n c (wE fr fK ok mF (mF i) Q) (fr i) (fK i)):dc P n (.loop c) Q l H:=by
 intro w u a v b k cs;have y: ∀m i a w,mF i=m→ok i→hB n (fr i) a→fK i w→
  ∃e a' w',se n Q e a' w'∧Arrives P (lone (b.at a (.code c:: .inLoop c::k)) cs w) b k cs e a' w':=by
  intro m;induction m using Nat.strongRecOn with
  | _ m z=>
   intro i a w A o B p;obtain⟨e,g,h,⟨l₁,j,d⟩,f⟩:=t i o w p a B b (.inLoop c::k) cs;cases e with
   | normal=>
    obtain⟨r,C,D,q,E⟩:=d;obtain⟨F,G,I,J,K⟩:=z (mF r) (A▸D) r g h rfl C (j.sub q) E;exact⟨F,G,I,J,.of_steps (Steps.trans f (.one step_inLoop)) K⟩
   | exit id=>exact⟨_,g,h,⟨l₁,j,d⟩,.pass (x:= .inLoop c) rfl (λ_ _=> .inl av) f⟩
   | goto l=>exact⟨_,g,h,⟨l₁,j,d⟩,.pass (x:= .inLoop c) rfl (λ_ _=> .inl av) f⟩
   | ret=>exact⟨_,g,h,⟨l₁,j,d⟩,.pass (x:= .inLoop c) rfl (λ_ _=> .inl av) f⟩
   | panic aF=>exact⟨_,g,h,⟨l₁,j,d⟩,.pass (x:= .inLoop c) rfl (λ_ _=> .inl av) f⟩
   | outgrown=>exact⟨_,g,h,⟨l₁,j,d⟩,.pass (x:= .inLoop c) rfl (λ_ _=> .inl av) f⟩
 obtain⟨i,o,q,p⟩:=s w u;obtain⟨e,a',w',d,f⟩:=y _ i a w rfl o (v.sub q) p;exact⟨e,a',w',d,.of_steps (.one step_loop) f⟩
theorem ni {id:Nat} {ops:List Oper} (h:az P n ops.toArray Q ops l H):dc P n (.region id ops.toArray false) Q l H:=
 λw b a c=>wp_region_lit (h w b a c)
theorem mG {y:Code} (h:dc P n y Q l H):dS (wD (zg P n y Q) Q) .normal l H:=h
theorem sf {a:Fr→World→Prop} {i:Nat} (h:dS Q (.exit i) l H):dS (wD a Q) (.exit i) l H:=h
theorem wF {a:Fr→World→Prop} (h:dS Q .ret l H):dS (wD a Q) .ret l H:=h
theorem LS {i:Nat} (h:dS Q .normal l H):dS (pD i Q) .normal l H:=h
theorem LT {i:Nat} (h:dS Q .ret l H):dS (pD i Q) .ret l H:=h
theorem sg {i:Nat} (h:dS Q .normal l H):dS (pD i Q) (.exit i) l H:=λw a=>by simp only[pD,if_true];exact h w a
theorem sh {i j:Nat} (a: (Nat.beq i j)=false) (h:dS Q (.exit j) l H):dS (pD i Q) (.exit j) l H:=λw b=>by
 have:j≠i:=λe=>ux a e.symm
 simp only[pD,ag this];exact h w b
section
variable {ι:Type} {fr:ι→Fr} {fK:ι→World→Prop} {ok:ι→Prop} {mF:ι→Nat} {m:Nat}
theorem si {i:Nat} (h:dS Q (.exit i) l H):dS (wE fr fK ok mF m Q) (.exit i) l H:=h
theorem LU (h:dS Q .ret l H):dS (wE fr fK ok mF m Q) .ret l H:=h
theorem bi (i:ι) (a:ok i) (b:mF i<m) (c:Sub l (fr i)) (d: ∀w,H w→fK i w):dS (wE fr fK ok mF m Q) .normal l H:=
 λw e=>⟨i,a,b,c,d w e⟩
end
theorem LV {fn:Func} {R:Ending→World→Prop} {t:Nat} {v:Value} (b:fn.results= #[.tmp t]) (c:look l t=some v) (h: ∀w,H w→R (.returned v) w):dS (Fin P n fn R) .ret l H:=by
 intro w d a e;refine⟨_,results_tmp b _ _ _,?_⟩;rw[jW,e.val t v c];exact h w d
theorem DH {fn:Func} {R:Ending→World→Prop} (b:fn.results= #[]) (h: ∀w,H w→R (.returned (.tuple #[])) w):dS (Fin P n fn R) .ret l H:=by
 intro w c a d;exact⟨_,results_none b _ _ _,h w c⟩
theorem zi {fn:Func} {R:Ending→World→Prop} (a:fn.results= #[]) (h: ∀w,H w→R (.returned (.tuple #[])) w):dS (Fin P n fn R) .normal l H:=
 DH (P:=P) a h
theorem LW {fn:Func} {R:Ending→World→Prop} {t u:Nat} {v x:Value} (c:fn.results= #[.tmp t,.tmp u]) (d:look l t=some v) (e:look l u=some x) (h: ∀w,H w→R (.returned (.tuple #[v,x])) w):dS (Fin P n fn R) .ret l H:=by
 intro w f a b;refine⟨_,results_tmp2 c _ _ _,?_⟩;rw[jW,jW,b.val t v d,b.val u x e];exact h w f
theorem LX {fn:Func} {R:Ending→World→Prop} {t u s:Nat} {v x y:Value} (c:fn.results= #[.tmp t,.tmp u,.tmp s]) (d:look l t=some v) (e:look l u=some x) (f:look l s=some y)
 (h: ∀w,H w→R (.returned (.tuple #[v,x,y])) w):dS (Fin P n fn R) .ret l H:=by
 intro w g a b;refine⟨.tuple #[v,x,y],?_,h w g⟩;simp[results,c,jW,b.val t v d,b.val u x e,b.val s y f]
theorem sj {ops:Array Oper} (h:dS Q .normal l H):az P n ops Q [] l H:=λw a _ b=>wpList_nil ⟨l,b,h w a⟩
theorem gR {ops:Array Oper} {rest:List Oper} {l':Fr} {H':World→Prop} (h:az P n ops Q rest l' H') (b:Sub l l') (c: ∀w,H w→H' w):az P n ops Q rest l H:=
 λw d a e=>h w (c w d) a (e.sub b)
end
def oB:List Value→Nat→Fr
 | [],_=>[]
 | v::vs,k=>(k,v)::oB vs (k+1)
theorem LY (vs:List Value): ∀(k t:Nat) (v:Value),look (oB vs k) t=some v→k≤t∧vs[t - k]? = some v:=by
 induction vs with
 | nil=>intro k t v h;simp[oB,look] at h
 | cons x xs b=>
  intro k t v h;simp only[oB,look] at h
  cases a:Nat.beq k t with
  | true=>
   rw[a] at h
   have c:=gd a
   subst c;simpa using h
  | false=>
   rw[a] at h
   have e:=ux a
   obtain⟨f,d⟩:=b (k+1) t v h;refine⟨aa,?_⟩;have:t - k=(t - (k+1))+1:=by omega
   rw[this,List.getElem?_cons_succ];exact d
theorem calls {P:Program} {f:FuncId} {fn:Func} {c:Code} {vs:List Value} {w:World} {R:Ending→World→Prop}
 (n:Nat) (k:P.funcs[f]? = some fn) (m:fn.body=some c) (o:fn.ntmps=n) (p:Nat.ble vs.length n=true)
 (h:dc P n c (Fin P n fn R) (oB vs 0) (λx=>x=w)):Calls P f vs.toArray w R:=by
 subst o;refine calls_of_wp k m (wp_mono (h w rfl _ ?_) ?_);have r:=dV p
 refine⟨by simp;omega,rfl,λt v d=>?_⟩;obtain⟨_,d⟩:=LY vs 0 t v d;have q:t<vs.length:=by
  have:=(cK.1 (by simpa using d)).1
  exact this
 simp only[kr] at d
 rw[uk (by simpa using q)];simpa using d
 intro e a w ⟨l,g,b⟩;cases e with
 | normal=>obtain⟨v,i,j⟩:=b a g;exact⟨g.pC,v,i,j⟩
 | ret=>obtain⟨v,i,j⟩:=b a g;exact⟨g.pC,v,i,j⟩
 | exit _=>exact b.elim
 | goto _=>exact b.elim
 | panic _=>exact b.elim
 | outgrown=>exact b.elim
end
structure Ext (S:List Nat) (w w':World):Prop where
 os:w'.os=w.os
 tape:w'.tape=w.tape
 output:w'.output=w.output
 size:w.heap.size≤w'.heap.size
 block: ∀b,b<w.heap.size→b∉S→w'.heap[b]? = w.heap[b]?
theorem Ext.refl (S:List Nat) (w:World):Ext S w w:=⟨rfl,rfl,rfl,bW _,λ_ _ _=>rfl⟩
theorem Ext.trans {S e:List Nat} {a b c:World} (h:Ext S a b) (k:Ext e b c) (g: ∀x∈e,x<a.heap.size→x∈S):Ext S a c:=
 ⟨k.os.trans h.os,k.tape.trans h.tape,k.output.trans h.output,fp h.size k.size,λx d f=>
  (k.block x (pA d h.size) λi=>f (g x i d)).trans (h.block x d f)⟩
theorem Ext.dW {S:List Nat} {a b c:World} (h:Ext S a b) (k:Ext [] b c):Ext S a c:=h.trans k av
theorem Ext.mono {S c:List Nat} {a b:World} (h:Ext S a b) (e: ∀x∈S,x<a.heap.size→x∈c):Ext c a b:=
 ⟨h.os,h.tape,h.output,h.size,λx d f=>h.block x d λg=>f (e x g d)⟩
theorem Ext.cell {S:List Nat} {w w':World} (h:Ext S w w') {p:Addr} (ai:p.block<w.heap.size) (a:p.block∉S):w'.cell? p=w.cell? p:=
 World.cell?_of_block (w:=w) (h.block p.block ai a)
theorem Ext.alloc (w:World) (o:Obj) (S:List Nat):Ext S w (w.alloc o):=⟨rfl,rfl,rfl,by simp,λk a _=>Below.heap_alloc _ _ _ a⟩
theorem Ext.setCell (w:World) (p:Addr) (u:Value):Ext [p.block] w (w.setCell p u):=
 ⟨rfl,rfl,rfl,by simp,λk _ a=>Below.heap_setCell _ _ _ _ (by simpa using a)⟩
theorem Ext.sk {w w':World} (h:Below w.heap.size w w'):Ext [] w w':=⟨h.os,h.tape,h.output,h.size,λk a _=>h.block k a⟩
theorem Ext.uz {w w':World} {row:Option Nat} (h:w.grownBy w' row):Ext row.toList w w':=
 ⟨h.os,h.tape,h.output,h.size,λk a b=>h.block k a (by cases row <;> simp_all)⟩
structure Chunk where
 ch:List Nat
 pred:World→Prop
 low: ∀w,pred w→ ∀b∈ch,b<w.heap.size
 loc: ∀w w':World,(∀b∈ch,w'.heap[b]? = w.heap[b]?)→pred w→pred w'
def aB (cs:List Chunk):List Nat:=cs.flatMap (·.ch)
theorem fq (c:Chunk) (cs:List Chunk):aB (c::cs)=c.ch++aB cs:=rfl
structure af (b:World) (S:List Nat) (cs:List Chunk) (w:World):Prop where
 ext:Ext S b w
 nodup: (aB cs).Nodup
 all: ∀c∈cs,c.pred w
 ek: ∀k∈aB cs,k<b.heap.size→k∈S
theorem e_ {cs:List Chunk} {k:Nat}:k∈aB cs↔ ∃c∈cs,k∈c.ch:=by simp[aB]
theorem af.lt {b:World} {S:List Nat} {cs:List Chunk} {w:World} (h:af b S cs w) {k:Nat} (a:k∈aB cs):k<w.heap.size:=by
 obtain⟨c,d,e⟩:=e_.1 a;exact c.low w (h.all c d) k e
theorem af.start (w:World):af w [] [] w:=⟨Ext.refl _ _,by simp[aB],by simp,by simp[aB]⟩
theorem af.LZ (b w:World) (h:w=b):af b [] [] w:=h▸af.start b
theorem af.oC {b:World} {S:List Nat} {cs:List Chunk} {w:World} (h:af b S cs w):af w (aB cs) cs w:=
 ⟨Ext.refl _ _,h.nodup,h.all,λ_ a _=>a⟩
theorem af.zj {b a:World} {S uA:List Nat} {cs:List Chunk} {w:World} (h:af a uA cs w) (c:Ext S b a) (d: ∀k∈uA,k<b.heap.size→k∈S):af b S cs w:=
 ⟨c.trans h.ext d,h.nodup,h.all,λk f e=>d k (h.ek k f (pA e c.size)) e⟩
theorem af.keep {b:World} {S:List Nat} {cs:List Chunk} {w w':World} (h:af b S cs w) (a:Ext [] w w'):af b S cs w':=
 ⟨h.ext.dW a,h.nodup,λc d=>c.loc w w' (λk e=>a.block k (c.low w (h.all c d) k e) av) (h.all c d),h.ek⟩
theorem af.add {b:World} {S:List Nat} {cs:List Chunk} {w w':World} (h:af b S cs w) (i:Ext [] w w') {c:Chunk} (ai:c.pred w') (f: ∀k∈c.ch,w.heap.size≤k) (j:c.ch.Nodup):af b S (c::cs) w':=by
 have g:=h.keep i
 refine⟨g.ext,?_,?_,?_⟩;rw[fq,fW];refine⟨j,h.nodup,λx l y m e=>?_⟩;have n:=f x l
 have o:=h.lt m
 omega
 intro d ak;rcases e1.1 ak with rfl | ak
 exact ai;exact g.all d ak;intro k a p;rw[fq,cZ] at a
 rcases a with a | a
 have n:=f k a
 have o:=h.ext.size
 omega
 exact h.ek k a p
theorem af.nj {b:World} {S:List Nat} {cs:List Chunk} {w:World} (h:af b S cs w) {c:Chunk} (ai:c.pred w) (a:c.ch=[]):af b S (c::cs) w:=
 h.add (Ext.refl _ _) ai (by simp[a]) (by simp[a])
inductive bn:List Chunk→Chunk→Chunk→List Chunk→Prop
 | head {c c':Chunk} {cs:List Chunk}:bn (c::cs) c c' (c'::cs)
 | tail {c c' x:Chunk} {cs cs':List Chunk}:bn cs c c' cs'→bn (x::cs) c c' (x::cs')
theorem bn.split {cs cs':List Chunk} {c c':Chunk} (h:bn cs c c' cs'): ∃l r,cs=l++c::r∧cs'=l++c'::r:=by
 induction h with
 | head=>exact⟨[],_,rfl,rfl⟩
 | @tail c c' x cs cs' _ a=>obtain⟨l,r,rfl,rfl⟩:=a;exact⟨x::l,r,rfl,rfl⟩
inductive Has:List Chunk→Chunk→Prop
 | head {c:Chunk} {cs:List Chunk}:Has (c::cs) c
 | tail {c x:Chunk} {cs:List Chunk}:Has cs c→Has (x::cs) c
theorem Has.mem {cs:List Chunk} {c:Chunk} (h:Has cs c):c∈cs:=by
 induction h with
 | head=>simp
 | tail _ a=>exact ur _ a
inductive bw:List Chunk→Chunk→List Chunk→Prop
 | head {c:Chunk} {cs:List Chunk}:bw (c::cs) c cs
 | tail {c x:Chunk} {cs cs':List Chunk}:bw cs c cs'→bw (x::cs) c (x::cs')
theorem bw.split {cs cs':List Chunk} {c:Chunk} (h:bw cs c cs'): ∃l r,cs=l++c::r∧cs'=l++r:=by
 induction h with
 | head=>exact⟨[],_,rfl,rfl⟩
 | @tail c x cs cs' _ a=>obtain⟨l,r,rfl,rfl⟩:=a;exact⟨x::l,r,rfl,rfl⟩
theorem iI (l r:List Chunk):aB (l++r)=aB l++aB r:=by simp[aB]
theorem af.has {b:World} {S:List Nat} {cs:List Chunk} {w:World} (h:af b S cs w) {c:Chunk} (a:Has cs c):c.pred w:=h.all c a.mem
theorem af.rem {b:World} {S:List Nat} {cs cs':List Chunk} {w:World} (h:af b S cs w) {c:Chunk} (e:bw cs c cs'):af b S cs' w:=by
 obtain⟨l,r,rfl,rfl⟩:=e.split;refine⟨h.ext,?_,λd ak=>h.all d (by rcases cZ.1 ak with ak | ak <;> simp[ak]),λk a=>h.ek k (by
  rw[iI,cZ] at a
  rcases a with a | a <;> simp[iI,fq,a])⟩
 have:=h.nodup
 rw[iI,fq] at this
 rw[iI];exact this.sublist av
theorem af.ie {b:World} {S:List Nat} {cs cs':List Chunk} {w w':World} (h:af b S cs w) {c c':Chunk} (s:bn cs c c' cs') (m:Ext c.ch w w') (ai:c'.pred w')
 (n: ∀k∈c'.ch,k∈c.ch∨w.heap.size≤k) (t:c'.ch.Nodup):af b S cs' w':=by
 obtain⟨l,r,rfl,rfl⟩:=s.split;have o:=h.nodup
 rw[iI,fq,fW,fW] at o
 obtain⟨u,⟨D,v,z⟩,p⟩:=o;have g: ∀d,d∈l∨d∈r→ ∀k∈d.ch,k<w.heap.size∧k∉c.ch:=by
  intro d ak k a;refine⟨d.low w (h.all d (by rcases ak with ak | ak <;> simp[ak])) k a,λq=>?_⟩;rcases ak with ak | ak
  exact p k (e_.2 ⟨d,ak,a⟩) k (by simp[q]) rfl;exact z k q k (e_.2 ⟨d,ak,a⟩) rfl
 refine⟨h.ext.trans m (λx i j=>h.ek x (by simp[iI,fq,i]) j),?_,?_,?_⟩;rw[iI,fq,fW,fW];refine⟨u,⟨t,v,?_⟩,?_⟩;rintro x i y f rfl;obtain⟨d,ak,A⟩:=e_.1 f;have:=g d (.inr ak) x A
 rcases n x i with e | e
 exact this.2 e;omega
 rintro x i y f rfl;obtain⟨d,ak,B⟩:=e_.1 i;have C:=g d (.inl ak) x B
 rcases cZ.1 f with f | f
 rcases n x f with e | e
 exact C.2 e;omega
 exact p x i x (by simp[f]) rfl;intro d ak;simp only[cZ,e1] at ak
 rcases ak with ak | rfl | ak
 exact d.loc w w' (λk a=>m.block k (g d (.inl ak) k a).1 (g d (.inl ak) k a).2) (h.all d (by simp[ak]));exact ai;exact d.loc w w' (λk a=>m.block k (g d (.inr ak) k a).1 (g d (.inr ak) k a).2) (h.all d (by simp[ak]));intro k a j;rw[iI,fq,cZ,cZ] at a
 rcases a with a | a | a
 exact h.ek k (by simp[iI,fq,a]) j;rcases n k a with e | e
 exact h.ek k (by simp[iI,fq,e]) j;have:=h.ext.size
 omega
 exact h.ek k (by simp[iI,fq,a]) j
def aD (g:Nat) (xs:List Value) (t:TypeId):Chunk where
 ch:=[g]
 pred w:=w.heap[g]? = some (.cells xs.toArray t (0,0))
 low w h k a:=by
  simp only[eb] at a
  subst a
  exact (lH.1 h).1
 loc w w' h ai:=by rw[h g av];exact ai
def own (e:TypeId) (size:Nat) (v:Value) (n:Nat) (xs:List Value):Chunk where
 ch:=v.ownBlock.toList
 pred w:=w.ownsRow 0 e size v n xs
 low w h k a:=(h.lt k (by simpa using a)).2
 loc w w' h ai:=by
  refine⟨ai.1,?_⟩
  rcases ai.2 with b | ⟨g,cap,am,rfl,c,d,rest⟩
  exact .inl b
  exact .inr ⟨g,cap,am,rfl,c,by rw[h g (by simp[Value.ownBlock])];exact d,rest⟩
theorem af.eP {b:World} {S:List Nat} {cs:List Chunk} {w:World} (h:af b S cs w) {g:Nat} {xs:List Value} {t:TypeId} (a:Has cs (aD g xs t)) {o:Nat} {v:Value} (c:xs[o]? = some v):
 w.cell? ⟨g,o,none⟩=some v:=by
 have d:=h.has a
 rw[cell_of_row w g o xs.toArray t (0,0) d];simpa using c
theorem af.cu {b:World} {S:List Nat} {cs:List Chunk} {w:World} (h:af b S cs w) {p:Addr} {v:Value} (a:b.cell? p=some v) (c:p.block∉S):w.cell? p=some v:=by
 rw[h.ext.cell (World.block_lt_of_cell? _ _ a) c];exact a
end Go.Proofs.YtlgnfdodnhokjaaGreatDoor.Mq
