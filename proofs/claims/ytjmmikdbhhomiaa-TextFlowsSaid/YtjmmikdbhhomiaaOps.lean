/-
  ONE RULE AN OPERATION: what an operation does to a frame that is known in part, and to a world of which chunks are known.
-/
import Derived.Test.YtjmmikdbhhomiaaHeap
namespace Go.Proofs.Ytjmmikdbhhomiaa.Mq
open Go Go.RowKit

/- TYPES -/
def notAgg : TypeDesc → Bool
  | .struct _ => false
  | .array _ _ => false
  | _ => true
structure ScT (P : Program) (t : TypeId) (z : Value) : Prop where
  und : ∃ d, P.underlying t = some d ∧ notAgg d = true
  inf : ∃ i, P.info? t = some i ∧ i.zero = some z ∧ i.size = 1
  one : z.oneCell' = true
structure AgT (P : Program) (t : TypeId) (sz : Nat) (z : List Value) : Prop where
  und : ∃ d, P.underlying t = some d ∧ notAgg d = false
  inf : ∃ i, P.info? t = some i ∧ i.zero = some (.agg z.toArray) ∧ i.size = sz
  len : z.length = sz
structure SlT (P : Program) (t e sz bytes : Nat) (z : List Value) : Prop where
  und : P.underlying t = some (.slice e)
  inf : ∃ i zv, P.info? e = some i ∧ i.zero = some zv ∧ zv.cells.toList = z ∧ i.size = sz ∧ i.bytes = bytes
  pos : 0 < sz
  len : z.length = sz
structure FlT (P : Program) (s i off : Nat) : Prop where
  prf : ∃ fs f j, P.underlying s = some (.struct fs) ∧ fs[i]? = some f ∧ P.info? f.type = some j ∧ j.size ≠ 0 ∧ f.offset = off
theorem ScT.of {P : Program} {t : TypeId} {z : Value} (h1 : (P.underlying t).map notAgg = some true) (h2 : (P.info? t).map (fun i => (i.zero, i.size)) = some (some z, 1)) (h3 : z.oneCell' = true) : ScT P t z := by
  refine ⟨?_, ?_, h3⟩
  · cases hu : P.underlying t <;> simp_all
  · cases hu : P.info? t <;> simp_all
theorem AgT.of {P : Program} {t : TypeId} {sz : Nat} {z : List Value} (h1 : (P.underlying t).map notAgg = some false) (h2 : (P.info? t).map (fun i => (i.zero, i.size)) = some (some (.agg z.toArray), sz)) (h3 : z.length = sz) : AgT P t sz z := by
  refine ⟨?_, ?_, h3⟩
  · cases hu : P.underlying t <;> simp_all
  · cases hu : P.info? t <;> simp_all
theorem SlT.of {P : Program} {t e sz bytes : Nat} (zv : Value) {z : List Value} (h1 : P.underlying t = some (.slice e)) (h2 : (P.info? e).map (fun i => (i.zero, i.size, i.bytes)) = some (some zv, sz, bytes)) (hz : zv.cells.toList = z) (h3 : z.length = sz) (h4 : Nat.ble 1 sz = true) : SlT P t e sz bytes z := by
  refine ⟨h1, ?_, Nat.le_of_ble_eq_true h4, h3⟩
  cases hu : P.info? e <;> simp_all
theorem FlT.of {P : Program} {s i off : Nat} (f : Field) (fs : Array Field) (h1 : P.underlying s = some (.struct fs)) (h2 : fs[i]? = some f) (h3 : (P.info? f.type).map (fun i => Nat.ble 1 i.size) = some true) (h4 : f.offset = off) : FlT P s i off := by
  cases hu : P.info? f.type with
  | none => simp [hu] at h3
  | some j =>
    have : 1 ≤ j.size := by simpa [hu] using h3
    exact ⟨fs, f, j, h1, h2, hu, by omega, h4⟩
theorem run_isAgg {P : Program} {t : TypeId} {d : TypeDesc} {w : World} (h : P.underlying t = some d) : (isAgg t).run P w = .ok (!notAgg d) w := by
  unfold isAgg
  simp only [Sem.run_bind, run_underlying h, Result.andThen_ok]
  cases d <;> rfl
theorem run_sizeOf {P : Program} {t : TypeId} {i : TypeInfo} {w : World} (h : P.info? t = some i) : (sizeOf t).run P w = .ok i.size w := by
  simp [sizeOf, typeInfo, h]
theorem run_zeroValue {P : Program} {t : TypeId} {i : TypeInfo} {z : Value} {w : World} (h : P.info? t = some i) (hz : i.zero = some z) : (zeroValue t).run P w = .ok z w := by
  simp [zeroValue, typeInfo, h, hz]

/- STEPS -/
def Evs (l : Fr) (ρ : Operand → Value) : Prop := ∀ x v, ev l x = some v → ρ x = v
def evs (l : Fr) : List Operand → Option (List Value)
  | [] => some []
  | x :: xs => match ev l x, evs l xs with
    | some v, some vs => some (v :: vs)
    | _, _ => none
theorem Evs.list {l : Fr} {ρ : Operand → Value} (h : Evs l ρ) : ∀ (xs : List Operand) (vs : List Value), evs l xs = some vs → xs.map ρ = vs
  | [], vs, hv => by simp [evs] at hv; simp [hv]
  | x :: xs, vs, hv => by
    simp only [evs] at hv
    split at hv
    · rename_i v vs' h1 h2
      simp only [Option.some.injEq] at hv
      subst hv
      simp [h x v h1, h.list xs vs' h2]
    · cases hv
section
variable {P : Program} {n : Nat} {ops : Array Oper} {Q : Post} {rest : List Oper} {l : Fr} {H : World → Prop} {d : Nat} {ty : TypeId} {pos : String} {af : Array Edge}

theorem RW.step {op : Op} (hd : Nat.blt d n = true)
    (h : ∀ ρ w, Evs l ρ → H w → ∃ v w', (execOp ρ ⟨some d, op, ty, pos, af, none⟩).run P w = .ok (.value v) w' ∧ RW P n ops Q rest ((d, v) :: l) (fun x => x = w')) :
    RW P n ops Q (⟨some d, op, ty, pos, af, none⟩ :: rest) l H := by
  intro w hw a ha
  obtain ⟨v, w', hrun, hk⟩ := h a.eval w (fun x v hx => ha.ev hx) hw
  unfold wpList
  rw [if_pos (by simp [Region.wanted])]
  refine .inl ?_
  simp only [Oper.wp, hrun, Oper.upon_value]
  exact hk w' rfl _ (ha.put (Nat.le_of_ble_eq_true hd) v)
theorem RW.step0 {op : Op}
    (h : ∀ ρ w, Evs l ρ → H w → ∃ w', (execOp ρ ⟨none, op, ty, pos, af, none⟩).run P w = .ok .skip w' ∧ RW P n ops Q rest l (fun x => x = w')) :
    RW P n ops Q (⟨none, op, ty, pos, af, none⟩ :: rest) l H := by
  intro w hw a ha
  obtain ⟨w', hrun, hk⟩ := h a.eval w (fun x v hx => ha.ev hx) hw
  unfold wpList
  rw [if_pos (by simp [Region.wanted])]
  refine .inl ?_
  simp only [Oper.wp, hrun, Oper.upon_skip]
  exact hk w' rfl _ ha
theorem RW.at {w' : World} (h : RW P n ops Q rest l H) (hw : H w') : RW P n ops Q rest l (fun x => x = w') := fun _ e a ha => by subst e; exact h _ hw a ha
/-- A value that hangs on the frame alone. -/
theorem RW.val {op : Op} (v : Value) (hd : Nat.blt d n = true) (hrun : ∀ ρ w, Evs l ρ → (execOp ρ ⟨some d, op, ty, pos, af, none⟩).run P w = .ok (.value v) w)
    (h : RW P n ops Q rest ((d, v) :: l) H) : RW P n ops Q (⟨some d, op, ty, pos, af, none⟩ :: rest) l H :=
  RW.step hd fun ρ w hρ hw => ⟨v, w, hrun ρ w hρ, h.at hw⟩
/-- A value that hangs on the world too. -/
theorem RW.valH {op : Op} (v : Value) (hd : Nat.blt d n = true) (hrun : ∀ ρ w, Evs l ρ → H w → (execOp ρ ⟨some d, op, ty, pos, af, none⟩).run P w = .ok (.value v) w)
    (h : RW P n ops Q rest ((d, v) :: l) H) : RW P n ops Q (⟨some d, op, ty, pos, af, none⟩ :: rest) l H :=
  RW.step hd fun ρ w hρ hw => ⟨v, w, hrun ρ w hρ hw, h.at hw⟩
theorem RW.guardT {op : Op} {dst : Option Nat} {j t : Nat} {want b : Bool} (hj : (ops[j]?).bind (·.dst) = some t) (ht : look l t = some (.bool b)) (hb : b = want)
    (h : RW P n ops Q (⟨dst, op, ty, pos, af, none⟩ :: rest) l H) : RW P n ops Q (⟨dst, op, ty, pos, af, some (j, want)⟩ :: rest) l H := by
  intro w hw a ha
  have h1 := h w hw a ha
  unfold wpList at h1 ⊢
  rw [if_pos (by simp [Region.wanted])] at h1
  rw [if_pos (by simp [Region.wanted, yielded, hj, ha.val t _ ht, hb])]
  exact h1
theorem RW.guardF {op : Op} {j t : Nat} {want b : Bool} (hd : Nat.blt d n = true) (hj : (ops[j]?).bind (·.dst) = some t) (ht : look l t = some (.bool b)) (hb : b = !want)
    (h : RW P n ops Q rest ((d, undef) :: l) H) : RW P n ops Q (⟨some d, op, ty, pos, af, some (j, want)⟩ :: rest) l H := by
  intro w hw a ha
  unfold wpList
  rw [if_neg (by simp [Region.wanted, yielded, hj, ha.val t _ ht, hb])]
  exact h w hw _ (ha.put (Nat.le_of_ble_eq_true hd) _)
theorem RW.guardF0 {op : Op} {j t : Nat} {want b : Bool} (hj : (ops[j]?).bind (·.dst) = some t) (ht : look l t = some (.bool b)) (hb : b = !want)
    (h : RW P n ops Q rest l H) : RW P n ops Q (⟨none, op, ty, pos, af, some (j, want)⟩ :: rest) l H := by
  intro w hw a ha
  unfold wpList
  rw [if_neg (by simp [Region.wanted, yielded, hj, ha.val t _ ht, hb])]
  exact h w hw _ ha

theorem RW.move {x : Operand} {v : Value} (hd : Nat.blt d n = true) (hx : ev l x = some v) (h : RW P n ops Q rest ((d, v) :: l) H) : RW P n ops Q (⟨some d, .move x, ty, pos, af, none⟩ :: rest) l H :=
  RW.val v hd (fun ρ w hρ => by simp [execOp, hρ x v hx]) h
theorem RW.assign {x : Operand} {v : Value} (hd : Nat.blt d n = true) (hx : ev l x = some v) (h : RW P n ops Q rest ((d, v) :: l) H) : RW P n ops Q (⟨some d, .assign x, ty, pos, af, none⟩ :: rest) l H :=
  RW.val v hd (fun ρ w hρ => by simp [execOp, hρ x v hx]) h
theorem RW.pickT {c x y : Operand} {v : Value} (hd : Nat.blt d n = true) (hc : ev l c = some (.bool true)) (hx : ev l x = some v) (h : RW P n ops Q rest ((d, v) :: l) H) : RW P n ops Q (⟨some d, .pick c x y, ty, pos, af, none⟩ :: rest) l H :=
  RW.val v hd (fun ρ w hρ => by simp [execOp, hρ c _ hc, hρ x v hx, asBool]) h
theorem RW.pickF {c x y : Operand} {v : Value} (hd : Nat.blt d n = true) (hc : ev l c = some (.bool false)) (hy : ev l y = some v) (h : RW P n ops Q rest ((d, v) :: l) H) : RW P n ops Q (⟨some d, .pick c x y, ty, pos, af, none⟩ :: rest) l H :=
  RW.val v hd (fun ρ w hρ => by simp [execOp, hρ c _ hc, hρ y v hy, asBool]) h

/- NUMBERS -/
theorem wrap64 {z : Int} (h1 : -9223372036854775808 ≤ z) (h2 : z ≤ 9223372036854775807) : IntKind.i64.wrap z = z := by
  rw [IntKind.wrap_i64]; omega
section
variable {xt yt : TypeId} {x y : Operand} {k : IntKind} {a b : Int}
theorem RW.add {r : Int} (hd : Nat.blt d n = true) (hx : ev l x = some (.int k a)) (hy : ev l y = some (.int k b)) (hr : k.wrap (a + b) = r)
    (h : RW P n ops Q rest ((d, .int k r) :: l) H) : RW P n ops Q (⟨some d, .binOp .add xt x y yt, ty, pos, af, none⟩ :: rest) l H :=
  RW.val _ hd (fun ρ w hρ => by simp [execOp, hρ x _ hx, hρ y _ hy, eqGuard, binOp, Op.intArith, hr]) h
theorem RW.sub_ {r : Int} (hd : Nat.blt d n = true) (hx : ev l x = some (.int k a)) (hy : ev l y = some (.int k b)) (hr : k.wrap (a - b) = r)
    (h : RW P n ops Q rest ((d, .int k r) :: l) H) : RW P n ops Q (⟨some d, .binOp .sub xt x y yt, ty, pos, af, none⟩ :: rest) l H :=
  RW.val _ hd (fun ρ w hρ => by simp [execOp, hρ x _ hx, hρ y _ hy, eqGuard, binOp, Op.intArith, hr]) h
theorem RW.mul {r : Int} (hd : Nat.blt d n = true) (hx : ev l x = some (.int k a)) (hy : ev l y = some (.int k b)) (hr : k.wrap (a * b) = r)
    (h : RW P n ops Q rest ((d, .int k r) :: l) H) : RW P n ops Q (⟨some d, .binOp .mul xt x y yt, ty, pos, af, none⟩ :: rest) l H :=
  RW.val _ hd (fun ρ w hρ => by simp [execOp, hρ x _ hx, hρ y _ hy, eqGuard, binOp, Op.intArith, hr]) h
theorem RW.rem {r : Int} (hd : Nat.blt d n = true) (hx : ev l x = some (.int k a)) (hy : ev l y = some (.int k b)) (h0 : b ≠ 0) (hr : a.tmod b = r)
    (h : RW P n ops Q rest ((d, .int k r) :: l) H) : RW P n ops Q (⟨some d, .binOp .rem xt x y yt, ty, pos, af, none⟩ :: rest) l H :=
  RW.val _ hd (fun ρ w hρ => by simp [execOp, hρ x _ hx, hρ y _ hy, eqGuard, binOp, Op.intDiv, h0, hr]) h
theorem RW.quo {r : Int} (hd : Nat.blt d n = true) (hx : ev l x = some (.int k a)) (hy : ev l y = some (.int k b)) (h0 : b ≠ 0) (hr : k.wrap (a.tdiv b) = r)
    (h : RW P n ops Q rest ((d, .int k r) :: l) H) : RW P n ops Q (⟨some d, .binOp .quo xt x y yt, ty, pos, af, none⟩ :: rest) l H :=
  RW.val _ hd (fun ρ w hρ => by simp [execOp, hρ x _ hx, hρ y _ hy, eqGuard, binOp, Op.intDiv, h0, hr]) h
theorem RW.lss (hd : Nat.blt d n = true) (hx : ev l x = some (.int k a)) (hy : ev l y = some (.int k b))
    (h : RW P n ops Q rest ((d, .bool (decide (a < b))) :: l) H) : RW P n ops Q (⟨some d, .binOp .lss xt x y yt, ty, pos, af, none⟩ :: rest) l H :=
  RW.val _ hd (fun ρ w hρ => by simp [execOp, hρ x _ hx, hρ y _ hy, eqGuard, binOp, Op.intCmp]) h
theorem RW.leq (hd : Nat.blt d n = true) (hx : ev l x = some (.int k a)) (hy : ev l y = some (.int k b))
    (h : RW P n ops Q rest ((d, .bool (decide (a ≤ b))) :: l) H) : RW P n ops Q (⟨some d, .binOp .leq xt x y yt, ty, pos, af, none⟩ :: rest) l H :=
  RW.val _ hd (fun ρ w hρ => by simp [execOp, hρ x _ hx, hρ y _ hy, eqGuard, binOp, Op.intCmp]) h
theorem RW.gtr (hd : Nat.blt d n = true) (hx : ev l x = some (.int k a)) (hy : ev l y = some (.int k b))
    (h : RW P n ops Q rest ((d, .bool (decide (b < a))) :: l) H) : RW P n ops Q (⟨some d, .binOp .gtr xt x y yt, ty, pos, af, none⟩ :: rest) l H :=
  RW.val _ hd (fun ρ w hρ => by simp [execOp, hρ x _ hx, hρ y _ hy, eqGuard, binOp, Op.intCmp]) h
theorem RW.geq (hd : Nat.blt d n = true) (hx : ev l x = some (.int k a)) (hy : ev l y = some (.int k b))
    (h : RW P n ops Q rest ((d, .bool (decide (b ≤ a))) :: l) H) : RW P n ops Q (⟨some d, .binOp .geq xt x y yt, ty, pos, af, none⟩ :: rest) l H :=
  RW.val _ hd (fun ρ w hρ => by simp [execOp, hρ x _ hx, hρ y _ hy, eqGuard, binOp, Op.intCmp]) h
theorem beq_dec (a b : Int) : (a == b) = decide (a = b) := by by_cases h : a = b <;> simp [h]
theorem bne_dec (a b : Int) : (a != b) = decide (a ≠ b) := by by_cases h : a = b <;> simp [h]
theorem RW.eqlI (hd : Nat.blt d n = true) (hx : ev l x = some (.int k a)) (hy : ev l y = some (.int k b))
    (h : RW P n ops Q rest ((d, .bool (decide (a = b))) :: l) H) : RW P n ops Q (⟨some d, .binOp .eql xt x y yt, ty, pos, af, none⟩ :: rest) l H :=
  RW.val _ hd (fun ρ w hρ => by simp [execOp, hρ x _ hx, hρ y _ hy, eqGuard, binOp, Op.intCmp, beq_dec]) h
theorem RW.neqI (hd : Nat.blt d n = true) (hx : ev l x = some (.int k a)) (hy : ev l y = some (.int k b))
    (h : RW P n ops Q rest ((d, .bool (decide (a ≠ b))) :: l) H) : RW P n ops Q (⟨some d, .binOp .neq xt x y yt, ty, pos, af, none⟩ :: rest) l H :=
  RW.val _ hd (fun ρ w hρ => by simp [execOp, hρ x _ hx, hρ y _ hy, eqGuard, binOp, Op.intCmp, bne_dec]) h
theorem RW.not_ {t : Bool} (hd : Nat.blt d n = true) (hx : ev l x = some (.bool t))
    (h : RW P n ops Q rest ((d, .bool (!t)) :: l) H) : RW P n ops Q (⟨some d, .unOp .not xt x, ty, pos, af, none⟩ :: rest) l H :=
  RW.val _ hd (fun ρ w hρ => by simp [execOp, hρ x _ hx, Op.unary]) h
theorem RW.convI {k' : IntKind} {src dst : TypeId} {ds : TypeDesc} {r : Int} (hd : Nat.blt d n = true) (hx : ev l x = some (.int k a)) (hs : P.underlying src = some ds) (ht : P.underlying dst = some (.int k')) (hr : k'.wrap a = r)
    (h : RW P n ops Q rest ((d, .int k' r) :: l) H) : RW P n ops Q (⟨some d, .convert src dst x, ty, pos, af, none⟩ :: rest) l H :=
  RW.val _ hd (fun ρ w hρ => by simp [execOp, hρ x _ hx, convert, run_underlying hs, run_underlying ht, Conv.intToInt, hr]) h
theorem RW.min2 {tys : Array TypeId} (hd : Nat.blt d n = true) (hx : ev l x = some (.int k a)) (hy : ev l y = some (.int k b))
    (h : RW P n ops Q rest ((d, .int k (min a b)) :: l) H) : RW P n ops Q (⟨some d, .call ⟨.builtin .min, #[x, y], tys⟩, ty, pos, af, none⟩ :: rest) l H :=
  RW.val _ hd (fun ρ w hρ => by
    have e : (if b < a then b else a) = min a b := by omega
    simp [execOp, resolve, invoke, builtin, Builtin.min_, Builtin.min2, hρ x _ hx, hρ y _ hy, e]) h
theorem RW.max2 {tys : Array TypeId} (hd : Nat.blt d n = true) (hx : ev l x = some (.int k a)) (hy : ev l y = some (.int k b))
    (h : RW P n ops Q rest ((d, .int k (max a b)) :: l) H) : RW P n ops Q (⟨some d, .call ⟨.builtin .max, #[x, y], tys⟩, ty, pos, af, none⟩ :: rest) l H :=
  RW.val _ hd (fun ρ w hρ => by
    have e : (if a < b then b else a) = max a b := by omega
    simp [execOp, resolve, invoke, builtin, Builtin.max_, Builtin.max2, hρ x _ hx, hρ y _ hy, e]) h
end
/- SLICES AND STRINGS -/
theorem RW.lenSl {x : Operand} {t e : TypeId} {A : Option Addr} {m c : Nat} (ht : P.underlying t = some (.slice e)) (hd : Nat.blt d n = true) (hx : ev l x = some (.slice A m c))
    (h : RW P n ops Q rest ((d, .int .i64 (m : Int)) :: l) H) : RW P n ops Q (⟨some d, .call ⟨.builtin .len, #[x], #[t]⟩, ty, pos, af, none⟩ :: rest) l H :=
  RW.val _ hd (fun ρ w hρ => by simp [execOp, resolve, invoke, builtin, Builtin.len_, goInt, run_underlying ht, hρ x _ hx]) h
theorem RW.lenStr {x : Operand} {t : TypeId} {s : ByteArray} (ht : P.underlying t = some .string) (hd : Nat.blt d n = true) (hx : ev l x = some (.string s))
    (h : RW P n ops Q rest ((d, .int .i64 (s.size : Int)) :: l) H) : RW P n ops Q (⟨some d, .call ⟨.builtin .len, #[x], #[t]⟩, ty, pos, af, none⟩ :: rest) l H :=
  RW.val _ hd (fun ρ w hρ => by simp [execOp, resolve, invoke, builtin, Builtin.len_, goInt, run_underlying ht, hρ x _ hx]) h
theorem RW.ixAddr {x i : Operand} {t e sz by_ : Nat} {z : List Value} {A : Option Addr} {ad : Addr} {m c q : Nat} {k : IntKind} {j : Int} (ht : SlT P t e sz by_ z) (hd : Nat.blt d n = true) (hx : ev l x = some (.slice A m c)) (hi : ev l i = some (.int k j))
    (hA : A = some ad) (hj : j = (q : Int)) (hlt : q < m)
    (h : RW P n ops Q rest ((d, .pointer (some (ad.add (q * sz)))) :: l) H) : RW P n ops Q (⟨some d, .indexAddr t x i, ty, pos, af, none⟩ :: rest) l H := by
  subst hA; subst hj
  obtain ⟨inf, zv, hi1, _, _, hs, _⟩ := ht.inf
  refine RW.val _ hd (fun ρ w hρ => ?_) h
  simp [execOp, hρ x _ hx, hρ i _ hi, Instr.indexAt, asIntOf, run_underlying ht.und, run_sizeOf hi1, hs]
  omega
theorem RW.fieldB {x : Operand} {s i off g o : Nat} (ht : FlT P s i off) (hd : Nat.blt d n = true) (hx : ev l x = some (.pointer (some ⟨g, o, none⟩)))
    (h : RW P n ops Q rest ((d, .pointer (some ⟨g, o + off, none⟩)) :: l) H) : RW P n ops Q (⟨some d, .fieldAddr s x i, ty, pos, af, none⟩ :: rest) l H := by
  obtain ⟨fs, f, j, h1, h2, h3, h4, h5⟩ := ht.prf
  refine RW.val _ hd (fun ρ w hρ => ?_) h
  simp [execOp, hρ x _ hx, Instr.fieldAt, run_underlying h1, h2, Instr.sureAddr, fieldPlace, run_sizeOf h3, h4, h5, Addr.add_lit]
theorem RW.fieldP {x : Operand} {s i off : Nat} {p : Addr} (ht : FlT P s i off) (hd : Nat.blt d n = true) (hx : ev l x = some (.pointer (some p)))
    (h : RW P n ops Q rest ((d, .pointer (some (p.add off))) :: l) H) : RW P n ops Q (⟨some d, .fieldAddr s x i, ty, pos, af, none⟩ :: rest) l H := by
  obtain ⟨fs, f, j, h1, h2, h3, h4, h5⟩ := ht.prf
  refine RW.val _ hd (fun ρ w hρ => ?_) h
  simp [execOp, hρ x _ hx, Instr.fieldAt, run_underlying h1, h2, Instr.sureAddr, fieldPlace, run_sizeOf h3, h4, h5]

/- MEMORY THAT IS READ -/
theorem run_loadCellsFrom {w : World} {p : Addr} : ∀ (vs : List Value) (i : Nat) (acc : Array Value), (∀ j u, vs[j]? = some u → w.cell? (p.add (i + j)) = some u) →
    (loadCellsFrom p i vs.length acc).run P w = .ok (acc ++ vs.toArray) w
  | [], i, acc, _ => by simp [loadCellsFrom]
  | v :: vs, i, acc, h => by
    have h0 := h 0 v rfl
    simp only [Nat.add_zero] at h0
    have ih := run_loadCellsFrom vs (i + 1) (acc.push v) (fun j u hu => by
      have := h (j + 1) u (by simpa using hu)
      rwa [show i + (j + 1) = i + 1 + j by omega] at this)
    simp [loadCellsFrom, h0, ih]
theorem RW.load1 {x : Operand} {t : TypeId} {z : Value} {p : Addr} {v : Value} (ht : ScT P t z) (hd : Nat.blt d n = true) (hx : ev l x = some (.pointer (some p)))
    (hc : ∀ w, H w → w.cell? p = some v)
    (h : RW P n ops Q rest ((d, v) :: l) H) : RW P n ops Q (⟨some d, .load t x, ty, pos, af, none⟩ :: rest) l H := by
  obtain ⟨de, h1, h2⟩ := ht.und
  refine RW.valH _ hd (fun ρ w hρ hw => ?_) h
  simp [execOp, hρ x _ hx, Instr.loadAt, Instr.sureAddr, loadVar, run_isAgg h1, h2, hc w hw]
theorem RW.loadA {x : Operand} {t sz : Nat} {z : List Value} {p : Addr} {vs : List Value} (ht : AgT P t sz z) (hd : Nat.blt d n = true) (hx : ev l x = some (.pointer (some p)))
    (hl : vs.length = sz) (hc : ∀ w, H w → ∀ j u, vs[j]? = some u → w.cell? (p.add j) = some u)
    (h : RW P n ops Q rest ((d, .agg vs.toArray) :: l) H) : RW P n ops Q (⟨some d, .load t x, ty, pos, af, none⟩ :: rest) l H := by
  obtain ⟨de, h1, h2⟩ := ht.und
  obtain ⟨i, h3, _, h4⟩ := ht.inf
  refine RW.valH _ hd (fun ρ w hρ hw => ?_) h
  have := run_loadCellsFrom (P := P) (w := w) (p := p) vs 0 #[] (fun j u hu => by simpa using hc w hw j u hu)
  simp [execOp, hρ x _ hx, Instr.loadAt, Instr.sureAddr, loadVar, run_isAgg h1, h2, run_sizeOf h3, h4, loadCells, ← hl, this]
end
end Go.Proofs.Ytjmmikdbhhomiaa.Mq
