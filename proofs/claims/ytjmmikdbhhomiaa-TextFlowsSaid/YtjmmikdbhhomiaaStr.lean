/-
  RULES FOR STRINGS AND FOR WHAT ELSE THE FUNCTIONS NEED.
-/
import Derived.Test.YtjmmikdbhhomiaaDraw
import Derived.Laws.Strings
namespace Go.Proofs.Ytjmmikdbhhomiaa.Mq
open Go Go.RowKit

section
variable {P : Program} {n : Nat} {ops : Array Oper} {Q : Post} {rest : List Oper} {l : Fr} {H : World → Prop} {d : Nat} {ty : TypeId} {pos : String} {af : Array Edge}
variable {xt yt : TypeId} {x y : Operand} {k : IntKind} {a b : Int}
theorem RW.remN (hd : Nat.blt d n = true) (hx : ev l x = some (.int k a)) (hy : ev l y = some (.int k b)) (h0 : 0 ≤ a) (hb : 0 < b)
    (h : RW P n ops Q rest ((d, .int k (a % b)) :: l) H) : RW P n ops Q (⟨some d, .binOp .rem xt x y yt, ty, pos, af, none⟩ :: rest) l H :=
  RW.rem hd hx hy (by omega) (Int.tmod_eq_emod_of_nonneg h0) h
theorem RW.quoN (hd : Nat.blt d n = true) (hx : ev l x = some (.int .i64 a)) (hy : ev l y = some (.int .i64 b)) (h0 : 0 ≤ a) (hb : 0 < b) (hm : a ≤ 9223372036854775807)
    (h : RW P n ops Q rest ((d, .int .i64 (a / b)) :: l) H) : RW P n ops Q (⟨some d, .binOp .quo xt x y yt, ty, pos, af, none⟩ :: rest) l H :=
  RW.quo hd hx hy (by omega) (by
    rw [Int.tdiv_eq_ediv_of_nonneg h0]
    have h1 : 0 ≤ a / b := Int.ediv_nonneg h0 (by omega)
    have h2 : a / b ≤ a := Int.ediv_le_self _ h0
    exact wrap64 (by omega) (by omega)) h
theorem RW.neg_ {r : Int} (hd : Nat.blt d n = true) (hx : ev l x = some (.int k a)) (hr : k.wrap (0 - a) = r)
    (h : RW P n ops Q rest ((d, .int k r) :: l) H) : RW P n ops Q (⟨some d, .unOp .neg xt x, ty, pos, af, none⟩ :: rest) l H :=
  RW.val _ hd (fun ρ w hρ => by simp [execOp, hρ x _ hx, Op.unary, Op.intArith] at hr ⊢; exact hr) h
section
/- STRINGS, AS LISTS OF BYTES -/
abbrev bs (s : List UInt8) : ByteArray := ⟨s.toArray⟩
theorem bs_self (s : ByteArray) : bs s.data.toList = s := by cases s; simp [bs]
theorem bs_size (s : List UInt8) : (bs s).size = s.length := by simp [bs, ByteArray.size]
theorem bs_app (s t : List UInt8) : bs s ++ bs t = bs (s ++ t) := by
  apply ByteArray.ext
  simp [bs]
theorem bs_toList (s : List UInt8) : (bs s).toList = s := ByteArray.toList_mk s
variable {s t : List UInt8} {tt : TypeId}
theorem RW.lenS (ht : P.underlying tt = some .string) (hd : Nat.blt d n = true) (hx : ev l x = some (.string (bs s)))
    (h : RW P n ops Q rest ((d, .int .i64 (s.length : Int)) :: l) H) : RW P n ops Q (⟨some d, .call ⟨.builtin .len, #[x], #[tt]⟩, ty, pos, af, none⟩ :: rest) l H :=
  RW.val _ hd (fun ρ w hρ => by
    have e := bs_size s
    simp [execOp, resolve, invoke, builtin, Builtin.len_, goInt, run_underlying ht, hρ x _ hx, e]) h
theorem RW.catS (hd : Nat.blt d n = true) (hx : ev l x = some (.string (bs s))) (hy : ev l y = some (.string (bs t))) (hl : ((s.length + t.length : Nat) : Int) ≤ 9223372036854775807)
    (h : RW P n ops Q rest ((d, .string (bs (s ++ t))) :: l) H) : RW P n ops Q (⟨some d, .binOp .add xt x y yt, ty, pos, af, none⟩ :: rest) l H :=
  RW.val _ hd (fun ρ w hρ => by
    have hn : ¬ (((bs s).size + (bs t).size : Nat) : Int) > IntKind.i64.max := by rw [bs_size, bs_size, IntKind.max_i64]; omega
    simp only [execOp, hρ x _ hx, hρ y _ hy, eqGuard, binOp, Op.stringOp, if_neg hn, bs_app]
    simp) h
theorem RW.eqlS (hd : Nat.blt d n = true) (hx : ev l x = some (.string (bs s))) (hy : ev l y = some (.string (bs t)))
    (h : RW P n ops Q rest ((d, .bool (decide (s = t))) :: l) H) : RW P n ops Q (⟨some d, .binOp .eql xt x y yt, ty, pos, af, none⟩ :: rest) l H :=
  RW.val _ hd (fun ρ w hρ => by
    have e : ((bs s).toList == (bs t).toList) = decide (s = t) := by
      rw [bs_toList, bs_toList]
      by_cases hst : s = t <;> simp [hst]
    simp only [execOp, hρ x _ hx, hρ y _ hy, eqGuard, binOp, Op.stringOp, e]
    simp) h
theorem RW.neqS (hd : Nat.blt d n = true) (hx : ev l x = some (.string (bs s))) (hy : ev l y = some (.string (bs t)))
    (h : RW P n ops Q rest ((d, .bool (decide (s ≠ t))) :: l) H) : RW P n ops Q (⟨some d, .binOp .neq xt x y yt, ty, pos, af, none⟩ :: rest) l H :=
  RW.val _ hd (fun ρ w hρ => by
    have e : ((bs s).toList == (bs t).toList) = decide (s = t) := by
      rw [bs_toList, bs_toList]
      by_cases hst : s = t <;> simp [hst]
    simp only [execOp, hρ x _ hx, hρ y _ hy, eqGuard, binOp, Op.stringOp, e]
    simp) h
theorem RW.ixStr {i : Operand} {q : Nat} {j : Int} {c : UInt8} (ht : P.underlying tt = some .string) (hd : Nat.blt d n = true) (hx : ev l x = some (.string (bs s))) (hi : ev l i = some (.int k j)) (hj : j = (q : Int)) (hc : s[q]? = some c)
    (h : RW P n ops Q rest ((d, .int .u8 (c.toNat : Int)) :: l) H) : RW P n ops Q (⟨some d, .index tt x i, ty, pos, af, none⟩ :: rest) l H := by
  subst hj
  refine RW.val _ hd (fun ρ w hρ => ?_) h
  have hlt : q < s.length := (List.getElem?_eq_some_iff.1 hc).1
  have e : (bs s)[q]? = some c := by
    rw [ByteArray.getElem?_lt' _ _ (by rw [bs_size]; exact hlt)]
    rw [List.getElem?_eq_getElem hlt] at hc
    rw [← hc]
    rfl
  simp [execOp, hρ x _ hx, hρ i _ hi, Instr.index, asIntOf, run_underlying ht, e]
theorem bs_extract (s : List UInt8) (lo hi : Nat) : (bs s).extract lo hi = bs ((s.take hi).drop lo) := by
  apply ByteArray.ext
  simp [bs, List.drop_take]
theorem run_sliceS {w : World} {lo hi : Option Value} {a b : Nat} (ht : P.underlying tt = some .string) (hlo : lo = some (.int k (a : Int)) ∨ lo = none ∧ a = 0) (hhi : hi = some (.int k (b : Int)) ∨ hi = none ∧ b = s.length) (h1 : a ≤ b) (h2 : b ≤ s.length) :
    (Instr.slice tt (.string (bs s)) lo hi none).run P w = .ok (.string (bs ((s.take b).drop a))) w := by
  have hsz := bs_size s
  unfold Instr.slice Instr.sliceBounds
  rcases hlo with rfl | ⟨rfl, rfl⟩ <;> rcases hhi with rfl | ⟨rfl, rfl⟩ <;>
    simp [run_underlying ht, Instr.sliceBound, asIntOf, hsz, bs_extract, h1, h2]
theorem RW.sliceStrLH {lo hi : Operand} {u v : Int} (a b : Nat) (ht : P.underlying tt = some .string) (hd : Nat.blt d n = true) (hx : ev l x = some (.string (bs s))) (hlo : ev l lo = some (.int .i64 u)) (hhi : ev l hi = some (.int .i64 v)) (hu : u = (a : Int)) (hv : v = (b : Int)) (h1 : a ≤ b) (h2 : b ≤ s.length)
    (h : RW P n ops Q rest ((d, .string (bs ((s.take b).drop a))) :: l) H) : RW P n ops Q (⟨some d, .slice tt x (some lo) (some hi) none, ty, pos, af, none⟩ :: rest) l H := by
  subst hu; subst hv
  refine RW.val _ hd (fun ρ w hρ => ?_) h
  have := run_sliceS (k := .i64) (w := w) (lo := some (.int .i64 (a : Int))) (hi := some (.int .i64 (b : Int))) ht (.inl rfl) (.inl rfl) h1 h2
  simp [execOp, hρ x _ hx, hρ lo _ hlo, hρ hi _ hhi, Instr.sliceAt, run_underlying ht, this]
theorem RW.sliceStrL {lo : Operand} {u : Int} (a : Nat) (ht : P.underlying tt = some .string) (hd : Nat.blt d n = true) (hx : ev l x = some (.string (bs s))) (hlo : ev l lo = some (.int .i64 u)) (hu : u = (a : Int)) (h1 : a ≤ s.length)
    (h : RW P n ops Q rest ((d, .string (bs (s.drop a))) :: l) H) : RW P n ops Q (⟨some d, .slice tt x (some lo) none none, ty, pos, af, none⟩ :: rest) l H := by
  subst hu
  refine RW.val _ hd (fun ρ w hρ => ?_) h
  have := run_sliceS (k := .i64) (w := w) (lo := some (.int .i64 (a : Int))) (hi := none) ht (.inl rfl) (.inr ⟨rfl, rfl⟩) h1 (Nat.le_refl s.length)
  rw [List.take_length] at this
  simp [execOp, hρ x _ hx, hρ lo _ hlo, Instr.sliceAt, run_underlying ht, this]
theorem RW.sliceStrH {hi : Operand} {v : Int} (b : Nat) (ht : P.underlying tt = some .string) (hd : Nat.blt d n = true) (hx : ev l x = some (.string (bs s))) (hhi : ev l hi = some (.int .i64 v)) (hv : v = (b : Int)) (h2 : b ≤ s.length)
    (h : RW P n ops Q rest ((d, .string (bs (s.take b))) :: l) H) : RW P n ops Q (⟨some d, .slice tt x none (some hi) none, ty, pos, af, none⟩ :: rest) l H := by
  subst hv
  refine RW.val _ hd (fun ρ w hρ => ?_) h
  have := run_sliceS (k := .i64) (w := w) (lo := none) (hi := some (.int .i64 (b : Int))) ht (.inr ⟨rfl, rfl⟩) (.inl rfl) (Nat.zero_le _) h2
  rw [List.drop_zero] at this
  simp [execOp, hρ x _ hx, hρ hi _ hhi, Instr.sliceAt, run_underlying ht, this]
theorem run_equal {t : TypeId} {u v : Value} {r : Bool} {w w' : World} (h : ∀ e : Nat, (Op.equalIn (e + 1) t u v).run P w = .ok r w') : (Op.equal t u v).run P w = .ok r w' := h 9999
theorem run_equalIn_bool {e : Nat} {t : TypeId} {p q : Bool} {w : World} (ht : P.underlying t = some .bool) : (Op.equalIn (e + 1) t (.bool p) (.bool q)).run P w = .ok (p == q) w := by
  simp [Op.equalIn, run_underlying ht]
theorem RW.eqlB {p q : Bool} (ht : P.underlying xt = some .bool) (hd : Nat.blt d n = true) (hx : ev l x = some (.bool p)) (hy : ev l y = some (.bool q))
    (h : RW P n ops Q rest ((d, .bool (p == q)) :: l) H) : RW P n ops Q (⟨some d, .binOp .eql xt x y yt, ty, pos, af, none⟩ :: rest) l H :=
  RW.val _ hd (fun ρ w hρ => by
    have e := run_equal (fun e => run_equalIn_bool (P := P) (e := e) (p := p) (q := q) (w := w) ht)
    simp [execOp, hρ x _ hx, hρ y _ hy, eqGuard, binOp, e]) h
theorem RW.neqB {p q : Bool} (ht : P.underlying xt = some .bool) (hd : Nat.blt d n = true) (hx : ev l x = some (.bool p)) (hy : ev l y = some (.bool q))
    (h : RW P n ops Q rest ((d, .bool (!(p == q))) :: l) H) : RW P n ops Q (⟨some d, .binOp .neq xt x y yt, ty, pos, af, none⟩ :: rest) l H :=
  RW.val _ hd (fun ρ w hρ => by
    have e := run_equal (fun e => run_equalIn_bool (P := P) (e := e) (p := p) (q := q) (w := w) ht)
    simp [execOp, hρ x _ hx, hρ y _ hy, eqGuard, binOp, e]) h
end
end
end Go.Proofs.Ytjmmikdbhhomiaa.Mq
