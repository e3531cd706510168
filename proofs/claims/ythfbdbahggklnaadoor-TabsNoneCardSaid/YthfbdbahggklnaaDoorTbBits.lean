/- tabs: words of 64 columns -/
import Derived.Test.YthfbdbahggklnaaDoorTbLaw
import Derived.Lib.ItoaNum
import Derived.Lib.TrailingZeros
namespace Go.Proofs.YthfbdbahggklnaaDoor.Mq
open Go Go.RowKit Go.Proofs

structure Rp (ws : List Nat) (bs : List Bool) : Prop where
  lt : ∀ w ∈ ws, w < 2 ^ 64
  cov : bs.length ≤ 64 * ws.length
  bits : ∀ x, wbit ws x = gb bs x
theorem wbit_at {ws : List Nat} {q w s : Nat} (h : ws[q]? = some w) (hs : s < 64) : wbit ws (64 * q + s) = w.testBit s := by
  have h1 : (64 * q + s) / 64 = q := by omega
  have h2 : (64 * q + s) % 64 = s := by omega
  rw [wbit, h1, h2, List.getD_eq_getElem?_getD, h]
  rfl
theorem wbit_at' {ws : List Nat} {x w : Nat} (h : ws[x / 64]? = some w) : wbit ws x = w.testBit (x % 64) := by
  rw [wbit, List.getD_eq_getElem?_getD, h]
  rfl
theorem word_after {w s : Nat} (h : w < 2 ^ 64) (hs : s < 64) : (w / 2 ^ s = 0 → ∀ i, s ≤ i → w.testBit i = false) ∧
    (w / 2 ^ s ≠ 0 → s + Lib.ctz 64 (w / 2 ^ s) < 64 ∧ w.testBit (s + Lib.ctz 64 (w / 2 ^ s)) = true ∧ ∀ i, s ≤ i → i < s + Lib.ctz 64 (w / 2 ^ s) → w.testBit i = false) := by
  have hd : ∀ j, (w / 2 ^ s).testBit j = w.testBit (s + j) := fun j => by rw [Nat.testBit_div_two_pow, Nat.add_comm]
  constructor
  · intro h0 i hi
    have := hd (i - s)
    rw [h0, Nat.zero_testBit, show s + (i - s) = i by omega] at this
    exact this.symm
  · intro h0
    have hv : w / 2 ^ s < 2 ^ 64 := Nat.lt_of_le_of_lt (Nat.div_le_self _ _) h
    obtain ⟨m, hm, _⟩ := Lib.ctzFrom_spec 64 (w / 2 ^ s) (Nat.pos_of_ne_zero h0) hv
    have hc : Lib.ctz 64 (w / 2 ^ s) = Lib.ctzFrom 64 (w / 2 ^ s) := by
      unfold Lib.ctz
      first | rfl | rw [if_neg h0]
    rw [hc]
    generalize Lib.ctzFrom 64 (w / 2 ^ s) = t at *
    have hbit : ∀ j, (w / 2 ^ s).testBit j = (decide (t ≤ j) && (2 * m + 1).testBit (j - t)) := fun j => by
      rw [hm, Nat.testBit_two_pow_mul]
    have ht : w.testBit (s + t) = true := by
      rw [← hd, hbit]
      simp [Nat.testBit_zero]
    refine ⟨?_, ht, fun i h1 h2 => ?_⟩
    · rcases Nat.lt_or_ge (s + t) 64 with h1 | h1
      · exact h1
      · rw [Nat.testBit_lt_two_pow (Nat.lt_of_lt_of_le h (Nat.pow_le_pow_right (by decide) h1))] at ht
        cases ht
    · have := hd (i - s)
      rw [hbit, show s + (i - s) = i by omega] at this
      rw [← this]
      simp; omega
theorem word_before {w s : Nat} (h : w < 2 ^ 64) (hs : s < 64) : (w * 2 ^ (63 - s) % 2 ^ 64 = 0 → ∀ i, i ≤ s → w.testBit i = false) ∧
    (w * 2 ^ (63 - s) % 2 ^ 64 ≠ 0 → 64 ≤ s + Lib.bitLen (w * 2 ^ (63 - s) % 2 ^ 64) ∧ Lib.bitLen (w * 2 ^ (63 - s) % 2 ^ 64) ≤ 64 ∧ w.testBit (s + Lib.bitLen (w * 2 ^ (63 - s) % 2 ^ 64) - 64) = true ∧
      ∀ i, s + Lib.bitLen (w * 2 ^ (63 - s) % 2 ^ 64) - 64 < i → i ≤ s → w.testBit i = false) := by
  have hb : ∀ i, i < 64 → (w * 2 ^ (63 - s) % 2 ^ 64).testBit i = (decide (63 - s ≤ i) && w.testBit (i - (63 - s))) := fun i hi => by
    rw [Nat.testBit_mod_two_pow, Nat.mul_comm, Nat.testBit_two_pow_mul]
    simp [hi]
  have hlt : w * 2 ^ (63 - s) % 2 ^ 64 < 2 ^ 64 := Nat.mod_lt _ (by decide)
  constructor
  · intro h0 i hi
    have := hb (i + (63 - s)) (by omega)
    rw [h0, Nat.zero_testBit, show i + (63 - s) - (63 - s) = i by omega] at this
    simpa using this.symm
  · intro h0
    obtain ⟨h1, h2, h3⟩ := Lib.bitLenAux_bounds 64 _ hlt h0
    have h4 := Lib.bitLen_le _ 64 (by decide) hlt
    unfold Lib.bitLen at h4 ⊢
    generalize Lib.bitLenAux 64 (w * 2 ^ (63 - s) % 2 ^ 64) = L at *
    generalize w * 2 ^ (63 - s) % 2 ^ 64 = v at *
    have htop : v.testBit (L - 1) = true := by
      rw [Nat.testBit_eq_decide_div_mod_eq]
      have : v / 2 ^ (L - 1) = 1 := by
        apply Nat.div_eq_of_lt_le
        · simpa using h2
        · have : 2 ^ L = 2 * 2 ^ (L - 1) := by rw [← Nat.pow_succ']; congr 1; omega
          omega
      rw [this]; rfl
    have ht := hb (L - 1) (by omega)
    rw [htop] at ht
    have ht' := ht.symm
    simp only [Bool.and_eq_true, decide_eq_true_eq] at ht'
    refine ⟨by omega, h4, ?_, fun i hi1 hi2 => ?_⟩
    · rw [show s + L - 64 = L - 1 - (63 - s) by omega]; exact ht'.2
    · have := hb (i + (63 - s)) (by omega)
      rw [show i + (63 - s) - (63 - s) = i by omega, Nat.testBit_lt_two_pow (Nat.lt_of_lt_of_le h3 (Nat.pow_le_pow_right (by decide) (by omega)))] at this
      simpa using this.symm
/-- a stop set, or cleared -/
theorem or_lt {w s : Nat} (h : w < 2 ^ 64) (hs : s < 64) : w ||| 2 ^ s < 2 ^ 64 := Nat.or_lt_two_pow h (Nat.pow_lt_pow_right (by decide) hs)
theorem Rp.set {ws : List Nat} {bs : List Bool} (h : Rp ws bs) {x w : Nat} (hw : ws[x / 64]? = some w) (hx : x < bs.length) : Rp (ws.set (x / 64) (w ||| 2 ^ (x % 64))) (withB bs (x : Int) true) := by
  have hlt := h.lt w (List.mem_of_getElem? hw)
  have hxl : x / 64 < ws.length := (List.getElem?_eq_some_iff.1 hw).1
  refine ⟨fun u hu => ?_, by rw [withB_len, List.length_set]; exact h.cov, fun y => ?_⟩
  · rcases List.mem_or_eq_of_mem_set hu with hu | rfl
    · exact h.lt u hu
    · exact or_lt hlt (Nat.mod_lt _ (by decide))
  · have hy : wbit (ws.set (x / 64) (w ||| 2 ^ (x % 64))) y = (wbit ws y || decide (x = y)) := by
      unfold wbit
      rw [List.getD_eq_getElem?_getD, List.getElem?_set]
      by_cases hq : x / 64 = y / 64
      · rw [if_pos hq, if_pos hxl, Option.getD_some, Nat.testBit_or, Nat.testBit_two_pow, List.getD_eq_getElem?_getD, ← hq, hw, Option.getD_some]
        congr 1
        rw [decide_eq_decide]
        omega
      · rw [if_neg hq, List.getD_eq_getElem?_getD, decide_eq_false (by rintro rfl; exact hq rfl), Bool.or_false]
    rw [hy, h.bits]
    rcases Nat.lt_or_ge y bs.length with hyl | hyl
    · rw [gb_withB bs x true y hyl]
      by_cases e : x = y
      · subst e; simp
      · rw [decide_eq_false e, if_neg (by omega), Bool.or_false]
    · rw [gb_ge hyl, gb_ge (by rw [withB_len]; exact hyl), decide_eq_false (by omega)]; rfl
theorem Rp.clr {ws : List Nat} {bs : List Bool} (h : Rp ws bs) {x w : Nat} (hw : ws[x / 64]? = some w) (hx : x < bs.length) : Rp (ws.set (x / 64) (w &&& (18446744073709551615 - 2 ^ (x % 64)))) (withB bs (x : Int) false) := by
  have hlt := h.lt w (List.mem_of_getElem? hw)
  have hxl : x / 64 < ws.length := (List.getElem?_eq_some_iff.1 hw).1
  have hp : 2 ^ (x % 64) < 2 ^ 64 := Nat.pow_lt_pow_right (by decide) (Nat.mod_lt _ (by decide))
  refine ⟨fun u hu => ?_, by rw [withB_len, List.length_set]; exact h.cov, fun y => ?_⟩
  · rcases List.mem_or_eq_of_mem_set hu with hu | rfl
    · exact h.lt u hu
    · exact Nat.lt_of_le_of_lt Nat.and_le_left hlt
  · have hy : wbit (ws.set (x / 64) (w &&& (18446744073709551615 - 2 ^ (x % 64)))) y = (wbit ws y && !decide (x = y)) := by
      unfold wbit
      rw [List.getD_eq_getElem?_getD, List.getElem?_set]
      by_cases hq : x / 64 = y / 64
      · have h2 : 18446744073709551615 - 2 ^ (x % 64) = 2 ^ 64 - (2 ^ (x % 64) + 1) := by omega
        have h3 : y % 64 < 64 := Nat.mod_lt _ (by decide)
        rw [if_pos hq, if_pos hxl, Option.getD_some, Nat.testBit_and, h2, Nat.testBit_two_pow_sub_succ hp, Nat.testBit_two_pow, List.getD_eq_getElem?_getD, ← hq, hw, Option.getD_some, decide_eq_true h3, Bool.true_and]
        congr 2
        rw [decide_eq_decide]
        omega
      · rw [if_neg hq, List.getD_eq_getElem?_getD, decide_eq_false (by rintro rfl; exact hq rfl), Bool.not_false, Bool.and_true]
    rw [hy, h.bits]
    rcases Nat.lt_or_ge y bs.length with hyl | hyl
    · rw [gb_withB bs x false y hyl]
      by_cases e : x = y
      · subst e; simp
      · rw [decide_eq_false e, if_neg (by omega), Bool.not_false, Bool.and_true]
    · rw [gb_ge hyl, gb_ge (by rw [withB_len]; exact hyl)]; rfl
theorem Rp.zeros (m n : Nat) (h : n ≤ 64 * m) : Rp (List.replicate m 0) (List.replicate n false) := by
  refine ⟨fun w hw => by rw [List.eq_of_mem_replicate hw]; decide, by simpa using h, fun x => ?_⟩
  have h1 : (List.replicate m 0).getD (x / 64) 0 = 0 := by
    rw [List.getD_eq_getElem?_getD, List.getElem?_replicate]
    split <;> rfl
  have h2 : gb (List.replicate n false) x = false := by
    rw [gb, List.getD_eq_getElem?_getD, List.getElem?_replicate]
    split <;> rfl
  rw [wbit, h1, h2, Nat.zero_testBit]
theorem Rp.app {ws : List Nat} {bs : List Bool} (h : Rp ws bs) : Rp (ws ++ [0]) bs := by
  refine ⟨fun w hw => ?_, by have := h.cov; simp; omega, fun x => ?_⟩
  · rcases List.mem_append.1 hw with hw | hw
    · exact h.lt w hw
    · obtain rfl : w = 0 := by simpa using hw
      decide
  · rw [← h.bits]
    unfold wbit
    rw [List.getD_eq_getElem?_getD, List.getD_eq_getElem?_getD]
    rcases Nat.lt_or_ge (x / 64) ws.length with h1 | h1
    · rw [List.getElem?_append_left h1]
    · rw [List.getElem?_append_right h1, List.getElem?_eq_none h1]
      rcases Nat.eq_zero_or_pos (x / 64 - ws.length) with h2 | h2
      · rw [h2]; rfl
      · rw [List.getElem?_eq_none (by simp only [List.length_singleton]; omega)]
/-- the columns cut off, that are none; or more of them -/
theorem Rp.cut {ws : List Nat} {bs : List Bool} (h : Rp ws bs) (n : Nat) (hn : n ≤ 64 * ws.length) (hc : ∀ y, n ≤ y → gb bs y = false) : Rp ws ((List.range n).map (gb bs)) := by
  refine ⟨h.lt, by simpa using hn, fun x => ?_⟩
  rw [h.bits]
  rcases Nat.lt_or_ge x n with h1 | h1
  · rw [gb, gb, List.getD_eq_getElem?_getD (l := List.map _ _), List.getElem?_map, List.getElem?_range h1]; rfl
  · rw [hc x h1, gb_ge (by simpa using h1)]
/-- where the loop of 'after' stands: the next stop of the word, or none of it -/
theorem Rp.after_hit {ws : List Nat} {bs : List Bool} (h : Rp ws bs) {x0 x w : Nat} (hw : ws[x / 64]? = some w) (hx : x0 < x) (hno : ∀ z, x0 < z → z < x → gb bs z = false) (hv : w / 2 ^ (x % 64) ≠ 0) :
    afterB bs x0 = x + Lib.ctz 64 (w / 2 ^ (x % 64)) ∧ x + Lib.ctz 64 (w / 2 ^ (x % 64)) < bs.length ∧ Lib.ctz 64 (w / 2 ^ (x % 64)) < 64 := by
  have hlt := h.lt w (List.mem_of_getElem? hw)
  have hs : x % 64 < 64 := Nat.mod_lt _ (by decide)
  obtain ⟨h1, h2, h3⟩ := (word_after hlt hs).2 hv
  generalize Lib.ctz 64 (w / 2 ^ (x % 64)) = t at *
  have hb : ∀ i, i < 64 → gb bs (64 * (x / 64) + i) = w.testBit i := fun i hi => by rw [← h.bits, wbit_at hw hi]
  have e : x + t = 64 * (x / 64) + (x % 64 + t) := by omega
  have ht : gb bs (x + t) = true := by rw [e, hb _ h1]; exact h2
  refine ⟨afterB_hit (by omega) ht fun z hz1 hz2 => ?_, gb_lt ht, by omega⟩
  rcases Nat.lt_or_ge z x with h4 | h4
  · exact hno z hz1 h4
  · rw [show z = 64 * (x / 64) + (z - 64 * (x / 64)) by omega, hb _ (by omega)]
    exact h3 _ (by omega) (by omega)
theorem Rp.after_miss {ws : List Nat} {bs : List Bool} (h : Rp ws bs) {x0 x w : Nat} (hw : ws[x / 64]? = some w) (hno : ∀ z, x0 < z → z < x → gb bs z = false) (hv : w / 2 ^ (x % 64) = 0) :
    ∀ z, x0 < z → z < (x / 64 + 1) * 64 → gb bs z = false := by
  have hlt := h.lt w (List.mem_of_getElem? hw)
  have hs : x % 64 < 64 := Nat.mod_lt _ (by decide)
  have h1 := (word_after hlt hs).1 hv
  intro z hz1 hz2
  rcases Nat.lt_or_ge z x with h4 | h4
  · exact hno z hz1 h4
  · rw [show z = 64 * (x / 64) + (z - 64 * (x / 64)) by omega, ← h.bits, wbit_at hw (by omega)]
    exact h1 _ (by omega)
theorem Rp.before_hit {ws : List Nat} {bs : List Bool} (h : Rp ws bs) {x0 x w : Nat} (hw : ws[x / 64]? = some w) (hx : x < x0) (hno : ∀ z, x < z → z < x0 → gb bs z = false) (hv : w * 2 ^ (63 - x % 64) % 2 ^ 64 ≠ 0) :
    (beforeB bs x0 : Int) = x - (64 - (Lib.bitLen (w * 2 ^ (63 - x % 64) % 2 ^ 64) : Int)) := by
  have hlt := h.lt w (List.mem_of_getElem? hw)
  have hs : x % 64 < 64 := Nat.mod_lt _ (by decide)
  obtain ⟨h1, h0, h2, h3⟩ := (word_before hlt hs).2 hv
  generalize Lib.bitLen (w * 2 ^ (63 - x % 64) % 2 ^ 64) = L at *
  have hb : ∀ i, i < 64 → gb bs (64 * (x / 64) + i) = w.testBit i := fun i hi => by rw [← h.bits, wbit_at hw hi]
  have : beforeB bs x0 = 64 * (x / 64) + (x % 64 + L - 64) := by
    refine beforeB_hit (by omega) (by rw [hb _ (by omega)]; exact h2) fun z hz1 hz2 => ?_
    rcases Nat.lt_or_ge x z with h4 | h4
    · exact hno z h4 hz2
    · rw [show z = 64 * (x / 64) + (z - 64 * (x / 64)) by omega, hb _ (by omega)]
      exact h3 _ (by omega) (by omega)
  omega
theorem Rp.before_miss {ws : List Nat} {bs : List Bool} (h : Rp ws bs) {x0 x w : Nat} (hw : ws[x / 64]? = some w) (hno : ∀ z, x < z → z < x0 → gb bs z = false) (hv : w * 2 ^ (63 - x % 64) % 2 ^ 64 = 0) :
    ∀ z, 64 * (x / 64) ≤ z → z < x0 → gb bs z = false := by
  have hlt := h.lt w (List.mem_of_getElem? hw)
  have hs : x % 64 < 64 := Nat.mod_lt _ (by decide)
  have h1 := (word_before hlt hs).1 hv
  intro z hz1 hz2
  rcases Nat.lt_or_ge x z with h4 | h4
  · exact hno z h4 hz2
  · rw [show z = 64 * (x / 64) + (z - 64 * (x / 64)) by omega, ← h.bits, wbit_at hw (by omega)]
    exact h1 _ (by omega)
end Go.Proofs.YthfbdbahggklnaaDoor.Mq
