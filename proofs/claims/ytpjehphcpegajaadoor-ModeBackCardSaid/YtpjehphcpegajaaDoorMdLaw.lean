/- modes: the plain laws -/
import Derived.Test.YtpjehphcpegajaaDoorMd3
namespace Go.Proofs.YtpjehphcpegajaaDoor.Mq
open Go Go.RowKit Go.Proofs

theorem nameL_inj {p q : Bool} {m n : Int} (h : nameL p m = nameL q n) : p = q ∧ m = n := by
  have key : ∀ (a b : Int), (63 : UInt8) :: Lib.itoa a = Lib.itoa b → False := by
    intro a b e
    rcases itoa_head e.symm with h | h
    · exact absurd h (by decide)
    · simp at h
  cases p <;> cases q
  · simp only [nameL] at h
    exact ⟨rfl, itoa_inj (by simpa using h)⟩
  · simp only [nameL] at h
    exact (key n m (by simpa using h.symm)).elim
  · simp only [nameL] at h
    exact (key m n (by simpa using h)).elim
  · simp only [nameL] at h
    exact ⟨rfl, itoa_inj (by simpa using h)⟩
theorem nameAt_iff {p : Bool} {n : Int} {i : Nat} (hi : i < 18) : nameAt i = nameL p n ↔ placeF p n = some i := by
  obtain ⟨x, hx⟩ : ∃ x, numsL[i]? = some x := ⟨numsL[i]'(by simp [numsL]; omega), List.getElem?_eq_getElem _⟩
  have hna : nameAt i = nameL (decide (2 ≤ i)) x := by rw [nameAt, List.getD_eq_getElem?_getD, hx]; rfl
  constructor
  · intro h
    rw [hna] at h
    obtain ⟨h1, h2⟩ := nameL_inj h
    apply placeF_of
    rw [isAt, hx, h2, ← h1]
    simp
  · intro h
    have := placeF_is h
    simp only [isAt, Bool.and_eq_true, decide_eq_true_eq, beq_iff_eq] at this
    rw [hx] at this
    rw [hna, this.2, Option.some.inj this.1]
theorem nameAt_inj {i j : Nat} (hi : i < 18) (hj : j < 18) (h : nameAt i = nameAt j) : i = j := by
  have h1 : nameAt j = nameL (decide (2 ≤ j)) (numsL.getD j 0) := rfl
  have h2 := (nameAt_iff hi).1 (h.trans h1)
  have h3 := (nameAt_iff hj).1 h1
  exact Option.some.inj (h2.symm.trans h3)
theorem mem_all (p : Bool) (n : Int) : decide (nameL p n ∈ allL) = (placeF p n).isSome := by
  rw [← allL_eq, Bool.eq_iff_iff, decide_eq_true_eq, Option.isSome_iff_exists, List.mem_map]
  constructor
  · rintro ⟨i, hi, h⟩
    exact ⟨i, (nameAt_iff (by simpa using hi)).1 h⟩
  · rintro ⟨i, h⟩
    exact ⟨i, by simpa using placeF_lt h, (nameAt_iff (placeF_lt h)).2 h⟩
theorem mem_list {b i : Nat} (hi : i < 18) : decide (nameAt i ∈ listF b) = bitF b i := by
  rw [Bool.eq_iff_iff, decide_eq_true_eq, listF, listTo, List.mem_map]
  constructor
  · rintro ⟨j, hj, h⟩
    rw [List.mem_filter, List.mem_range] at hj
    rw [← nameAt_inj hj.1 hi h]
    exact hj.2
  · intro h
    exact ⟨i, by rw [List.mem_filter, List.mem_range]; exact ⟨hi, h⟩, rfl⟩
theorem bitF_test (b i : Nat) : bitF b i = b.testBit i := by rw [bitF, Nat.testBit_eq_decide_div_mod_eq]
theorem bit_or (b k i : Nat) : bitF (b ||| 2 ^ k) i = (bitF b i || decide (k = i)) := by
  rw [bitF_test, bitF_test, Nat.testBit_or, Nat.testBit_two_pow]
theorem bit_and (b k i : Nat) (hk : k < 18) (hi : i < 32) : bitF (b &&& (4294967295 - 2 ^ k)) i = (bitF b i && !decide (k = i)) := by
  have h1 : 2 ^ k < 2 ^ 32 := Nat.pow_lt_pow_right (by decide) (by omega)
  have h2 : 4294967295 - 2 ^ k = 2 ^ 32 - (2 ^ k + 1) := by omega
  rw [bitF_test, bitF_test, Nat.testBit_and, h2, Nat.testBit_two_pow_sub_succ h1, Nat.testBit_two_pow]
  simp [hi]
theorem bit_with {b : Nat} {p : Bool} {n : Int} {on : Bool} {i : Nat} (hi : i < 18) : bitF (withF b p n on) i = if placeF p n = some i then on else bitF b i := by
  unfold withF
  cases hp : placeF p n with
  | none => simp
  | some k =>
    have hk := placeF_lt hp
    cases on
    · simp only [Bool.false_eq_true, if_false]
      rw [bit_and _ _ _ hk (by omega)]
      by_cases h : k = i <;> simp [h]
    · simp only [if_true]
      rw [bit_or]
      by_cases h : k = i <;> simp [h]
theorem with_law (b : Nat) (p : Bool) (n : Int) (on : Bool) : withL (listF b) (nameL p n) on = listF (withF b p n on) := by
  unfold withL
  rw [← allL_eq, List.filter_map, listF, listTo]
  congr 1
  refine List.filter_congr fun i hi => ?_
  have hi18 : i < 18 := by simpa using hi
  rw [bit_with hi18]
  simp only [Function.comp_apply, withP]
  by_cases h : nameAt i = nameL p n
  · rw [if_pos h, if_pos ((nameAt_iff hi18).1 h)]
  · rw [if_neg h, if_neg (fun e => h ((nameAt_iff hi18).2 e))]
    exact mem_list hi18
theorem has_law (b : Nat) (p : Bool) (n : Int) : decide (nameL p n ∈ listF b) = isF b p n := by
  unfold isF
  cases hp : placeF p n with
  | some k =>
    have hk := placeF_lt hp
    rw [← (nameAt_iff hk).2 hp]
    exact mem_list hk
  | none =>
    rw [decide_eq_false]
    intro hm
    rw [listF, listTo, List.mem_map] at hm
    obtain ⟨j, hj, h⟩ := hm
    rw [List.mem_filter, List.mem_range] at hj
    rw [(nameAt_iff hj.1).1 h] at hp
    cases hp
theorem isF_with (b : Nat) (p : Bool) (n : Int) (on : Bool) : isF (withF b p n on) p n = ((placeF p n).isSome && on) := by
  unfold isF
  cases hp : placeF p n with
  | none => simp
  | some k =>
    show bitF (withF b p n on) k = _
    rw [bit_with (placeF_lt hp), if_pos hp]; simp
theorem report_law (b : Nat) (p : Bool) (n : Int) (on : Bool) :
    reportF (withF b p n on) p n = [27, 91] ++ nameL p n ++ [59] ++ (if (placeF p n).isSome then (if on then [49] else [50]) else [48]) ++ [36, 121] := by
  unfold reportF
  rw [isF_with]
  cases (placeF p n).isSome <;> cases on <;> rfl
/- sets are equal just if the same modes are set -/
theorem withF_18 {b : Nat} (h : b < 262144) (p : Bool) (n : Int) (on : Bool) : withF b p n on < 262144 := by
  unfold withF
  split
  · exact h
  · rename_i k hk
    have := placeF_lt hk
    split
    · exact Nat.or_lt_two_pow (n := 18) h (Nat.pow_lt_pow_right (by decide) (by omega))
    · exact Nat.lt_of_le_of_lt Nat.and_le_left h
theorem eq_of_bits {a b : Nat} (ha : a < 262144) (hb : b < 262144) (h : ∀ i, i < 18 → bitF a i = bitF b i) : a = b := by
  apply Nat.eq_of_testBit_eq
  intro i
  rcases Nat.lt_or_ge i 18 with hi | hi
  · rw [← bitF_test, ← bitF_test]; exact h i hi
  · have hp : (2 : Nat) ^ 18 ≤ 2 ^ i := Nat.pow_le_pow_right (by decide) hi
    rw [Nat.testBit_lt_two_pow (by omega), Nat.testBit_lt_two_pow (by omega)]
theorem list_inj {a b : Nat} (ha : a < 262144) (hb : b < 262144) : decide (listF a = listF b) = decide (a = b) := by
  rw [decide_eq_decide]
  constructor
  · intro h
    refine eq_of_bits ha hb fun i hi => ?_
    rw [← mem_list hi, ← mem_list hi, h]
  · rintro rfl; rfl
theorem back_law (b : Nat) (p : Bool) (n : Int) (hb : b < 262144) : withF (withF b p n true) p n false = withF b p n false := by
  refine eq_of_bits (withF_18 (withF_18 hb _ _ _) _ _ _) (withF_18 hb _ _ _) fun i hi => ?_
  rw [bit_with hi, bit_with hi, bit_with hi]
  split <;> rfl
theorem kept_law (b : Nat) (p : Bool) (n : Int) (hb : b < 262144) (h : isF b p n = false) : withF b p n false = b := by
  refine eq_of_bits (withF_18 hb _ _ _) hb fun i hi => ?_
  rw [bit_with hi]
  split
  · rename_i he
    rw [isF, he] at h
    exact h.symm
  · rfl
end Go.Proofs.YtpjehphcpegajaaDoor.Mq
