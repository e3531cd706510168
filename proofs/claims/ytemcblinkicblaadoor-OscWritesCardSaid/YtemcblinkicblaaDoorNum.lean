/- numerals: which texts are one -/
import Derived.Test.YtemcblinkicblaaDoorDig
import Derived.Lib.AtoiAllCases
import Derived.Lib.ParseIntBCases
namespace Go.Proofs.YtemcblinkicblaaDoor.Mq
open Go Go.RowKit Go.Proofs

def stepD (a : Nat) (c : UInt8) : Nat := 10 * a + (c.toNat - 48)
theorem numD_eq (l : List UInt8) : numD l = l.foldl stepD 0 := rfl
theorem numD_snoc (l : List UInt8) (c : UInt8) : numD (l ++ [c]) = 10 * numD l + (c.toNat - 48) := by
  rw [numD_eq, List.foldl_append]; rfl
theorem stepD_mono : ∀ (l : List UInt8) (a : Nat), a ≤ l.foldl stepD a
  | [], _ => Nat.le_refl _
  | c :: l, a => by rw [List.foldl_cons]; exact Nat.le_trans (by unfold stepD; omega) (stepD_mono l _)
def digitB (c : UInt8) : Bool := decide (48 ≤ c.toNat ∧ c.toNat ≤ 57)
theorem dec_num : ∀ (m : Nat) (t : List UInt8), t.length ≤ m → (∀ c ∈ t, digitB c = true) → t ≠ [] → (t.head? = some 48 → t.length = 1) → Lib.decDigits (numD t) = t
  | m, t, hm, hd, hne, h0 => by
    rcases List.eq_nil_or_concat t with rfl | ⟨r, c, rfl⟩
    · exact absurd rfl hne
    · rw [List.concat_eq_append] at *
      have hc := of_decide_eq_true (hd c (by simp))
      rw [numD_snoc]
      by_cases hr : r = []
      · subst hr
        rw [dec_small (show 10 * numD [] + (c.toNat - 48) < 10 by show 10 * 0 + _ < 10; omega), List.nil_append]
        congr 1
        show UInt8.ofNat (48 + (10 * 0 + (c.toNat - 48))) = c
        rw [show 48 + (10 * 0 + (c.toNat - 48)) = c.toNat by omega]
        exact UInt8.ofNat_toNat
      · obtain ⟨x, r2, hx⟩ : ∃ x r2, r = x :: r2 := by cases r with | nil => exact absurd rfl hr | cons x r2 => exact ⟨x, r2, rfl⟩
        have hx48 : x ≠ 48 := fun e => by
          have := h0 (by rw [hx, e]; rfl)
          rw [List.length_append, hx] at this; simp at this
        have hxd := of_decide_eq_true (hd x (by rw [hx]; simp))
        have hpos : 1 ≤ numD r := by
          rw [numD_eq, hx, List.foldl_cons]
          refine Nat.le_trans ?_ (stepD_mono r2 _)
          unfold stepD
          have : x.toNat ≠ 48 := fun e => hx48 (UInt8.toNat_inj.1 e)
          omega
        cases m with
        | zero => simp at hm
        | succ m =>
          rw [dec_big (by omega), show (10 * numD r + (c.toNat - 48)) / 10 = numD r by omega, show (10 * numD r + (c.toNat - 48)) % 10 = c.toNat - 48 by omega,
            dec_num m r (by rw [List.length_append] at hm; simp at hm; omega) (fun y hy => hd y (by simp [hy])) hr (fun e => by rw [hx] at e; simp at e; exact absurd e hx48)]
          congr 2
          rw [show 48 + (c.toNat - 48) = c.toNat by omega]
          exact UInt8.ofNat_toNat
theorem dec_head {u : Nat} (h : 1 ≤ u) : (Lib.decDigits u).head? ≠ some 48 := by
  induction u using Nat.strongRecOn with
  | _ u ih =>
    by_cases h1 : u < 10
    · rw [dec_small h1]
      intro e
      have e2 : UInt8.ofNat (48 + u) = 48 := by simpa using e
      have := congrArg UInt8.toNat e2
      rw [UInt8.toNat_ofNat'] at this
      have : (48 : UInt8).toNat = 48 := rfl
      omega
    · rw [dec_big h1]
      have := ih (u / 10) (by omega) (by omega)
      cases hd : Lib.decDigits (u / 10) with
      | nil => exact absurd hd (dec_ne _)
      | cons c l => rw [hd] at this; simpa using this
theorem dec_len {k : Nat} : ∀ {u : Nat}, u < 10 ^ (k + 1) → (Lib.decDigits u).length ≤ k + 1 := by
  induction k with
  | zero => intro u h; rw [dec_small (by simpa using h)]; simp
  | succ k ih =>
    intro u h
    by_cases h1 : u < 10
    · rw [dec_small h1]; simp
    · rw [dec_big h1, List.length_append]
      have := ih (u := u / 10) (by rw [Nat.div_lt_iff_lt_mul (by decide)]; rw [← Nat.pow_succ]; exact h)
      simp; omega
theorem dec_all (u : Nat) : ∀ c ∈ Lib.decDigits u, digitB c = true := fun c hc => decide_eq_true (dec_digit u c hc)
def In64 (n : Int) : Prop := -9223372036854775808 ≤ n ∧ n ≤ 9223372036854775807
instance (n : Int) : Decidable (In64 n) := by unfold In64; exact inferInstance
def svalF (s : List UInt8) : Int := if s.head? = some 45 then -(numD s.tail : Int) else (numD s : Int)
/-- the number that a text is -/
def numF (s : List UInt8) : Option Int := if Lib.itoa (svalF s) = s ∧ In64 (svalF s) then some (svalF s) else none
theorem itoa_pos {n : Int} (h : 0 ≤ n) : Lib.itoa n = Lib.decDigits n.toNat := by unfold Lib.itoa; rw [if_neg (by omega)]
theorem itoa_lt {n : Int} (h : n < 0) : Lib.itoa n = 45 :: Lib.decDigits n.natAbs := by unfold Lib.itoa; rw [if_pos h]
theorem dec_head45 (u : Nat) : (Lib.decDigits u).head? ≠ some 45 := by
  intro e
  cases hd : Lib.decDigits u with
  | nil => exact dec_ne u hd
  | cons c l =>
    rw [hd] at e
    have hc := dec_digit u c (by rw [hd]; simp)
    have : c = 45 := by simpa using e
    subst this
    revert hc; decide
theorem sval_itoa (n : Int) : svalF (Lib.itoa n) = n := by
  unfold svalF
  by_cases h : n < 0
  · rw [itoa_lt h, List.head?_cons, if_pos rfl, List.tail_cons, numD_dec]; omega
  · rw [itoa_pos (by omega), if_neg (dec_head45 _), numD_dec]; omega
theorem numF_iff {s : List UInt8} {n : Int} : numF s = some n ↔ Lib.itoa n = s ∧ In64 n := by
  unfold numF
  constructor
  · intro h
    split at h
    · rename_i h1; cases h; exact h1
    · cases h
  · rintro ⟨rfl, h⟩
    rw [sval_itoa, if_pos ⟨rfl, h⟩]
theorem numF_none {s : List UInt8} : numF s = none ↔ ∀ n, In64 n → Lib.itoa n ≠ s := by
  constructor
  · intro h n hn e
    rw [numF_iff.2 ⟨e, hn⟩] at h; cases h
  · intro h
    cases hs : numF s with
    | none => rfl
    | some n => exact absurd (numF_iff.1 hs).1 (h n (numF_iff.1 hs).2)
/-- what the reference asks of a text of a number -/
def numOk (s : List UInt8) : Prop :=
  let neg := s.head? = some 45
  let t := if s.head? = some 45 then s.tail else s
  1 ≤ t.length ∧ t.length ≤ 19 ∧ ¬ (t.head? = some 48 ∧ (1 < t.length ∨ neg)) ∧ (∀ c ∈ t, digitB c = true) ∧ (neg → numD t ≤ 9223372036854775808) ∧ (¬ neg → numD t ≤ 9223372036854775807)
theorem numOk_some {s : List UInt8} (h : numOk s) : numF s = some (svalF s) := by
  have hs : svalF s = svalF s := rfl
  conv at hs => rhs; unfold svalF
  unfold numOk at h
  rw [numF_iff]
  by_cases hn : s.head? = some 45
  · simp only [hn, if_true, or_true, and_true, true_implies, not_true_eq_false, false_implies] at h
    obtain ⟨h1, h2, h3, h4, h5⟩ := h
    rw [if_pos hn] at hs
    have h48 : s.tail.head? = some 48 → s.tail.length = 1 := fun e => absurd e h3
    have hd := dec_num _ s.tail (Nat.le_refl _) h4 (List.length_pos_iff.1 h1) h48
    have hpos : 1 ≤ numD s.tail := by
      rcases Nat.eq_zero_or_pos (numD s.tail) with e | e
      · rw [e, dec_small (by decide)] at hd
        rw [← hd] at h3
        exact absurd rfl h3
      · exact e
    have hsc : s = 45 :: s.tail := by
      cases s with
      | nil => simp at hn
      | cons c r => rw [List.head?_cons] at hn; rw [Option.some.inj hn]; rfl
    rw [hs]
    refine ⟨?_, by unfold In64; omega⟩
    rw [itoa_lt (by omega), show (-(numD s.tail : Int)).natAbs = numD s.tail by omega, hd]
    exact hsc.symm
  · simp only [hn, if_false, or_false, false_implies, not_false_eq_true, true_implies] at h
    obtain ⟨h1, h2, h3, h4, h6, h5⟩ := h
    rw [if_neg hn] at hs
    have h48 : s.head? = some 48 → s.length = 1 := fun e => by
      rcases Nat.lt_or_ge 1 s.length with h | h
      · exact absurd ⟨e, h⟩ h3
      · omega
    rw [hs]
    refine ⟨?_, by unfold In64; omega⟩
    rw [itoa_pos (by omega), Int.toNat_natCast]
    exact dec_num _ s (Nat.le_refl _) h4 (List.length_pos_iff.1 h1) h48
theorem numOk_of {s : List UInt8} {n : Int} (h : Lib.itoa n = s) (hn : In64 n) : numOk s := by
  have hlen : ∀ u : Nat, u ≤ 9223372036854775808 → (Lib.decDigits u).length ≤ 19 := fun u hu => dec_len (k := 18) (by omega)
  unfold In64 at hn
  subst h
  unfold numOk
  by_cases h0 : n < 0
  · rw [itoa_lt h0]
    simp only [List.head?_cons, if_true, List.tail_cons, or_true, and_true, true_implies, not_true_eq_false, false_implies]
    refine ⟨List.length_pos_iff.2 (dec_ne _), hlen _ (by omega), dec_head (by omega), dec_all _, ?_⟩
    rw [numD_dec]; omega
  · rw [itoa_pos (by omega)]
    have h45 := dec_head45 n.toNat
    simp only [h45, if_false, or_false, false_implies, not_false_eq_true, true_implies]
    refine ⟨List.length_pos_iff.2 (dec_ne _), hlen _ (by omega), ?_, dec_all _, trivial, ?_⟩
    · rintro ⟨e, hl⟩
      rcases Nat.eq_zero_or_pos n.toNat with e0 | e0
      · rw [e0, dec_small (by decide)] at hl; simp at hl
      · exact dec_head e0 e
    · rw [numD_dec]; omega
theorem numOk_none {s : List UInt8} (h : ¬ numOk s) : numF s = none := numF_none.2 fun _ hn e => h (numOk_of e hn)
/- Atoi, ParseUint of numerals -/
theorem parse_ok : ∀ (l : List UInt8) (acc : Nat), (∀ c ∈ l, digitB c = true) → l.foldl stepD acc < 18446744073709551616 → Lib.parseUint10 acc l = .ok (l.foldl stepD acc)
  | [], _, _, _ => rfl
  | c :: r, acc, hd, hb => by
    have hc := of_decide_eq_true (hd c (by simp))
    rw [List.foldl_cons] at hb ⊢
    have hm := stepD_mono r (stepD acc c)
    have e0 : 10 * acc ≤ stepD acc c := by unfold stepD; omega
    have e : acc * 10 + (c.toNat - 48) = stepD acc c := by unfold stepD; omega
    unfold Lib.parseUint10
    rw [if_pos hc, if_neg (by omega), if_neg (by omega), e]
    exact parse_ok r _ (fun x hx => hd x (by simp [hx])) hb
theorem atoi_itoa {n : Int} (h : In64 n) : Lib.atoiAll (Lib.itoa n) = .ok n := by
  have hp : ∀ u : Nat, u ≤ 9223372036854775808 → Lib.parseMag (Lib.decDigits u) = .ok u := fun u hu => by
    unfold Lib.parseMag
    rw [if_neg (dec_ne u), parse_ok _ _ (dec_all u) (by rw [← numD_eq, numD_dec]; omega), ← numD_eq, numD_dec]
  unfold In64 at h
  by_cases h0 : n < 0
  · rw [itoa_lt h0, Lib.atoiAll_minus, hp _ (by omega)]
    simp only [Lib.signed]
    rw [if_neg (by omega)]
    congr 1; omega
  · rw [itoa_pos (by omega)]
    cases hd : Lib.decDigits n.toNat with
    | nil => exact absurd hd (dec_ne _)
    | cons c l =>
      have hc := dec_digit n.toNat c (by rw [hd]; simp)
      rw [Lib.atoiAll_plain c l (by omega) (by omega), ← hd, hp _ (by omega)]
      simp only [Lib.signless]
      rw [if_neg (by omega)]
      congr 1; omega
theorem parseU_ok : ∀ (l : List UInt8) (acc : Nat), (∀ c ∈ l, digitB c = true) → l.foldl stepD acc < 18446744073709551616 → Lib.parseUintM (2 ^ 64 - 1) acc l = .ok (l.foldl stepD acc)
  | [], _, _, _ => rfl
  | c :: r, acc, hd, hb => by
    have hc := of_decide_eq_true (hd c (by simp))
    rw [List.foldl_cons] at hb ⊢
    have hm := stepD_mono r (stepD acc c)
    have e0 : 10 * acc ≤ stepD acc c := by unfold stepD; omega
    have e : acc * 10 + (c.toNat - 48) = stepD acc c := by unfold stepD; omega
    unfold Lib.parseUintM
    rw [if_pos hc, if_neg (by omega), if_neg (by omega), e]
    exact parseU_ok r _ (fun x hx => hd x (by simp [hx])) hb
theorem parseU_dec {u : Nat} (h : u < 18446744073709551616) : Lib.parseUintB 64 (Lib.decDigits u) = .ok u := by
  unfold Lib.parseUintB
  rw [if_neg (dec_ne u), parseU_ok _ _ (dec_all u) (by rw [← numD_eq, numD_dec]; omega), ← numD_eq, numD_dec]
/-- the number without a sign that a text is -/
def idF (s : List UInt8) : Option Nat := if Lib.decDigits (numD s) = s ∧ numD s < 18446744073709551616 then some (numD s) else none
theorem idF_iff {s : List UInt8} {n : Nat} : idF s = some n ↔ Lib.decDigits n = s ∧ n < 18446744073709551616 := by
  unfold idF
  constructor
  · intro h
    split at h
    · rename_i h1; cases h; exact h1
    · cases h
  · rintro ⟨rfl, h⟩
    rw [numD_dec, if_pos ⟨rfl, h⟩]
end Go.Proofs.YtemcblinkicblaaDoor.Mq
