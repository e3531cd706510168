/- plain laws of chapter 16 -/
import Derived.Test.YtkabehgjgicckaaData
namespace Go.Proofs.Ytkabehgjgicckaa.Mq
open Go Go.RowKit Go.Proofs

theorem ib_cases : ∀ (l : List UInt8) (c : UInt8), (c ∉ l ∧ Lib.indexByte l c = -1) ∨ ∃ pre post, l = pre ++ c :: post ∧ c ∉ pre ∧ Lib.indexByte l c = (pre.length : Int)
  | [], c => .inl ⟨by simp, rfl⟩
  | b :: l, c => by
    by_cases hb : b = c
    · subst hb
      exact .inr ⟨[], l, rfl, by simp, by simp [Lib.indexByte]⟩
    · rcases ib_cases l c with ⟨h1, h2⟩ | ⟨pre, post, h1, h2, h3⟩
      · exact .inl ⟨by simp [h1, Ne.symm hb], by simp [Lib.indexByte, hb, h2]⟩
      · refine .inr ⟨b :: pre, post, by rw [h1]; rfl, by simp [h2, Ne.symm hb], ?_⟩
        have : ¬ ((pre.length : Int) = -1) := by omega
        simp [Lib.indexByte, hb, h3, this]
theorem indexByte_in (l : List UInt8) (c : UInt8) : (0 ≤ Lib.indexByte l c) = (l.contains c = true) := by
  rcases ib_cases l c with ⟨h1, h2⟩ | ⟨pre, post, h1, h2, h3⟩
  · rw [h2]; simp [h1]
  · rw [h3, h1]; simp
/- all bytes, one by one -/
theorem all_bytes {p : UInt8 → Prop} (h : ∀ n : _root_.Fin 256, p (UInt8.ofNat n.val)) (c : UInt8) : p c := by
  have := h ⟨c.toNat, c.toNat_lt⟩
  simpa using this
theorem hexU_hexI : ∀ n : _root_.Fin 16, hexI (hexU n.val) = (n.val : Int) := by decide
theorem plain37 : plainB 37 = false := by decide
theorem layB_cases (c : UInt8) : (plainB c = true ∧ c ≠ 37 ∧ layB c = [c]) ∨ (plainB c = false ∧ layB c = [37, hexU (c.toNat / 16), hexU (c.toNat % 16)]) := by
  cases h : plainB c with
  | true => exact .inl ⟨rfl, fun e => (by rw [e, plain37] at h; cases h), by rw [layB, h]; rfl⟩
  | false => exact .inr ⟨rfl, by rw [layB, h]; rfl⟩
theorem two_back (c : UInt8) : twoU (hexU (c.toNat / 16)) (hexU (c.toNat % 16)) = c := by
  have hlt := c.toNat_lt
  have h1 := hexU_hexI ⟨c.toNat / 16, by omega⟩
  have h2 := hexU_hexI ⟨c.toNat % 16, by omega⟩
  dsimp only at h1 h2
  rw [twoU, h1, h2]
  have : 16 * ((c.toNat / 16 : Nat) : Int).toNat + ((c.toNat % 16 : Nat) : Int).toNat = c.toNat := by omega
  rw [this]
  simp
theorem takeL_cons {c : UInt8} (h : c ≠ 37) (t : List UInt8) : takeL (c :: t) = (c :: (takeL t).1, (takeL t).2) := by
  match t with
  | [] => simp [takeL, h]
  | [d] => simp [takeL, h]
  | a :: b :: t => rw [takeL, if_pos h]
theorem takeL_hex {a b : UInt8} (ha : 0 ≤ hexI a) (hb : 0 ≤ hexI b) (t : List UInt8) : takeL (37 :: a :: b :: t) = (twoU a b :: (takeL t).1, (takeL t).2) := by
  rw [takeL, if_neg (by simp), if_pos ⟨ha, hb⟩]
theorem takeL_bad {t : List UInt8} (h : ∀ a b u, t = a :: b :: u → ¬ (0 ≤ hexI a ∧ 0 ≤ hexI b)) : takeL (37 :: t) = (37 :: (takeL t).1, false) := by
  match t, h with
  | [], _ => simp [takeL]
  | [d], _ => simp [takeL]
  | a :: b :: t, h => rw [takeL, if_neg (by simp), if_neg (h a b t rfl)]
/-- what is laid is taken again -/
theorem take_lay (s t : List UInt8) : takeL (layL s ++ t) = (s ++ (takeL t).1, (takeL t).2) := by
  induction s with
  | nil => rfl
  | cons c s ih =>
    have e : layL (c :: s) ++ t = layB c ++ (layL s ++ t) := by simp [layL]
    have hlt := c.toNat_lt
    rw [e]
    rcases layB_cases c with ⟨_, h2, h3⟩ | ⟨_, h2⟩
    · rw [h3, List.singleton_append, takeL_cons h2, ih]; rfl
    · have h3 := hexU_hexI ⟨c.toNat / 16, by omega⟩
      have h4 := hexU_hexI ⟨c.toNat % 16, by omega⟩
      dsimp only at h3 h4
      rw [h2, List.cons_append, List.cons_append, List.cons_append, List.nil_append, takeL_hex (by omega) (by omega), two_back, ih]; rfl
theorem layL_app (s t : List UInt8) : layL (s ++ t) = layL s ++ layL t := by simp [layL]
theorem layL_length (s : List UInt8) : (layL s).length ≤ 3 * s.length := by
  induction s with
  | nil => simp [layL]
  | cons c s ih =>
    have e : layL (c :: s) = layB c ++ layL s := by simp [layL]
    rw [e, List.length_append, List.length_cons]
    rcases layB_cases c with ⟨_, _, h⟩ | ⟨_, h⟩ <;> rw [h] <;> simp <;> omega
theorem takeL_length : ∀ (n : Nat) (s : List UInt8), s.length ≤ n → (takeL s).1.length ≤ s.length
  | _, [], _ => by simp [takeL]
  | 0, _ :: _, h => by simp at h
  | n + 1, c :: t, h => by
    simp only [List.length_cons] at h ⊢
    by_cases hc : c = 37
    · subst hc
      by_cases hh : ∃ a b u, t = a :: b :: u ∧ 0 ≤ hexI a ∧ 0 ≤ hexI b
      · obtain ⟨a, b, u, rfl, h1, h2⟩ := hh
        rw [takeL_hex h1 h2]
        simp only [List.length_cons] at h ⊢
        have := takeL_length n u (by omega)
        omega
      · rw [takeL_bad (fun a b u e hab => hh ⟨a, b, u, e, hab.1, hab.2⟩)]
        have := takeL_length n t (by omega)
        simp only [List.length_cons]
        omega
    · rw [takeL_cons hc]
      have := takeL_length n t (by omega)
      simp only [List.length_cons]
      omega
/- addresses -/
def schemeL : List UInt8 := [102, 105, 108, 101, 58, 47, 47]
def schemeU : List UInt8 := [70, 73, 76, 69, 58, 47, 47]
def lowL (s : List UInt8) : List UInt8 := s.map lowB
def fileL (s : List UInt8) : Option (List UInt8 × List UInt8) :=
  if 7 ≤ s.length ∧ lowL (s.take 7) = schemeL then
    (if Lib.indexByte (s.drop 7) 47 < 0 then none else some ((s.drop 7).take (Lib.indexByte (s.drop 7) 47).toNat, (takeL ((s.drop 7).drop (Lib.indexByte (s.drop 7) 47).toNat)).1))
  else none
set_option maxRecDepth 100000 in
theorem low_char : ∀ (k : _root_.Fin 7) (c : UInt8), (lowB c = schemeL.getD k.val 0) ↔ (c = schemeL.getD k.val 0 ∨ c = schemeU.getD k.val 0) := by
  intro k
  refine all_bytes ?_
  revert k
  decide
end Go.Proofs.Ytkabehgjgicckaa.Mq
