/- tape and dump: words of data; words with blanks between -/
import Derived.Test.YtemcblinkicblaaDoorNum
import Derived.Test.YtemcblinkicblaaDoorSpl
namespace Go.Proofs.YtemcblinkicblaaDoor.Mq
open Go Go.RowKit Go.Proofs

def hexDig (k : Nat) : UInt8 := if k < 10 then UInt8.ofNat (48 + k) else UInt8.ofNat (87 + k)
def hex2 (c : UInt8) : List UInt8 := [hexDig (c.toNat / 16), hexDig (c.toNat % 16)]
def hexP (s : List UInt8) : List UInt8 := s.flatMap hex2
/-- data's word -/
def hexT (s : List UInt8) : List UInt8 := 61 :: hexP s
theorem hexP_len (s : List UInt8) : (hexP s).length = 2 * s.length := by
  induction s with
  | nil => rfl
  | cons c s ih => rw [hexP, List.flatMap_cons, List.length_append, ← hexP, ih]; simp [hex2]; omega
theorem hexP_snoc (s : List UInt8) (c : UInt8) : hexP (s ++ [c]) = hexP s ++ hex2 c := by simp [hexP]
theorem hexDig_mem : ∀ k, k < 16 → (48 ≤ (hexDig k).toNat ∧ (hexDig k).toNat ≤ 57) ∨ (97 ≤ (hexDig k).toNat ∧ (hexDig k).toNat ≤ 102) := by decide
theorem hexP_mem {s : List UInt8} {c : UInt8} (h : c ∈ hexP s) : (48 ≤ c.toNat ∧ c.toNat ≤ 57) ∨ (97 ≤ c.toNat ∧ c.toNat ≤ 102) := by
  obtain ⟨x, _, hx⟩ := List.mem_flatMap.1 h
  have hl := UInt8.toNat_lt x
  simp only [hex2, List.mem_cons, List.not_mem_nil, or_false] at hx
  rcases hx with rfl | rfl
  · exact hexDig_mem _ (by omega)
  · exact hexDig_mem _ (by omega)
def hexV (c : UInt8) : Option Nat := if 48 ≤ c.toNat ∧ c.toNat ≤ 57 then some (c.toNat - 48) else if 97 ≤ c.toNat ∧ c.toNat ≤ 102 then some (c.toNat - 87) else none
theorem hexV_dig : ∀ k, k < 16 → hexV (hexDig k) = some k := by decide
theorem hexV_eq {c : UInt8} {k : Nat} (h : hexV c = some k) : k < 16 ∧ hexDig k = c := by
  unfold hexV at h
  split at h
  · rename_i h1
    cases h
    refine ⟨by omega, ?_⟩
    unfold hexDig
    rw [if_pos (by omega), show 48 + (c.toNat - 48) = c.toNat by omega]
    exact UInt8.ofNat_toNat
  · split at h
    · rename_i h1
      cases h
      refine ⟨by omega, ?_⟩
      unfold hexDig
      rw [if_neg (by omega), show 87 + (c.toNat - 87) = c.toNat by omega]
      exact UInt8.ofNat_toNat
    · cases h
def unhexP : List UInt8 → Option (List UInt8)
  | [] => some []
  | [_] => none
  | a :: b :: r => match hexV a, hexV b, unhexP r with
    | some x, some y, some l => some (UInt8.ofNat (16 * x + y) :: l)
    | _, _, _ => none
theorem unhex_hex : ∀ s : List UInt8, unhexP (hexP s) = some s
  | [] => rfl
  | c :: s => by
    have hl := UInt8.toNat_lt c
    rw [hexP, List.flatMap_cons, ← hexP]
    show unhexP (hexDig (c.toNat / 16) :: hexDig (c.toNat % 16) :: hexP s) = _
    rw [unhexP, hexV_dig _ (by omega), hexV_dig _ (by omega), unhex_hex s]
    dsimp only
    rw [show 16 * (c.toNat / 16) + c.toNat % 16 = c.toNat by omega]
    congr 2
    exact UInt8.ofNat_toNat
theorem hex_unhex : ∀ (m : Nat) (r l : List UInt8), r.length ≤ m → unhexP r = some l → r = hexP l
  | _, [], l, _, h => by cases h; rfl
  | _, [_], l, _, h => by cases h
  | 0, _ :: _ :: _, _, hm, _ => by simp at hm
  | m + 1, a :: b :: r, l, hm, h => by
    rw [unhexP] at h
    cases ha : hexV a with
    | none => rw [ha] at h; cases h
    | some x =>
      cases hb : hexV b with
      | none => rw [ha, hb] at h; cases h
      | some y =>
        cases hr : unhexP r with
        | none => rw [ha, hb, hr] at h; cases h
        | some l2 =>
          rw [ha, hb, hr] at h
          cases h
          obtain ⟨hx, rfl⟩ := hexV_eq ha
          obtain ⟨hy, rfl⟩ := hexV_eq hb
          have ih := hex_unhex m r l2 (by simp at hm; omega) hr
          rw [hexP, List.flatMap_cons, ← hexP, ← ih, hex2]
          have e : (UInt8.ofNat (16 * x + y)).toNat = 16 * x + y := by rw [UInt8.toNat_ofNat']; omega
          rw [e, show (16 * x + y) / 16 = x by omega, show (16 * x + y) % 16 = y by omega]
          rfl
theorem hexP_inj {s t : List UInt8} (h : hexP s = hexP t) : s = t := by
  have := unhex_hex s
  rw [h, unhex_hex t] at this
  exact (Option.some.inj this).symm
/-- the data of a word, and an error's number -/
def dataF : List UInt8 → List UInt8 × Nat
  | 61 :: r => match unhexP r with
    | some l => if l.length ≤ 65536 then (l, 0) else ([], 3)
    | none => ([], 4)
  | _ => ([], 4)
theorem dataF_hex {s : List UInt8} (h : s.length ≤ 65536) : dataF (hexT s) = (s, 0) := by
  show (match unhexP (hexP s) with | some l => if l.length ≤ 65536 then (l, 0) else ([], 3) | none => ([], 4)) = (s, 0)
  rw [unhex_hex]
  dsimp only
  rw [if_pos h]
/- words -/
theorem joinTwo (x y : List UInt8) (r : List (List UInt8)) (s : UInt8) : Lib.join (x :: y :: r) [s] = x ++ s :: Lib.join (y :: r) [s] := by
  rw [Lib.join_cons, Lib.join_cons]
  simp [Lib.joinTail]
theorem full_join (s : UInt8) : ∀ (L : List (List UInt8)), L ≠ [] → (∀ x ∈ L, s ∉ x) → fullP s (Lib.join L [s]) = L
  | [], h, _ => absurd rfl h
  | [x], _, hs => by rw [Lib.join_one, fullP_out (hs x (by simp))]
  | x :: y :: r, _, hs => by
    rw [joinTwo, fullP_cut (hs x (by simp)), full_join s (y :: r) (by simp) (fun z hz => hs z (by simp [hz]))]
theorem join_full (s : UInt8) : ∀ t : List UInt8, Lib.join (fullP s t) [s] = t
  | [] => by rw [fullP, Lib.join_one]
  | c :: t => by
    have ih := join_full s t
    unfold fullP
    split
    · rename_i h
      cases hf : fullP s t with
      | nil => exact absurd hf (fullP_ne s t)
      | cons p ps => rw [hf] at ih; rw [joinTwo, ih, h]; rfl
    · cases hf : fullP s t with
      | nil => exact absurd hf (fullP_ne s t)
      | cons p ps =>
        rw [hf] at ih
        dsimp only
        cases ps with
        | nil => rw [Lib.join_one] at ih ⊢; rw [ih]
        | cons q qs => rw [joinTwo] at ih ⊢; rw [List.cons_append, ih]
theorem full_mem (s : UInt8) : ∀ t : List UInt8, ∀ x ∈ fullP s t, s ∉ x ∧ x.length ≤ t.length
  | [], x, hx => by rw [fullP, List.mem_singleton] at hx; subst hx; simp
  | c :: t, x, hx => by
    have ih := full_mem s t
    unfold fullP at hx
    split at hx
    · rcases List.mem_cons.1 hx with rfl | hx
      · simp
      · have := ih x hx; exact ⟨this.1, by rw [List.length_cons]; omega⟩
    · rename_i hc
      cases hf : fullP s t with
      | nil => exact absurd hf (fullP_ne s t)
      | cons p ps =>
        rw [hf] at hx ih
        dsimp only at hx
        rcases List.mem_cons.1 hx with rfl | hx
        · have := ih p (by simp)
          refine ⟨fun hm => ?_, by rw [List.length_cons, List.length_cons]; omega⟩
          rcases List.mem_cons.1 hm with h | h
          · exact hc h.symm
          · exact this.1 h
        · have := ih x (by simp [hx]); exact ⟨this.1, by rw [List.length_cons]; omega⟩
theorem full_len (s : UInt8) : ∀ t : List UInt8, (fullP s t).length ≤ t.length + 1
  | [] => by simp [fullP]
  | c :: t => by
    have ih := full_len s t
    unfold fullP
    split
    · simp; omega
    · cases hf : fullP s t with
      | nil => simp
      | cons p ps => rw [hf] at ih; simp at ih ⊢; omega
theorem itoa_no {n : Int} {c : UInt8} (hc : c.toNat < 45) : c ∉ Lib.itoa n := by
  intro h
  by_cases h0 : n < 0
  · rw [itoa_lt h0] at h
    rcases List.mem_cons.1 h with rfl | h
    · revert hc; decide
    · have := dec_digit _ c h; omega
  · rw [itoa_pos (by omega)] at h
    have := dec_digit _ c h; omega
theorem hexT_no {s : List UInt8} {c : UInt8} (hc : c.toNat < 45) : c ∉ hexT s := by
  intro h
  rcases List.mem_cons.1 h with rfl | h
  · revert hc; decide
  · have := hexP_mem h; omega
end Go.Proofs.YtemcblinkicblaaDoor.Mq
