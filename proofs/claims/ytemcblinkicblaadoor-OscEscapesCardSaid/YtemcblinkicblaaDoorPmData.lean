/- what chapter 03 computes: heads, values, parts -/
import Derived.Test.YtemcblinkicblaaDoorBits
import Derived.Test.YtemcblinkicblaaDoorTypes
namespace Go.Proofs.YtemcblinkicblaaDoor.Mq
open Go Go.RowKit Go.Proofs

theorem ib_cases : ∀ (l : List UInt8) (c : UInt8), (c ∉ l ∧ Lib.indexByte l c = -1) ∨ ∃ pre post, l = pre ++ c :: post ∧ c ∉ pre ∧ Lib.indexByte l c = (pre.length : Int)
  | [], c => .inl ⟨by simp, rfl⟩
  | b :: l, c => by
    by_cases hb : b = c
    · subst hb
      exact .inr ⟨[], l, rfl, by simp, by simp [Lib.indexByte]⟩
    · rcases ib_cases l c with ⟨h1, h2⟩ | ⟨pre, post, h1, h2, h3⟩
      · exact .inl ⟨by simp [h1, Ne.symm hb], by simp [Lib.indexByte, hb, h2]⟩
      · refine .inr ⟨b :: pre, post, by rw [h1]; rfl, by simp [h2, Ne.symm hb], ?_⟩
        have : ¬ ((pre.length : Int) = -1) := by omega
        simp [Lib.indexByte, hb, h3, this]
def inHead (r : Nat) : Bool := decide (48 ≤ r) && decide (r ≤ 59)
def headB (s : List UInt8) : Bool := s.all (fun c => inHead c.toNat)
def valStep (n : Int) (c : UInt8) : Int := min (n * 10 + IntKind.u8.wrap ((c.toNat : Int) - 48)) 65535
def valF (s : List UInt8) : Int := if s = [] then -1 else s.foldl valStep 0
/-- the parts of a text, at most so many -/
def partsL (sep : UInt8) : Nat → List UInt8 → List (List UInt8)
  | 0, _ => []
  | m + 1, s => if sep ∈ s then s.takeWhile (· ≠ sep) :: partsL sep m ((s.dropWhile (· ≠ sep)).drop 1) else [s]
theorem cut_pre {pre post : List UInt8} {sep : UInt8} (h : sep ∉ pre) : (pre ++ sep :: post).takeWhile (· ≠ sep) = pre ∧ ((pre ++ sep :: post).dropWhile (· ≠ sep)).drop 1 = post := by
  induction pre with
  | nil => simp
  | cons c pre ih =>
    have hc : c ≠ sep := fun e => h (by simp [e])
    have ih2 := ih (fun hm => h (by simp [hm]))
    have hd : decide (c ≠ sep) = true := decide_eq_true hc
    rw [List.cons_append, List.takeWhile_cons_of_pos (p := fun x => decide (x ≠ sep)) hd, List.dropWhile_cons_of_pos (p := fun x => decide (x ≠ sep)) hd, ih2.1]
    exact ⟨rfl, ih2.2⟩
theorem partsL_in {pre post : List UInt8} {sep : UInt8} (h : sep ∉ pre) (m : Nat) : partsL sep (m + 1) (pre ++ sep :: post) = pre :: partsL sep m post := by
  rw [partsL, if_pos (by simp), (cut_pre h).1, (cut_pre h).2]
theorem partsL_out {s : List UInt8} {sep : UInt8} (h : sep ∉ s) (m : Nat) : partsL sep (m + 1) s = [s] := by
  rw [partsL, if_neg h]
theorem partsL_length (sep : UInt8) : ∀ (m : Nat) (s : List UInt8), (partsL sep m s).length ≤ m
  | 0, _ => by simp [partsL]
  | m + 1, s => by
    rw [partsL]
    split
    · have := partsL_length sep m ((s.dropWhile (· ≠ sep)).drop 1); simp only [List.length_cons]; omega
    · simp
theorem partsL_mem (sep : UInt8) : ∀ (m : Nat) (s : List UInt8), ∀ p ∈ partsL sep m s, p.length ≤ s.length ∧ ∀ c ∈ p, c ∈ s
  | 0, _, p, h => by simp [partsL] at h
  | m + 1, s, p, h => by
    rw [partsL] at h
    split at h
    · rcases List.mem_cons.1 h with rfl | h
      · exact ⟨(List.takeWhile_sublist _).length_le, fun c hc => (List.takeWhile_sublist _).subset hc⟩
      · have := partsL_mem sep m _ p h
        have hsub : ((s.dropWhile (· ≠ sep)).drop 1).Sublist s := (List.drop_sublist _ _).trans (List.dropWhile_sublist _)
        exact ⟨Nat.le_trans this.1 hsub.length_le, fun c hc => hsub.subset (this.2 c hc)⟩
    · rw [List.mem_singleton.1 h]; exact ⟨Nat.le_refl _, fun c hc => hc⟩
def groupF (p : List UInt8) : List Int := (partsL 58 8 p).map valF
def parseF (s : List UInt8) : List (List Int) := (partsL 59 32 s).map groupF
theorem wrapU8_range (z : Int) : 0 ≤ IntKind.u8.wrap z ∧ IntKind.u8.wrap z ≤ 255 := by
  simp [IntKind.wrap, IntKind.bits, IntKind.signed]; omega
theorem foldl_range : ∀ (s : List UInt8) (n : Int), 0 ≤ n ∧ n ≤ 65535 → 0 ≤ s.foldl valStep n ∧ s.foldl valStep n ≤ 65535
  | [], n, h => h
  | c :: s, n, h => by
    rw [List.foldl_cons]
    refine foldl_range s _ ?_
    have := wrapU8_range ((c.toNat : Int) - 48)
    unfold valStep
    omega
theorem valF_range (s : List UInt8) : -1 ≤ valF s ∧ valF s ≤ 65535 := by
  unfold valF
  split
  · omega
  · have := foldl_range s 0 (by omega); omega
end Go.Proofs.YtemcblinkicblaaDoor.Mq
