/- plain laws of chapter 03: the reference's Parse, char by char -/
import Derived.Test.YtemcblinkicblaaDoorPmData
namespace Go.Proofs.YtemcblinkicblaaDoor.Mq
open Go Go.RowKit Go.Proofs

/-- all parts of a text -/
def fullP (sep : UInt8) : List UInt8 → List (List UInt8)
  | [] => [[]]
  | c :: s => if c = sep then [] :: fullP sep s else match fullP sep s with
    | [] => [[c]]
    | p :: ps => (c :: p) :: ps
theorem fullP_ne (sep : UInt8) (s : List UInt8) : fullP sep s ≠ [] := by
  cases s with
  | nil => simp [fullP]
  | cons c s => unfold fullP; split <;> (try split) <;> simp
theorem fullP_cut {sep : UInt8} {pre : List UInt8} (h : sep ∉ pre) (post : List UInt8) : fullP sep (pre ++ sep :: post) = pre :: fullP sep post := by
  induction pre with
  | nil => simp [fullP]
  | cons c pre ih =>
    have hc : ¬ c = sep := fun e => h (by simp [e])
    rw [List.cons_append, fullP, if_neg hc, ih (fun hm => h (by simp [hm]))]
theorem fullP_out {sep : UInt8} {s : List UInt8} (h : sep ∉ s) : fullP sep s = [s] := by
  induction s with
  | nil => rfl
  | cons c s ih =>
    have hc : ¬ c = sep := fun e => h (by simp [e])
    rw [fullP, if_neg hc, ih (fun hm => h (by simp [hm]))]
theorem partsL_full (sep : UInt8) : ∀ (m : Nat) (s : List UInt8), partsL sep m s = (fullP sep s).take m
  | 0, s => by simp [partsL]
  | m + 1, s => by
    rcases ib_cases s sep with ⟨hno, _⟩ | ⟨pre, post, hpp, hpre, _⟩
    · rw [partsL_out hno, fullP_out hno]; simp
    · rw [hpp, partsL_in hpre, fullP_cut hpre, partsL_full sep m post]; rfl
/-- a char more: a new part, or the last one goes on -/
def onLast {α : Type} (f : α → α) : List α → List α
  | [] => []
  | [a] => [f a]
  | a :: b :: l => a :: onLast f (b :: l)
theorem onLast_snoc {α : Type} (f : α → α) (l : List α) (a : α) : onLast f (l ++ [a]) = l ++ [f a] := by
  induction l with
  | nil => rfl
  | cons b l ih =>
    cases l with
    | nil => rfl
    | cons c l => rw [List.cons_append, List.cons_append, onLast, ← List.cons_append, ih]; rfl
theorem fullP_snoc (sep c : UInt8) (s : List UInt8) : fullP sep (s ++ [c]) = if c = sep then fullP sep s ++ [[]] else onLast (· ++ [c]) (fullP sep s) := by
  induction s with
  | nil =>
    by_cases h : c = sep
    · simp [fullP, h]
    · simp [fullP, h, onLast]
  | cons d s ih =>
    rw [List.cons_append, fullP, ih]
    have hne := fullP_ne sep s
    by_cases hd : d = sep
    · rw [if_pos hd]
      conv => rhs; rw [fullP, if_pos hd]
      by_cases h : c = sep
      · rw [if_pos h, if_pos h]; rfl
      · rw [if_neg h, if_neg h]
        cases hf : fullP sep s with
        | nil => exact absurd hf hne
        | cons p ps => rfl
    · rw [if_neg hd]
      conv => rhs; rw [fullP, if_neg hd]
      cases hf : fullP sep s with
      | nil => exact absurd hf hne
      | cons p ps =>
        by_cases h : c = sep
        · rw [if_pos h, if_pos h]; rfl
        · rw [if_neg h, if_neg h]
          cases ps with
          | nil => rfl
          | cons q ps => rfl
def valsF (p : List UInt8) : List Int := (fullP 58 p).map valF
def refSt (s : List UInt8) : List (List Int) := (fullP 59 s).map valsF
def updV (n : Int) (c : UInt8) : Int := min (10 * max 0 n + (c.toNat : Int) - 48) 65535
theorem onLast_map {α β : Type} (f : α → β) (g : α → α) (h : β → β) (l : List α) (hl : ∀ a ∈ l, f (g a) = h (f a)) : (onLast g l).map f = onLast h (l.map f) := by
  induction l with
  | nil => rfl
  | cons a l ih =>
    cases l with
    | nil => simp [onLast, hl a (by simp)]
    | cons b l =>
      have := ih (fun x hx => hl x (by simp [hx]))
      simp only [onLast, List.map_cons] at this ⊢
      rw [this]
theorem valF_snoc (p : List UInt8) (c : UInt8) (hc : 48 ≤ c.toNat) : valF (p ++ [c]) = updV (valF p) c := by
  have hlt := c.toNat_lt
  have hw : IntKind.u8.wrap ((c.toNat : Int) - 48) = (c.toNat : Int) - 48 := wrapN8 (by omega) (by omega)
  by_cases hp : p = []
  · subst hp
    simp only [List.nil_append, valF, updV, if_true, if_neg (List.cons_ne_nil c []), List.foldl_cons, List.foldl_nil, valStep, hw]
    omega
  · have h1 : valF p = p.foldl valStep 0 := by rw [valF, if_neg hp]
    have h2 := foldl_range p 0 (by omega)
    rw [valF, if_neg (by simp), List.foldl_append, ← h1]
    show valStep (valF p) c = _
    rw [valStep, updV, hw, h1]
    omega
/-- what the reference makes of one char more -/
def refStep (st : List (List Int)) (c : UInt8) : List (List Int) :=
  if c = 59 then st ++ [[-1]] else if c = 58 then onLast (· ++ [-1]) st else onLast (onLast (fun n => updV n c)) st
theorem refSt_snoc (s : List UInt8) (c : UInt8) (hc : inHead c.toNat = true) : refSt (s ++ [c]) = refStep (refSt s) c := by
  unfold refSt refStep
  rw [fullP_snoc]
  by_cases h1 : c = 59
  · rw [if_pos h1, if_pos h1, List.map_append]; rfl
  · rw [if_neg h1, if_neg h1]
    by_cases h2 : c = 58
    · rw [if_pos h2]
      refine onLast_map _ _ _ _ (fun p _ => ?_)
      rw [valsF, fullP_snoc, if_pos h2, List.map_append]; rfl
    · rw [if_neg h2]
      refine onLast_map _ _ _ _ (fun p _ => ?_)
      rw [valsF, fullP_snoc, if_neg h2]
      refine onLast_map _ _ _ _ (fun q _ => ?_)
      refine valF_snoc q c ?_
      simp only [inHead, Bool.and_eq_true, decide_eq_true_eq] at hc
      exact hc.1
theorem parseF_ref (s : List UInt8) : parseF s = ((refSt s).take 32).map (fun g => g.take 8) := by
  unfold parseF refSt
  rw [partsL_full, ← List.map_take, List.map_map]
  refine List.map_congr_left (fun p _ => ?_)
  show groupF p = (valsF p).take 8
  rw [groupF, partsL_full, valsF, List.map_take]
theorem refSt_len : ∀ (s : List UInt8), (refSt s).length ≤ s.length + 1 := by
  have h : ∀ (sep : UInt8) (s : List UInt8), (fullP sep s).length ≤ s.length + 1 := by
    intro sep s
    induction s with
    | nil => simp [fullP]
    | cons c s ih =>
      unfold fullP
      split
      · simp only [List.length_cons]; omega
      · split
        · simp
        · rename_i p ps hf
          rw [hf] at ih
          simp only [List.length_cons] at ih ⊢
          omega
  intro s
  rw [refSt, List.length_map]
  exact h 59 s
theorem vals_len (p : List UInt8) : (valsF p).length ≤ p.length + 1 := by
  rw [valsF, List.length_map]
  induction p with
  | nil => simp [fullP]
  | cons c s ih =>
    unfold fullP
    split
    · simp only [List.length_cons]; omega
    · split
      · simp
      · rename_i p ps hf
        rw [hf] at ih
        simp only [List.length_cons] at ih ⊢
        omega
end Go.Proofs.YtemcblinkicblaaDoor.Mq
