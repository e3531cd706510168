/- dump: what the readers make of seventeen words: plain law -/
import Derived.Test.YtnkdabjahmjdoaaDoorR4
namespace Go.Proofs.YtnkdabjahmjdoaaDoor.Mq
open Go Go.RowKit Go.Proofs

theorem NumR.bad {x : List UInt8} {f : Bool} {v : Int} {g : Bool} (h : NumR x f (v, g)) (hg : g = false) : f = false ∧ Lib.itoa v = x ∧ In64 v := by
  cases hn : numF x with
  | none => have := h.1 hn; dsimp only at this; rw [hg] at this; cases this
  | some n =>
    have e := h.2 n hn
    have e1 : v = n := congrArg Prod.fst e
    have e2 : g = f := congrArg Prod.snd e
    obtain ⟨h1, h2⟩ := numF_iff.1 hn
    rw [e1]
    exact ⟨by rw [← e2]; exact hg, h1, h2⟩
theorem NumR.good {x : List UInt8} {f : Bool} {v : Int} {g : Bool} (h : NumR x f (v, g)) {n : Int} (hx : Lib.itoa n = x) (hn : In64 n) : v = n ∧ g = f := by
  have e := h.2 n (numF_iff.2 ⟨hx, hn⟩)
  exact ⟨congrArg Prod.fst e, congrArg Prod.snd e⟩
theorem IdR.bad {x : List UInt8} {f : Bool} {v : Int} {g : Bool} (h : IdR x f (v, g)) (hg : g = false) : f = false ∧ ∃ n : Nat, v = n ∧ Lib.decDigits n = x ∧ n < 18446744073709551616 := by
  cases hn : idF x with
  | none => have := h.1 hn; dsimp only at this; rw [hg] at this; cases this
  | some n =>
    have e := h.2.1 n hn
    obtain ⟨h1, h2⟩ := idF_iff.1 hn
    exact ⟨by rw [← show g = f from congrArg Prod.snd e]; exact hg, n, congrArg Prod.fst e, h1, h2⟩
theorem IdR.good {x : List UInt8} {f : Bool} {v : Int} {g : Bool} (h : IdR x f (v, g)) {n : Nat} (hx : Lib.decDigits n = x) (hn : n < 18446744073709551616) : v = n ∧ g = f := by
  have e := h.2.1 n (idF_iff.2 ⟨hx, hn⟩)
  exact ⟨congrArg Prod.fst e, congrArg Prod.snd e⟩
theorem PhR.bad {x : List UInt8} {f : Bool} {v : Int} {g : Bool} (h : PhR x f (v, g)) (hg : g = false) : f = false ∧ phaseW v = x ∧ 0 ≤ v ∧ v ≤ 4 := by
  by_cases hx : ∃ k : Nat, k < 5 ∧ phaseW k = x
  · obtain ⟨k, hk, he⟩ := hx
    have e := h.1 k hk he
    have e1 : v = k := congrArg Prod.fst e
    exact ⟨by rw [← show g = f from congrArg Prod.snd e]; exact hg, by rw [e1]; exact he, by omega, by omega⟩
  · have := h.2 (fun k hk he => hx ⟨k, hk, he⟩)
    dsimp only at this
    rw [hg] at this; cases this
theorem PhR.good {x : List UInt8} {f : Bool} {v : Int} {g : Bool} (h : PhR x f (v, g)) {n : Int} (hx : phaseW n = x) (hn : 0 ≤ n ∧ n ≤ 4) : v = n ∧ g = f := by
  have hq : ((n.toNat : Nat) : Int) = n := by omega
  have e := h.1 n.toNat (by omega) (by rw [hq]; exact hx)
  exact ⟨(congrArg Prod.fst e).trans hq, congrArg Prod.snd e⟩
theorem TextR.bad {x : List UInt8} {f : Bool} {v : List UInt8} {g : Bool} (h : TextR x f (v, g)) (hg : g = false) : f = false ∧ hexT v = x := by
  by_cases hx : ∃ d, hexT d = x
  · obtain ⟨d, he⟩ := hx
    have e := h.1 d he
    have e1 : v = d := congrArg Prod.fst e
    exact ⟨by rw [← show g = f from congrArg Prod.snd e]; exact hg, by rw [e1]; exact he⟩
  · have := h.2.1 (fun d he => hx ⟨d, he⟩)
    dsimp only at this
    rw [hg] at this; cases this
theorem TextR.good {x : List UInt8} {f : Bool} {v : List UInt8} {g : Bool} (h : TextR x f (v, g)) {d : List UInt8} (hx : hexT d = x) : v = d ∧ g = f := by
  have e := h.1 d hx
  exact ⟨congrArg Prod.fst e, congrArg Prod.snd e⟩
/-- a code's word: a dash, or a number -/
def CodeR (x : List UInt8) (f : Bool) (n : Int) (has g : Bool) : Prop := (x = [45] ∧ n = 0 ∧ has = false ∧ g = f) ∨ (x ≠ [45] ∧ has = true ∧ NumR x f (n, g))
theorem itoa_dash (n : Int) : Lib.itoa n ≠ [45] := by
  intro e
  by_cases h0 : n < 0
  · rw [itoa_lt h0] at e; exact dec_ne _ (List.cons.inj e).2
  · rw [itoa_pos (by omega)] at e
    have := dec_digit n.toNat 45 (by rw [e]; simp)
    revert this; decide
theorem CodeR.bad {x : List UInt8} {f : Bool} {n : Int} {has g : Bool} (h : CodeR x f n has g) (hg : g = false) : f = false ∧ codeW has n = x ∧ In64 n := by
  rcases h with ⟨rfl, rfl, rfl, rfl⟩ | ⟨_, rfl, h⟩
  · exact ⟨hg, rfl, by decide⟩
  · exact h.bad hg
theorem CodeR.good {x : List UInt8} {f : Bool} {n : Int} {has g : Bool} (h : CodeR x f n has g) {m : Int} {k : Bool} (hx : codeW k m = x) (hm : In64 m) (hz : k = true ∨ m = 0) : n = m ∧ has = k ∧ g = f := by
  cases k with
  | true =>
    have hx' : Lib.itoa m = x := hx
    rcases h with ⟨rfl, _⟩ | ⟨_, rfl, h⟩
    · exact absurd hx' (itoa_dash m)
    · obtain ⟨h1, h2⟩ := h.good hx' hm
      exact ⟨h1, rfl, h2⟩
  | false =>
    have hx' : [45] = x := hx
    have hm0 : m = 0 := by simpa using hz
    rcases h with ⟨_, rfl, rfl, rfl⟩ | ⟨hne, _⟩
    · exact ⟨hm0.symm, rfl, rfl⟩
    · exact absurd hx'.symm hne
/-- pairs of numbers -/
def PosR : List (List UInt8) → Bool → List (Int × Int) → Bool → Prop
  | [], f, [], g => g = f
  | x :: y :: ws, f, p :: ps, g => ∃ g1 g2, NumR x f (p.1, g1) ∧ NumR y g1 (p.2, g2) ∧ PosR ws g2 ps g
  | _, _, _, _ => False
theorem PosR.bad : ∀ {ws : List (List UInt8)} {f : Bool} {ps : List (Int × Int)} {g : Bool}, PosR ws f ps g → g = false → f = false ∧ posW ps = ws ∧ ∀ p ∈ ps, In64 p.1 ∧ In64 p.2
  | [], f, [], g, h, hg => ⟨by rw [← show g = f from h]; exact hg, rfl, by simp⟩
  | x :: y :: ws, f, p :: ps, g, h, hg => by
    obtain ⟨g1, g2, h1, h2, h3⟩ := h
    obtain ⟨e3, e4, e5⟩ := PosR.bad h3 hg
    obtain ⟨e6, e7, e8⟩ := h2.bad e3
    obtain ⟨e9, e10, e11⟩ := h1.bad e6
    refine ⟨e9, ?_, fun q hq => ?_⟩
    · show [Lib.itoa p.1, Lib.itoa p.2] ++ posW ps = _
      rw [e4, e7, e10]; rfl
    · rcases List.mem_cons.1 hq with rfl | hq
      · exact ⟨e11, e8⟩
      · exact e5 q hq
  | [], _, _ :: _, _, h, _ => h.elim
  | [_], _, _, _, h, _ => by unfold PosR at h; exact h.elim
  | _ :: _ :: _, _, [], _, h, _ => h.elim
theorem PosR.good : ∀ {ws : List (List UInt8)} {f : Bool} {ps : List (Int × Int)} {g : Bool}, PosR ws f ps g → ∀ {qs : List (Int × Int)}, posW qs = ws → (∀ q ∈ qs, In64 q.1 ∧ In64 q.2) → ps = qs ∧ g = f
  | [], f, [], g, h, qs, hw, _ => by
    cases qs with
    | nil => exact ⟨rfl, h⟩
    | cons q qs => cases hw
  | x :: y :: ws, f, p :: ps, g, h, qs, hw, hq => by
    obtain ⟨g1, g2, h1, h2, h3⟩ := h
    cases qs with
    | nil => cases hw
    | cons q qs =>
      have hw' : Lib.itoa q.1 :: Lib.itoa q.2 :: posW qs = x :: y :: ws := hw
      have e1 := (List.cons.inj hw').1
      have e2 := (List.cons.inj (List.cons.inj hw').2).1
      have e3 := (List.cons.inj (List.cons.inj hw').2).2
      have hqq := hq q (by simp)
      obtain ⟨a1, a2⟩ := h1.good e1 hqq.1
      obtain ⟨a3, a4⟩ := h2.good e2 hqq.2
      obtain ⟨a5, a6⟩ := PosR.good h3 e3 (fun z hz => hq z (by simp [hz]))
      exact ⟨by rw [a5, show p = q from Prod.ext a1 a3], by rw [a6, a4, a2]⟩
  | [], _, _ :: _, _, h, _, _, _ => h.elim
  | [_], _, _, _, h, _, _, _ => by unfold PosR at h; exact h.elim
  | _ :: _ :: _, _, [], _, h, _, _, _ => h.elim
end Go.Proofs.YtnkdabjahmjdoaaDoor.Mq
