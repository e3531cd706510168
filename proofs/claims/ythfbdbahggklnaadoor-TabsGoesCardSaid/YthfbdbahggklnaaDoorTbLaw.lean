/- tabs: the plain functions and their laws -/
import Derived.Test.YthfbdbahggklnaaDoorBits
namespace Go.Proofs.YthfbdbahggklnaaDoor.Mq
open Go Go.RowKit Go.Proofs

def wbit (ws : List Nat) (x : Nat) : Bool := (ws.getD (x / 64) 0).testBit (x % 64)
def gb (bs : List Bool) (x : Nat) : Bool := bs.getD x false
def hasB (bs : List Bool) (x : Int) : Bool := decide (0 ≤ x) && gb bs x.toNat
def withB (bs : List Bool) (x : Int) (on : Bool) : List Bool := if 0 ≤ x ∧ x < (bs.length : Int) then bs.set x.toNat on else bs
def sizeB (bs : List Bool) (n : Nat) : List Bool := (List.range n).map (fun x => if x < bs.length then gb bs x else decide (x % 8 = 0))
def listB (bs : List Bool) : List Int := ((List.range bs.length).filter (gb bs)).map (fun x : Nat => (x : Int))
def afterB (bs : List Bool) (x : Nat) : Nat := ((List.range bs.length).find? (fun y => decide (x < y) && gb bs y)).getD (bs.length - 1)
def beforeB (bs : List Bool) (x : Nat) : Nat := ((List.range x).reverse.find? (gb bs)).getD 0
def iter (f : Nat → Nat) : Nat → Nat → Nat
  | 0, x => x
  | k + 1, x => f (iter f k x)
def clampB (n : Nat) (x : Int) : Nat := (max 0 (min x ((n : Int) - 1))).toNat
def timesB (f : Nat → Nat) (len : Nat) (x n : Int) : Nat := iter f (min (max 0 n) (len : Int)).toNat (clampB len x)

theorem gb_ge {bs : List Bool} {x : Nat} (h : bs.length ≤ x) : gb bs x = false := by rw [gb, List.getD_eq_getElem?_getD, List.getElem?_eq_none h]; rfl
theorem gb_lt {bs : List Bool} {x : Nat} (h : gb bs x = true) : x < bs.length := by
  unfold gb at h
  rcases Nat.lt_or_ge x bs.length with h1 | h1
  · exact h1
  · have := gb_ge h1; unfold gb at this; rw [this] at h; cases h
theorem gb_get {bs : List Bool} {x : Nat} (h : x < bs.length) : bs[x]? = some (gb bs x) := by
  rw [gb, List.getD_eq_getElem?_getD, List.getElem?_eq_getElem h]; rfl
theorem bs_ext {a b : List Bool} (hl : a.length = b.length) (h : ∀ x, x < a.length → gb a x = gb b x) : a = b := by
  apply List.ext_getElem? 
  intro i
  rcases Nat.lt_or_ge i a.length with h1 | h1
  · rw [gb_get h1, gb_get (hl ▸ h1), h i h1]
  · rw [List.getElem?_eq_none h1, List.getElem?_eq_none (hl ▸ h1)]
theorem withB_len (bs : List Bool) (x : Int) (on : Bool) : (withB bs x on).length = bs.length := by unfold withB; split <;> simp
theorem sizeB_len (bs : List Bool) (n : Nat) : (sizeB bs n).length = n := by simp [sizeB]
theorem gb_withB (bs : List Bool) (x : Int) (on : Bool) (y : Nat) (hy : y < bs.length) : gb (withB bs x on) y = if x = (y : Int) then on else gb bs y := by
  unfold withB
  split
  · rename_i h
    unfold gb
    rw [List.getD_eq_getElem?_getD, List.getElem?_set]
    by_cases hx : x = (y : Int)
    · subst hx; simp [hy]
    · rw [if_neg hx, if_neg (by omega), List.getD_eq_getElem?_getD]
  · rename_i h
    rw [if_neg (by omega)]
theorem gb_sizeB (bs : List Bool) (n y : Nat) (hy : y < n) : gb (sizeB bs n) y = if y < bs.length then gb bs y else decide (y % 8 = 0) := by
  unfold sizeB gb
  rw [List.getD_eq_getElem?_getD, List.getElem?_map, List.getElem?_range hy]
  rfl
theorem afterB_hit {bs : List Bool} {x y : Nat} (h1 : x < y) (h2 : gb bs y = true) (h3 : ∀ z, x < z → z < y → gb bs z = false) : afterB bs x = y := by
  have hy := gb_lt h2
  unfold afterB
  have : (List.range bs.length).find? (fun y => decide (x < y) && gb bs y) = some y := by
    rw [List.find?_range_eq_some]
    refine ⟨by simp [h1, h2], by simpa using hy, fun z hz => ?_⟩
    by_cases hxz : x < z
    · simp [h3 z hxz hz]
    · simp [hxz]
  rw [this]; rfl
theorem afterB_none {bs : List Bool} {x : Nat} (h3 : ∀ z, x < z → z < bs.length → gb bs z = false) : afterB bs x = bs.length - 1 := by
  unfold afterB
  have : (List.range bs.length).find? (fun y => decide (x < y) && gb bs y) = none := by
    rw [List.find?_eq_none]
    intro z hz
    by_cases hxz : x < z
    · simp [h3 z hxz (by simpa using hz)]
    · simp [hxz]
  rw [this]; rfl
/-- the least one of which a thing holds -/
theorem least {p : Nat → Bool} {n : Nat} (h : p n = true) : ∃ m, m ≤ n ∧ p m = true ∧ ∀ z, z < m → p z = false := by
  induction n using Nat.strongRecOn with
  | _ n ih =>
    by_cases hz : ∃ z, z < n ∧ p z = true
    · obtain ⟨z, h1, h2⟩ := hz
      obtain ⟨m, a, b, c⟩ := ih z h1 h2
      exact ⟨m, by omega, b, c⟩
    · exact ⟨n, Nat.le_refl _, h, fun z hzn => by
        cases hp : p z with
        | false => rfl
        | true => exact absurd ⟨z, hzn, hp⟩ hz⟩
theorem afterB_cases (bs : List Bool) (x : Nat) : (x < afterB bs x ∧ gb bs (afterB bs x) = true ∧ ∀ z, x < z → z < afterB bs x → gb bs z = false) ∨ ((∀ z, x < z → gb bs z = false) ∧ afterB bs x = bs.length - 1) := by
  by_cases h : ∃ z, x < z ∧ gb bs z = true
  · obtain ⟨z, h1, h2⟩ := h
    obtain ⟨m, _, hm, hl⟩ := least (p := fun z => decide (x < z) && gb bs z) (n := z) (by simp [h1, h2])
    simp only [Bool.and_eq_true, decide_eq_true_eq] at hm
    have hz : ∀ z, x < z → z < m → gb bs z = false := fun z hz hzm => by
      have := hl z hzm
      simpa [hz] using this
    have := afterB_hit hm.1 hm.2 hz
    left
    rw [this]
    exact ⟨hm.1, hm.2, hz⟩
  · right
    have hz : ∀ z, x < z → gb bs z = false := fun z hxz => by
      cases hp : gb bs z with
      | false => rfl
      | true => exact absurd ⟨z, hxz, hp⟩ h
    exact ⟨hz, afterB_none fun z hxz _ => hz z hxz⟩
theorem beforeB_hit {bs : List Bool} {x y : Nat} (h1 : y < x) (h2 : gb bs y = true) (h3 : ∀ z, y < z → z < x → gb bs z = false) : beforeB bs x = y := by
  unfold beforeB
  have key : ∀ x, y < x → (∀ z, y < z → z < x → gb bs z = false) → (List.range x).reverse.find? (gb bs) = some y := by
    intro x
    induction x with
    | zero => intro h; omega
    | succ x ih =>
      intro h1 h3
      rw [List.range_succ, List.reverse_append, List.reverse_singleton, List.singleton_append, List.find?_cons]
      rcases Nat.lt_or_ge y x with h | h
      · rw [h3 x h (by omega)]
        exact ih h fun z a b => h3 z a (by omega)
      · obtain rfl : y = x := by omega
        rw [h2]
  rw [key x h1 h3]; rfl
theorem beforeB_none {bs : List Bool} {x : Nat} (h3 : ∀ z, z < x → gb bs z = false) : beforeB bs x = 0 := by
  unfold beforeB
  have : (List.range x).reverse.find? (gb bs) = none := by
    rw [List.find?_eq_none]
    intro z hz
    simp only [List.mem_reverse, List.mem_range] at hz
    simp [h3 z hz]
  rw [this]; rfl
theorem beforeB_succ (bs : List Bool) (x : Nat) : beforeB bs (x + 1) = if gb bs x then x else beforeB bs x := by
  unfold beforeB
  rw [List.range_succ, List.reverse_append, List.reverse_singleton, List.singleton_append, List.find?_cons]
  cases gb bs x <;> simp
theorem beforeB_le (bs : List Bool) : ∀ x, beforeB bs x ≤ x - 1
  | 0 => by simp [beforeB]
  | x + 1 => by
    rw [beforeB_succ]
    have := beforeB_le bs x
    split <;> omega
theorem afterB_lt {bs : List Bool} (x : Nat) (h : 0 < bs.length) : afterB bs x < bs.length := by
  rcases afterB_cases bs x with h1 | h1
  · exact gb_lt h1.2.1
  · omega
theorem afterB_ge {bs : List Bool} {x : Nat} (h : x < bs.length) : (x < afterB bs x ∨ x = bs.length - 1) ∧ x ≤ afterB bs x := by
  rcases afterB_cases bs x with h1 | h1
  · exact ⟨.inl h1.1, by omega⟩
  · omega
/-- from a stop that was come to one comes back to no column beyond where one was -/
theorem back_after {bs : List Bool} {x : Nat} (h : x < bs.length) : beforeB bs (afterB bs x) ≤ x := by
  rcases afterB_cases bs x with h1 | h1
  · have key : ∀ y, (∀ z, x < z → z < y → gb bs z = false) → beforeB bs y ≤ x ∨ y ≤ x := by
      intro y
      induction y with
      | zero => intro _; exact .inr (Nat.zero_le _)
      | succ y ih =>
        intro hy
        rcases Nat.lt_or_ge x y with hxy | hxy
        · left
          rw [beforeB_succ, hy y hxy (by omega)]
          rcases ih fun z a b => hy z a (by omega) with h2 | h2
          · simpa using h2
          · omega
        · rcases Nat.lt_or_ge y x with h3 | h3
          · exact .inr (by omega)
          · left
            have := beforeB_le bs (y + 1)
            omega
    rcases key _ h1.2.2 with h2 | h2
    · exact h2
    · omega
  · rw [h1.2]
    rcases Nat.lt_or_ge x (bs.length - 1) with hx | hx
    · have key : ∀ y, x < y → beforeB bs y ≤ x := by
        intro y
        induction y with
        | zero => intro h; omega
        | succ y ih =>
          intro hy
          rcases Nat.lt_or_ge x y with hxy | hxy
          · rw [beforeB_succ, h1.1 y hxy]; simpa using ih hxy
          · have := beforeB_le bs (y + 1)
            omega
      exact key _ hx
    · have := beforeB_le bs (bs.length - 1)
      omega
theorem iter_lt {f : Nat → Nat} {len : Nat} (hf : ∀ x, x < len → f x < len) : ∀ (k x : Nat), x < len → iter f k x < len
  | 0, _, h => h
  | k + 1, x, h => hf _ (iter_lt hf k x h)
theorem iter_up {bs : List Bool} : ∀ (k x : Nat), x < bs.length → min (x + k) (bs.length - 1) ≤ iter (afterB bs) k x
  | 0, x, h => by simp only [iter]; omega
  | k + 1, x, h => by
    have h1 := iter_up k x h
    have h2 := iter_lt (f := afterB bs) (fun y hy => afterB_lt y (by omega)) k x h
    have h3 := afterB_ge h2
    simp only [iter]
    omega
theorem iter_down (bs : List Bool) : ∀ (k x : Nat), iter (beforeB bs) k x ≤ x - k
  | 0, x => by simp only [iter]; omega
  | k + 1, x => by
    have h1 := iter_down bs k x
    have h2 := beforeB_le bs (iter (beforeB bs) k x)
    simp only [iter]
    omega
theorem iter_fix {f : Nat → Nat} {x : Nat} {j : Nat} (h : f (iter f j x) = iter f j x) : ∀ k, j ≤ k → iter f k x = iter f j x := by
  intro k
  induction k with
  | zero => intro h1; obtain rfl : j = 0 := by omega
            rfl
  | succ k ih =>
    intro h1
    rcases Nat.lt_or_ge k j with h2 | h2
    · obtain rfl : j = k + 1 := by omega
      rfl
    · simp only [iter]; rw [ih h2, h]
theorem up_fix {bs : List Bool} {x : Nat} (h : x < bs.length) (k : Nat) (hk : bs.length ≤ k) : iter (afterB bs) k x = iter (afterB bs) bs.length x := by
  refine iter_fix ?_ k hk
  have h1 := iter_up bs.length x h
  have h2 := iter_lt (f := afterB bs) (fun y hy => afterB_lt y (by omega)) bs.length x h
  have h3 := afterB_lt (iter (afterB bs) bs.length x) (by omega : 0 < bs.length)
  have h4 := (afterB_ge h2).2
  omega
theorem down_fix {bs : List Bool} {x : Nat} (h : x < bs.length) (k : Nat) (hk : bs.length ≤ k) : iter (beforeB bs) k x = iter (beforeB bs) bs.length x := by
  refine iter_fix ?_ k hk
  have h1 := iter_down bs bs.length x
  have h2 := beforeB_le bs (iter (beforeB bs) bs.length x)
  omega
theorem clampB_lt {n : Nat} (x : Int) (h : 0 < n) : clampB n x < n := by unfold clampB; omega
theorem clampB_id {n x : Nat} (h : x < n) : clampB n (x : Int) = x := by unfold clampB; omega
theorem timesB_lt {f : Nat → Nat} {len : Nat} (hf : ∀ x, x < len → f x < len) (x n : Int) (h : 0 < len) : timesB f len x n < len := iter_lt hf _ _ (clampB_lt x h)
end Go.Proofs.YthfbdbahggklnaaDoor.Mq
