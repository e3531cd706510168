/- groups of an argument, opened (lines of wip/param) -/
import Derived.Test.YtojfodeienchfaaDoorAtOpen
namespace Go.Proofs.YtojfodeienchfaaDoor.Mq
open Go Go.RowKit Go.Proofs Go.ChangeShapes Go.WideShapes Go.Deep

def I64 (n : Int) : Prop := -9223372036854775808 ≤ n ∧ n ≤ 9223372036854775807
section
variable {H : Type} {enc : TypeId × Value → H} {w : World} {base : Nat} {spare : Nat → Bool} {held : Bool}
theorem shpInt : shp Tryd.prog 4 3 = some [.int .i64] := by kernel_rfl
theorem shpInts : shp Tryd.prog 4 40 = some [.slc 40] := by kernel_rfl
theorem int_of {P : Program} {cs : List Value} (h : Fits enc P w base spare held [.int .i64] cs) : ∃ a : Int, EInt.enc a = cs ∧ I64 a := by
  obtain ⟨_, _, rfl, ⟨r, rfl, h1⟩, h2⟩ := h.cons
  obtain rfl := h2.nil'
  exact ⟨r, rfl, wf64 h1⟩
theorem openInts {fuel : Nat} {A : Option Addr} {n c : Nat} {x : DataW H × List MemPlace} (h : DataW.trod enc Tryd.prog w base spare held fuel 40 [.slice A n c] = some x) (hw : Wt Tryd.prog 40 x.1) :
    ∃ l, Rd EInt w (fun k => k < w.heap.size) A n c l ∧ ∀ a ∈ l, I64 a := by
  obtain ⟨l, h1, h3, h2⟩ := open_rd (E := EInt) (G := I64) 4 [.int .i64] Tryd.underlying40 (by kernel_rfl) (by decide) shpInt (fun cs hc => int_of hc) (of_decide_eq_true (by kernel_rfl)) h hw
  exact ⟨l, h1, h3⟩
theorem all_some {α β : Type} (R : α → β → Prop) : ∀ (rs : List α), (∀ r ∈ rs, ∃ l, R r l) → ∃ ls : List β, ls.length = rs.length ∧ ∀ (k : Nat) r l, rs[k]? = some r → ls[k]? = some l → R r l
  | [], _ => ⟨[], rfl, by simp⟩
  | r :: rs, h => by
    obtain ⟨l, hl⟩ := h r (by simp)
    obtain ⟨ls, h1, h2⟩ := all_some R rs (fun r' h' => h r' (by simp [h']))
    refine ⟨l :: ls, by simp [h1], fun k r' l' hk hk' => ?_⟩
    cases k with
    | zero =>
      simp only [List.getElem?_cons_zero, Option.some.injEq] at hk hk'
      subst hk; subst hk'; exact hl
    | succ k => exact h2 k r' l' (by simpa using hk) (by simpa using hk')
theorem openGroups {fuel : Nat} {A : Option Addr} {n c : Nat} {x : DataW H × List MemPlace} (h : DataW.trod enc Tryd.prog w base spare held fuel 28 [.slice A n c] = some x) (hw : Wt Tryd.prog 28 x.1) :
    ∃ gs, RdG w (fun k => k < w.heap.size) A n c gs ∧ ∀ g ∈ gs, ∀ a ∈ g, I64 a := by
  obtain ⟨ss, h1, h2, _⟩ := open_rd (E := ESl) (G := fun s => ∃ g : List Int, Rd EInt w (fun k => k < w.heap.size) s.A s.n s.c g ∧ ∀ a ∈ g, I64 a) 4 _ Tryd.underlying28 (by kernel_rfl) (by decide) shpInts (fun cs hc => by
    obtain ⟨_, _, rfl, ⟨B, m, d, fu, y, rfl, hy, hyw⟩, hc1⟩ := hc.cons
    obtain rfl := hc1.nil'
    obtain ⟨l, hl, hl2⟩ := openInts hy hyw
    exact ⟨⟨B, m, d⟩, rfl, l, hl, hl2⟩) (of_decide_eq_true (by kernel_rfl)) h hw
  obtain ⟨gs, h3, h4⟩ := all_some _ ss h2
  refine ⟨gs, ⟨ss, h1, h3.symm, fun k s g hk hg => (h4 k s g hk hg).1⟩, fun g hg => ?_⟩
  obtain ⟨k, hk⟩ := List.getElem?_of_mem hg
  have hlt := (List.getElem?_eq_some_iff.1 hk).1
  obtain ⟨s, hs⟩ : ∃ s, ss[k]? = some s := ⟨ss[k]'(by omega), List.getElem?_eq_getElem _⟩
  exact (h4 k s g hs hk).2
end
end Go.Proofs.YtojfodeienchfaaDoor.Mq
