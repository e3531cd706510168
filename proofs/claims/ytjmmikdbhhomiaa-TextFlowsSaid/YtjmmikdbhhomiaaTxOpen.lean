/- the arguments of chapter 21, opened -/
import Derived.Test.YtjmmikdbhhomiaaTxI
import Derived.Test.YtjmmikdbhhomiaaOpn
namespace Go.Proofs.Ytjmmikdbhhomiaa.Mq
open Go Go.RowKit Go.Proofs Go.ChangeShapes Go.WideShapes Go.Deep

section
variable {H : Type} {enc : TypeId × Value → H} {w : World} {base : Nat} {spare : Nat → Bool} {held : Bool}
def cellShape : List Lf := [.int .i32, .str, .int .i64, .int .i64, .int .i64, .int .i64, .int .i64, .int .i64]
theorem shpCell : shp Try.prog 4 37 = some cellShape := by kernel_rfl
theorem shpRow : shp Try.prog 4 31 = some [.slc 29, .bool] := by kernel_rfl
theorem cell_of {P : Program} {cs : List Value} (h : Fits enc P w base spare held cellShape cs) : ∃ a : CellV, ECell.enc a = cs ∧ True := by
  obtain ⟨_, _, rfl, ⟨r, rfl, _⟩, h1⟩ := h.cons
  obtain ⟨_, _, rfl, ⟨s, rfl, _⟩, h2⟩ := h1.cons
  obtain ⟨_, _, rfl, ⟨n1, rfl, _⟩, h3⟩ := h2.cons
  obtain ⟨_, _, rfl, ⟨n2, rfl, _⟩, h4⟩ := h3.cons
  obtain ⟨_, _, rfl, ⟨n3, rfl, _⟩, h5⟩ := h4.cons
  obtain ⟨_, _, rfl, ⟨n4, rfl, _⟩, h6⟩ := h5.cons
  obtain ⟨_, _, rfl, ⟨n5, rfl, _⟩, h7⟩ := h6.cons
  obtain ⟨_, _, rfl, ⟨n6, rfl, _⟩, h8⟩ := h7.cons
  obtain rfl := h8.nil'
  exact ⟨⟨r, s.data.toList, n1, ⟨n2, n3, n4, n5, n6⟩⟩, rfl, trivial⟩
theorem openCells {fuel : Nat} {A : Option Addr} {n c : Nat} {x : DataW H × List MemPlace} (h : DataW.trod enc Try.prog w base spare held fuel 29 [.slice A n c] = some x) (hw : Wt Try.prog 29 x.1) :
    ∃ l, Rd ECell w (fun k => k < w.heap.size) A n c l ∧ n ≤ reachBytes := by
  obtain ⟨l, h1, _, h2⟩ := open_rd (E := ECell) (G := fun _ => True) 4 cellShape Try.underlying29 (by kernel_rfl) (by decide) shpCell (fun cs hc => cell_of hc) (of_decide_eq_true (by kernel_rfl)) h hw
  exact ⟨l, h1, h2⟩
theorem wf64 {n : Int} (h : (Lit.int .i64 n).wf = true) : -9223372036854775808 ≤ n ∧ n ≤ 9223372036854775807 := by
  simpa [Lit.wf, IntKind.min, IntKind.max, IntKind.signed, IntKind.bits] using h
theorem pos_of {P : Program} {cs : List Value} (h : Fits enc P w base spare held [.int .i64, .int .i64] cs) : ∃ a : PosV, a.enc = cs ∧ ((-9223372036854775808 ≤ a.row ∧ a.row ≤ 9223372036854775807) ∧ -9223372036854775808 ≤ a.col ∧ a.col ≤ 9223372036854775807) := by
  obtain ⟨_, _, rfl, ⟨r, rfl, h1⟩, h2⟩ := h.cons
  obtain ⟨_, _, rfl, ⟨s, rfl, h3⟩, h4⟩ := h2.cons
  obtain rfl := h4.nil'
  exact ⟨⟨r, s⟩, rfl, wf64 h1, wf64 h3⟩
theorem all_some {α β : Type} (R : α → β → Prop) : ∀ (rs : List α), (∀ r ∈ rs, ∃ l, R r l) → ∃ ls : List β, ls.length = rs.length ∧ ∀ (k : Nat) r l, rs[k]? = some r → ls[k]? = some l → R r l
  | [], _ => ⟨[], rfl, by simp⟩
  | r :: rs, h => by
    obtain ⟨l, hl⟩ := h r (by simp)
    obtain ⟨ls, h1, h2⟩ := all_some R rs (fun r' h' => h r' (by simp [h']))
    refine ⟨l :: ls, by simp [h1], fun k r' l' hk hk' => ?_⟩
    cases k with
    | zero =>
      simp only [List.getElem?_cons_zero, Option.some.injEq] at hk hk'
      subst hk; subst hk'; exact hl
    | succ k => exact h2 k r' l' (by simpa using hk) (by simpa using hk')
theorem openRows {fuel : Nat} {A : Option Addr} {n c : Nat} {x : DataW H × List MemPlace} (h : DataW.trod enc Try.prog w base spare held fuel 22 [.slice A n c] = some x) (hw : Wt Try.prog 22 x.1) :
    ∃ rows, RdRows w (fun k => k < w.heap.size) A n c rows ∧ n ≤ reachBytes ∧ ∀ row ∈ rows, row.1.length ≤ reachBytes := by
  obtain ⟨rs, h1, h2, h5⟩ := open_rd (E := ERow) (G := fun r => ∃ row : RowL, r.cont = row.2 ∧ Rd ECell w (fun k => k < w.heap.size) r.A r.n r.c row.1 ∧ r.n ≤ reachBytes) 4 _ Try.underlying22 (by kernel_rfl) (by decide) shpRow (fun cs hc => by
    obtain ⟨_, _, rfl, ⟨B, m, d, fu, y, rfl, hy, hyw⟩, hc1⟩ := hc.cons
    obtain ⟨_, _, rfl, ⟨b, rfl⟩, hc2⟩ := hc1.cons
    obtain rfl := hc2.nil'
    obtain ⟨l, hl, hln⟩ := openCells hy hyw
    exact ⟨⟨B, m, d, b⟩, rfl, (l, b), rfl, hl, hln⟩) (of_decide_eq_true (by kernel_rfl)) h hw
  obtain ⟨rows, h3, h4⟩ := all_some _ rs h2
  refine ⟨rows, ⟨rs, h1, ?_, fun k r row hk hr => (h4 k r row hk hr).2.1⟩, h5, fun row hrow => ?_⟩
  rotate_left
  · obtain ⟨k, hk⟩ := List.getElem?_of_mem hrow
    have hlt := (List.getElem?_eq_some_iff.1 hk).1
    obtain ⟨r, hr⟩ : ∃ r, rs[k]? = some r := ⟨rs[k]'(by omega), List.getElem?_eq_getElem _⟩
    obtain ⟨_, h6, h7⟩ := h4 k r row hr hk
    rw [h6.len]; exact h7
  refine List.ext_getElem? fun k => ?_
  rw [List.getElem?_map, List.getElem?_map]
  by_cases hk : k < rs.length
  · have hk' : k < rows.length := by omega
    rw [List.getElem?_eq_getElem hk, List.getElem?_eq_getElem hk', Option.map_some, Option.map_some, (h4 k _ _ (List.getElem?_eq_getElem hk) (List.getElem?_eq_getElem hk')).1]
  · rw [List.getElem?_eq_none (by omega), List.getElem?_eq_none (by omega)]
    rfl
end
end Go.Proofs.Ytjmmikdbhhomiaa.Mq
