/- chapter 11: the variable, and the arguments, opened -/
import Derived.Test.YthfbdbahggklnaaDoorTbC
import Derived.Test.YthfbdbahggklnaaDoorOpn
import Derived.Test.YthfbdbahggklnaaDoorRows
import Derived.Lib.LaidTab
import Derived.Stop.LaidErr
import Derived.MakeChecks
namespace Go.Proofs.YthfbdbahggklnaaDoor.Mq
open Go Go.RowKit Go.Proofs Go.ChangeShapes Go.WideShapes Go.Deep

theorem bruijn_data {H : Type} : (Rows.laid_math_bits_deBruijn64tab : DataW H) = Lib.tabData .u8 (Lib.deBruijn64tab.map Int.ofNat) := by kernel_rfl
theorem gl_of {W : World} (h : laidMetH Tryd.prog Rows.tabsHasRow.laid W) : Gt W := by
  rw [MakeChecks.laidMetH_plain _ _ _ (by kernel_rfl)] at h
  have h2 := h
  rw [show Rows.tabsHasRow.laid = [("math/bits.deBruijn64tab", (Rows.laid_math_bits_deBruijn64tab : DataW Unit))] from rfl, show (Rows.laid_math_bits_deBruijn64tab : DataW Unit) = Lib.tabData .u8 (Lib.deBruijn64tab.map Int.ofNat) from bruijn_data] at h2
  have h3 := Lib.tabIs_of_head (g := 0) (n := 64) (t := 58) (e := 5) (by kernel_rfl) (by kernel_rfl) (by kernel_rfl) (by kernel_rfl) (by kernel_rfl) (by kernel_rfl) h2
  unfold Lib.TabIs World.var? at h3
  rw [show Tryd.prog.globalNamed "math/bits.deBruijn64tab" = some 0 by kernel_rfl, Option.bind_some] at h3
  intro j hj
  show W.cell? ⟨0, j, none⟩ = _
  cases hb : W.heap[0]? with
  | none => rw [hb] at h3; cases h3
  | some ob =>
    rw [hb] at h3
    cases ob with
    | cells cs t fz =>
      simp only [Option.some.injEq] at h3
      subst h3
      rw [World.cell?]
      simp only [hb]
      have : (List.map (fun z => Value.int .u8 z) (List.map Int.ofNat Lib.deBruijn64tab))[j]? = some (.int .u8 (Lib.deBruijn64tab.getD j 0)) := by
        rw [List.getElem?_map, List.getElem?_map, List.getD_eq_getElem?_getD, List.getElem?_eq_getElem hj]
        rfl
      simpa using this
    | _ => cases h3
section
variable {H : Type} {enc : TypeId × Value → H} {w : World} {base : Nat} {spare : Nat → Bool} {held : Bool}
theorem wf64 {n : Int} (h : (Lit.int .i64 n).wf = true) : -9223372036854775808 ≤ n ∧ n ≤ 9223372036854775807 := by
  simpa [Lit.wf, IntKind.min, IntKind.max, IntKind.signed, IntKind.bits] using h
theorem u16_of {a : Int} (h : (Lit.int .u16 a).wf = true) : ∃ m : Nat, a = m ∧ m < 65536 := by
  have h : 0 ≤ a ∧ a ≤ 65535 := by simpa [Lit.wf, IntKind.min, IntKind.max, IntKind.signed, IntKind.bits] using h
  exact ⟨a.toNat, by omega, by omega⟩
theorem u8_of {a : Int} (h : (Lit.int .u8 a).wf = true) : ∃ m : Nat, a = m ∧ m < 256 := by
  have h : 0 ≤ a ∧ a ≤ 255 := by simpa [Lit.wf, IntKind.min, IntKind.max, IntKind.signed, IntKind.bits] using h
  exact ⟨a.toNat, by omega, by omega⟩
theorem shpU16 : shp Tryd.prog 4 22 = some [.int .u16] := by kernel_rfl
theorem shpOpT : shp Tryd.prog 4 38 = some [.int .i64, .int .i64] := by kernel_rfl
theorem opt_of {P : Program} {cs : List Value} (h : Fits enc P w base spare held [.int .i64, .int .i64] cs) : ∃ a : OpT, EOpT.enc a = cs ∧ ((-9223372036854775808 ≤ a.kind ∧ a.kind ≤ 9223372036854775807) ∧ -9223372036854775808 ≤ a.x ∧ a.x ≤ 9223372036854775807) := by
  obtain ⟨_, _, rfl, ⟨b, rfl, h1⟩, h2⟩ := h.cons
  obtain ⟨_, _, rfl, ⟨r, rfl, h3⟩, h4⟩ := h2.cons
  obtain rfl := h4.nil'
  exact ⟨⟨b, r⟩, rfl, wf64 h1, wf64 h3⟩
theorem opu16 {P : Program} {cs : List Value} (h : Fits enc P w base spare held [.int .u16] cs) : ∃ a : Nat, EU16.enc a = cs ∧ a < 65536 := by
  obtain ⟨_, _, rfl, ⟨b, rfl, h1⟩, h2⟩ := h.cons
  obtain rfl := h2.nil'
  obtain ⟨m, rfl, hm⟩ := u16_of h1
  exact ⟨m, rfl, hm⟩
theorem int2_of {P : Program} {cs : List Value} (h : Fits enc P w base spare held [.int .i64, .int .i64] cs) : ∃ a : Int × Int, [Value.int .i64 a.1, .int .i64 a.2] = cs ∧ True := by
  obtain ⟨_, _, rfl, ⟨b, rfl, h1⟩, h2⟩ := h.cons
  obtain ⟨_, _, rfl, ⟨r, rfl, h3⟩, h4⟩ := h2.cons
  obtain rfl := h4.nil'
  exact ⟨(b, r), rfl, trivial⟩
theorem openU16s {fuel : Nat} {A : Option Addr} {n c : Nat} {x : DataW H × List MemPlace} (h : DataW.trod enc Tryd.prog w base spare held fuel 23 [.slice A n c] = some x) (hw : Wt Tryd.prog 23 x.1) :
    ∃ l, Rd EU16 w (fun k => k < w.heap.size) A n c l ∧ n ≤ reachBytes ∧ ∀ a ∈ l, a < 65536 := by
  obtain ⟨l, h1, h3, h2⟩ := open_rd (E := EU16) (G := fun a => a < 65536) 4 _ Tryd.underlying23 (by kernel_rfl) (by decide) shpU16 (fun cs hc => opu16 hc) (of_decide_eq_true (by kernel_rfl)) h hw
  exact ⟨l, h1, h2, h3⟩
theorem openOps {fuel : Nat} {A : Option Addr} {n c : Nat} {x : DataW H × List MemPlace} (h : DataW.trod enc Tryd.prog w base spare held fuel 33 [.slice A n c] = some x) (hw : Wt Tryd.prog 33 x.1) :
    ∃ l, Rd EOpT w (fun k => k < w.heap.size) A n c l ∧ n ≤ reachBytes ∧ ∀ a ∈ l, (-9223372036854775808 ≤ a.kind ∧ a.kind ≤ 9223372036854775807) ∧ -9223372036854775808 ≤ a.x ∧ a.x ≤ 9223372036854775807 := by
  obtain ⟨l, h1, h3, h2⟩ := open_rd (E := EOpT) (G := fun a => (-9223372036854775808 ≤ a.kind ∧ a.kind ≤ 9223372036854775807) ∧ -9223372036854775808 ≤ a.x ∧ a.x ≤ 9223372036854775807) 4 _ Tryd.underlying33 (by kernel_rfl) (by decide) shpOpT (fun cs hc => opt_of hc) (of_decide_eq_true (by kernel_rfl)) h hw
  exact ⟨l, h1, h2, h3⟩
end
end Go.Proofs.YthfbdbahggklnaaDoor.Mq
