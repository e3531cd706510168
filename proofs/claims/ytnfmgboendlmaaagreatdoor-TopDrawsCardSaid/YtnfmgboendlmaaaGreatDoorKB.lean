/- closed facts on the program, second half -/
import Derived.Test.YtnfmgboendlmaaaGreatDoorRows
import Derived.Test.YtnfmgboendlmaaaGreatDoorCards
import Derived.JoinedOf
import Derived.KernelRfl
import Derived.MakeChecks
import Derived.Test.YtnfmgboendlmaaaGreatDoorKA
namespace Go.Proofs.YtnfmgboendlmaaaGreatDoor.Mq
open Go Go.RowKit Go.ChangeShapes Go.Proofs

theorem fact10 : (Rows.topDrawsRow.inPlace == Tryz.prog.inPlace 3) = true := by kernel_rfl
theorem fact11 : (Rows.topDrawsRow.unfollowed == Tryz.prog.unfollowed 3) = true := by kernel_rfl
theorem fact12 : (Rows.topDrawsRow.recurses == Tryz.prog.recurses 3) = true := by kernel_rfl
theorem fact13 : (Rows.topDrawsRow.named == Tryz.prog.varsNamed 3) = true := by kernel_rfl
theorem go_none {P : Program} (h : P.funcs.any Func.goes = false) (f : FuncId) : P.goes f = false := by
  unfold Program.goes
  have h1 : ((P.closure f).any fun g => (P.funcs[g]?).any Func.goes) = false := by
    rw [Bool.eq_false_iff]
    intro h2
    simp only [List.any_eq_true] at h2
    obtain ⟨x, h3⟩ := h2
    obtain ⟨hx, h3⟩ := h3
    rw [Option.any_eq_true] at h3
    obtain ⟨fn, hf, hg⟩ := h3
    have hm := Array.mem_of_getElem? hf
    have : P.funcs.any Func.goes = true := Array.any_eq_true'.2 ⟨fn, hm, hg⟩
    rw [h] at this
    cases this
  rw [h1, h]
  simp
theorem goesBy_none {c : OpenClaim} {P : Program} (hs : c.start = .entering) (h : P.funcs.any Func.goes = false) : false = c.goesBy P := by
  unfold OpenClaim.goesBy Program.goesAt Program.goesFrom
  rw [hs]
  cases P.funcNamed c.func with
  | none => rfl
  | some f => simp [go_none h f]
theorem noGoes : Tryz.prog.funcs.any Func.goes = false := by kernel_rfl
theorem and1 {a b : Bool} (ha : a = true) (hb : b = true) : (a && b) = true := by rw [ha, hb]; rfl
set_option maxRecDepth 100000 in
theorem facts : joinedFacts Tryz.prog 3 Tryz.f3 Rows.topDrawsSpec Rows.topDrawsRow = true := by
  unfold joinedFacts
  exact and1 (and1 (and1 (and1 (and1 (and1 (and1 (and1 (and1 (and1 (and1 (and1 (and1 (and1 (and1 (and1 (and1 (and1 (and1 (and1 (and1 (and1 (and1 (and1 (and1 (and1 (and1 (and1 (and1 (and1 (and1 fact1 fact2) fact3) fact4) fact5) fact6) fact7) fact8) fact9) fact10) fact11) fact12) fact13) fact14) fact15) fact16) fact17) fact18) fact19) fact20) fact21) fact22) fact23) fact24) fact25) fact26) fact27) fact28) fact29) fact30) fact31) fact32
end Go.Proofs.YtnfmgboendlmaaaGreatDoor.Mq
