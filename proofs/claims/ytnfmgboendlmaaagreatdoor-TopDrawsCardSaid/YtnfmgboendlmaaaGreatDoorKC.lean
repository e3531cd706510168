/- closed facts on the program, third part -/
import Derived.Test.YtnfmgboendlmaaaGreatDoorKB
import Derived.Test.YtnfmgboendlmaaaGreatDoorTie
import Derived.SevenTiedAt
namespace Go.Proofs.YtnfmgboendlmaaaGreatDoor.Mq
open Go Go.RowKit Go.ChangeShapes Go.Proofs

theorem fnNamed : Tryz.prog.funcNamed "marquee/marqueetop.TopDraws" = some 3 := by kernel_rfl
theorem isInst : Tryz.f3.isInstance Tryz.prog Rows.topDrawsRow.origin Rows.topDrawsRow.targs := of_decide_eq_true (by kernel_rfl)
theorem isWrap : Tryz.f3.isWrapper Tryz.prog Rows.topDrawsRow.wrapper Rows.topDrawsRow.mainSum := by unfold Func.isWrapper; first | (rw [if_pos (by decide +kernel)]; kernel_rfl) | (rw [if_neg (by decide +kernel)]; exact ⟨rfl, rfl⟩)
theorem wfText : Rows.topDrawsRow.wfByText (OpenSpec.ofChange Rows.topDrawsSpec) = true := by kernel_rfl
theorem mainIs : Tryz.prog.mainIs = some (true, "7064837a841503b15787ceea8a7cf6a878b67241c2f378105d14968c08decdbd".toList) := by kernel_rfl
theorem looks : true = Tryz.prog.looks [] := by kernel_rfl
theorem wants : ([23, 24].all fun u => !Tryz.prog.wantsStandIn u) = true := by kernel_rfl
end Go.Proofs.YtnfmgboendlmaaaGreatDoor.Mq
