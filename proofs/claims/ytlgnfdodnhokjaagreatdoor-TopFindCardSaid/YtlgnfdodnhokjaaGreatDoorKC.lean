/- closed facts on the program, third part -/
import Derived.Test.YtlgnfdodnhokjaaGreatDoorKB
import Derived.Test.YtlgnfdodnhokjaaGreatDoorTie
import Derived.SevenTiedAt
namespace Go.Proofs.YtlgnfdodnhokjaaGreatDoor.Mq
open Go Go.RowKit Go.ChangeShapes Go.Proofs

theorem fnNamed : Tryz.prog.funcNamed "marquee/marqueetop.TopFind" = some 3 := by kernel_rfl
theorem isInst : Tryz.f3.isInstance Tryz.prog Rows.topFindRow.origin Rows.topFindRow.targs := of_decide_eq_true (by kernel_rfl)
theorem isWrap : Tryz.f3.isWrapper Tryz.prog Rows.topFindRow.wrapper Rows.topFindRow.mainSum := by unfold Func.isWrapper; first | (rw [if_pos (by decide +kernel)]; kernel_rfl) | (rw [if_neg (by decide +kernel)]; exact ⟨rfl, rfl⟩)
theorem wfText : Rows.topFindRow.wfByText (OpenSpec.ofChange Rows.topFindSpec) = true := by kernel_rfl
theorem mainIs : Tryz.prog.mainIs = some (true, "d4aee51401527a95e32f6b35c38322e64cbd44896987fa1861a4b487e420f5b7".toList) := by kernel_rfl
theorem looks : true = Tryz.prog.looks [] := by kernel_rfl
theorem wants : ([23, 24, 9].all fun u => !Tryz.prog.wantsStandIn u) = true := by kernel_rfl
end Go.Proofs.YtlgnfdodnhokjaaGreatDoor.Mq
