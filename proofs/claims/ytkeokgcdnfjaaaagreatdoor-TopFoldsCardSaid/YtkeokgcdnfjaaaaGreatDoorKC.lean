/- closed facts on the program, third part -/
import Derived.Test.YtkeokgcdnfjaaaaGreatDoorKB
import Derived.Test.YtkeokgcdnfjaaaaGreatDoorTie
import Derived.SevenTiedAt
namespace Go.Proofs.YtkeokgcdnfjaaaaGreatDoor.Mq
open Go Go.RowKit Go.ChangeShapes Go.Proofs

theorem fnNamed : Tryz.prog.funcNamed "marquee/marqueetop.TopFolds" = some 3 := by kernel_rfl
theorem isInst : Tryz.f3.isInstance Tryz.prog Rows.topFoldsRow.origin Rows.topFoldsRow.targs := of_decide_eq_true (by kernel_rfl)
theorem isWrap : Tryz.f3.isWrapper Tryz.prog Rows.topFoldsRow.wrapper Rows.topFoldsRow.mainSum := by unfold Func.isWrapper; first | (rw [if_pos (by decide +kernel)]; kernel_rfl) | (rw [if_neg (by decide +kernel)]; exact ⟨rfl, rfl⟩)
theorem wfText : Rows.topFoldsRow.wfByText (OpenSpec.ofChange Rows.topFoldsSpec) = true := by kernel_rfl
theorem mainIs : Tryz.prog.mainIs = some (true, "5441e2d567fe26c18984ae4080e9b5e6e8584b9808fae4a37cfd10feda0c8b7c".toList) := by kernel_rfl
theorem looks : true = Tryz.prog.looks [] := by kernel_rfl
theorem wants : ([23, 24].all fun u => !Tryz.prog.wantsStandIn u) = true := by kernel_rfl
end Go.Proofs.YtkeokgcdnfjaaaaGreatDoor.Mq
