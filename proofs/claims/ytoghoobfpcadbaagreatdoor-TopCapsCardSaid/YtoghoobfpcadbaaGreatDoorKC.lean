/- closed facts on the program, third part -/
import Derived.Test.YtoghoobfpcadbaaGreatDoorKB
import Derived.Test.YtoghoobfpcadbaaGreatDoorTie
import Derived.SevenTiedAt
namespace Go.Proofs.YtoghoobfpcadbaaGreatDoor.Mq
open Go Go.RowKit Go.ChangeShapes Go.Proofs

theorem fnNamed : Tryz.prog.funcNamed "marquee/marqueetop.TopCaps" = some 3 := by kernel_rfl
theorem isInst : Tryz.f3.isInstance Tryz.prog Rows.topCapsRow.origin Rows.topCapsRow.targs := of_decide_eq_true (by kernel_rfl)
theorem isWrap : Tryz.f3.isWrapper Tryz.prog Rows.topCapsRow.wrapper Rows.topCapsRow.mainSum := by unfold Func.isWrapper; first | (rw [if_pos (by decide +kernel)]; kernel_rfl) | (rw [if_neg (by decide +kernel)]; exact ⟨rfl, rfl⟩)
theorem wfText : Rows.topCapsRow.wfByText (OpenSpec.ofChange Rows.topCapsSpec) = true := by kernel_rfl
theorem mainIs : Tryz.prog.mainIs = some (true, "a959d74940f837c4b4c775850418b2adfdcd62b7d7a57d23a801bb56d00da99c".toList) := by kernel_rfl
theorem looks : true = Tryz.prog.looks [] := by kernel_rfl
theorem wants : ([23, 24].all fun u => !Tryz.prog.wantsStandIn u) = true := by kernel_rfl
end Go.Proofs.YtoghoobfpcadbaaGreatDoor.Mq
