/- closed facts on the program, first half -/
import Derived.Test.YtoghoobfpcadbaaGreatDoorRows
import Derived.Test.YtoghoobfpcadbaaGreatDoorCards
import Derived.Tactics
import Derived.Below
import Derived.JoinedOf
import Derived.KernelRfl
import Derived.MakeChecks
import Derived.Test.YtoghoobfpcadbaaGreatDoorChecked
namespace Go.Proofs.YtoghoobfpcadbaaGreatDoor.Mq
open Go Go.RowKit Go.ChangeShapes Go.Proofs

theorem fact1 : Rows.topCapsRow.wf (OpenSpec.ofChange Rows.topCapsSpec) = true := by kernel_rfl
theorem fact2 : laidOutB Tryz.prog = true := by kernel_rfl
theorem fact3 : mapsRowed Tryz.prog = true := by kernel_rfl
theorem fact4 : Tryz.f3.params.all (Tryz.prog.readableRec ·) = true := by kernel_rfl
theorem fact5 : namedTie Tryz.prog Rows.topCapsRow.named Rows.topCapsSpec.vars = true := by kernel_rfl
theorem fact6 : (Rows.topCapsRow.stops == []) = true := by kernel_rfl
theorem fact7 : (Tryz.prog.stops == []) = true := by kernel_rfl
theorem fact8 : (Rows.topCapsRow.knobs == []) = true := by kernel_rfl
theorem fact9 : (Tryz.prog.stopKnobs == []) = true := by kernel_rfl
theorem fact14 : (Rows.topCapsRow.maps == (Tryz.f3.params.toList ++ Rows.topCapsSpec.plain.varTypes Tryz.prog).any (Tryz.prog.mapsRec ·)) = true := by kernel_rfl
theorem fact15 : (Rows.topCapsRow.ifaces == (Tryz.f3.params.toList ++ Rows.topCapsSpec.plain.varTypes Tryz.prog).any (Tryz.prog.ifacesRec ·)) = true := by kernel_rfl
theorem fact16 : (Rows.topCapsRow.mapsOut == Tryz.prog.mapsAmong Tryz.f3.resultTypes.toList) = true := by kernel_rfl
theorem fact17 : (Rows.topCapsRow.loops == (Tryz.f3.params.toList ++ Rows.topCapsSpec.plain.varTypes Tryz.prog).any (Tryz.prog.loopsFrom ·)) = true := by kernel_rfl
theorem fact18 : (Rows.topCapsRow.wideKeys == (Tryz.f3.params.toList ++ Rows.topCapsSpec.plain.varTypes Tryz.prog ++ Tryz.f3.resultTypes.toList).any (Tryz.prog.wideKeysFrom ·)) = true := by kernel_rfl
theorem fact19 : Rows.topCapsSpec.vars.all (Tryz.prog.varReadable ·) = true := by kernel_rfl
theorem fact20 : Tryz.f3.resultTypes.all (fun t => Tryz.prog.readableRec t && decide (t < Tryz.prog.types.size)) = true := by kernel_rfl
theorem fact21 : (Rows.topCapsRow.ifacesOut == Tryz.f3.resultTypes.toList.any (Tryz.prog.ifacesRec ·)) = true := by kernel_rfl
theorem fact22 : (Rows.topCapsRow.loopsOut == Tryz.f3.resultTypes.toList.any (Tryz.prog.loopsFrom ·)) = true := by kernel_rfl
theorem fact23 : (Rows.topCapsRow.plainKeys == Tryz.prog.plainKeys) = true := by kernel_rfl
theorem fact24 : Rows.topCapsRow.shortTexts.isNone = true := by kernel_rfl
theorem fact25 : Tryz.prog.stopsHeard = true := by kernel_rfl
theorem fact26 : Tryz.prog.mayEnter = true := by kernel_rfl
theorem fact27 : (Rows.topCapsRow.lifted == Tryz.prog.liftsFinal) = true := by kernel_rfl
theorem fact28 : (Tryz.prog.make == some Rows.topCapsRow.make) = true := by kernel_rfl
theorem fact29 : (Rows.topCapsRow.kinds == (if Rows.topCapsRow.domain.isEmpty then [] else Tryz.f3.params.toList.map fun t => match Tryz.prog.underlying t with | some (.int k) => some k | _ => none)) = true := by kernel_rfl
theorem fact30 : (Rows.topCapsRow.pinned == Rows.topCapsRow.pinnedBy) = true := by kernel_rfl
theorem fact31 : (Rows.topCapsRow.veiled == (Tryz.f3.params.toList ++ Rows.topCapsSpec.plain.varTypes Tryz.prog ++ Tryz.f3.resultTypes.toList).any (Tryz.prog.veiledRec ·)) = true := by kernel_rfl
theorem fact32 : Rows.topCapsRow.veiledFits Tryz.prog Tryz.f3.params.toList (Tryz.f3.params.toList ++ Rows.topCapsSpec.plain.varTypes Tryz.prog ++ Tryz.f3.resultTypes.toList) = true := by kernel_rfl
end Go.Proofs.YtoghoobfpcadbaaGreatDoor.Mq
