/- closed facts on the program, first half -/
import Derived.Test.YtnfmgboendlmaaaGreatDoorRows
import Derived.Test.YtnfmgboendlmaaaGreatDoorCards
import Derived.Tactics
import Derived.Below
import Derived.JoinedOf
import Derived.KernelRfl
import Derived.MakeChecks
import Derived.Test.YtnfmgboendlmaaaGreatDoorChecked
namespace Go.Proofs.YtnfmgboendlmaaaGreatDoor.Mq
open Go Go.RowKit Go.ChangeShapes Go.Proofs

theorem fact1 : Rows.topDrawsRow.wf (OpenSpec.ofChange Rows.topDrawsSpec) = true := by kernel_rfl
theorem fact2 : laidOutB Tryz.prog = true := by kernel_rfl
theorem fact3 : mapsRowed Tryz.prog = true := by kernel_rfl
theorem fact4 : Tryz.f3.params.all (Tryz.prog.readableRec ·) = true := by kernel_rfl
theorem fact5 : namedTie Tryz.prog Rows.topDrawsRow.named Rows.topDrawsSpec.vars = true := by kernel_rfl
theorem fact6 : (Rows.topDrawsRow.stops == []) = true := by kernel_rfl
theorem fact7 : (Tryz.prog.stops == []) = true := by kernel_rfl
theorem fact8 : (Rows.topDrawsRow.knobs == []) = true := by kernel_rfl
theorem fact9 : (Tryz.prog.stopKnobs == []) = true := by kernel_rfl
theorem fact14 : (Rows.topDrawsRow.maps == (Tryz.f3.params.toList ++ Rows.topDrawsSpec.plain.varTypes Tryz.prog).any (Tryz.prog.mapsRec ·)) = true := by kernel_rfl
theorem fact15 : (Rows.topDrawsRow.ifaces == (Tryz.f3.params.toList ++ Rows.topDrawsSpec.plain.varTypes Tryz.prog).any (Tryz.prog.ifacesRec ·)) = true := by kernel_rfl
theorem fact16 : (Rows.topDrawsRow.mapsOut == Tryz.prog.mapsAmong Tryz.f3.resultTypes.toList) = true := by kernel_rfl
theorem fact17 : (Rows.topDrawsRow.loops == (Tryz.f3.params.toList ++ Rows.topDrawsSpec.plain.varTypes Tryz.prog).any (Tryz.prog.loopsFrom ·)) = true := by kernel_rfl
theorem fact18 : (Rows.topDrawsRow.wideKeys == (Tryz.f3.params.toList ++ Rows.topDrawsSpec.plain.varTypes Tryz.prog ++ Tryz.f3.resultTypes.toList).any (Tryz.prog.wideKeysFrom ·)) = true := by kernel_rfl
theorem fact19 : Rows.topDrawsSpec.vars.all (Tryz.prog.varReadable ·) = true := by kernel_rfl
theorem fact20 : Tryz.f3.resultTypes.all (fun t => Tryz.prog.readableRec t && decide (t < Tryz.prog.types.size)) = true := by kernel_rfl
theorem fact21 : (Rows.topDrawsRow.ifacesOut == Tryz.f3.resultTypes.toList.any (Tryz.prog.ifacesRec ·)) = true := by kernel_rfl
theorem fact22 : (Rows.topDrawsRow.loopsOut == Tryz.f3.resultTypes.toList.any (Tryz.prog.loopsFrom ·)) = true := by kernel_rfl
theorem fact23 : (Rows.topDrawsRow.plainKeys == Tryz.prog.plainKeys) = true := by kernel_rfl
theorem fact24 : Rows.topDrawsRow.shortTexts.isNone = true := by kernel_rfl
theorem fact25 : Tryz.prog.stopsHeard = true := by kernel_rfl
theorem fact26 : Tryz.prog.mayEnter = true := by kernel_rfl
theorem fact27 : (Rows.topDrawsRow.lifted == Tryz.prog.liftsFinal) = true := by kernel_rfl
theorem fact28 : (Tryz.prog.make == some Rows.topDrawsRow.make) = true := by kernel_rfl
theorem fact29 : (Rows.topDrawsRow.kinds == (if Rows.topDrawsRow.domain.isEmpty then [] else Tryz.f3.params.toList.map fun t => match Tryz.prog.underlying t with | some (.int k) => some k | _ => none)) = true := by kernel_rfl
theorem fact30 : (Rows.topDrawsRow.pinned == Rows.topDrawsRow.pinnedBy) = true := by kernel_rfl
theorem fact31 : (Rows.topDrawsRow.veiled == (Tryz.f3.params.toList ++ Rows.topDrawsSpec.plain.varTypes Tryz.prog ++ Tryz.f3.resultTypes.toList).any (Tryz.prog.veiledRec ·)) = true := by kernel_rfl
theorem fact32 : Rows.topDrawsRow.veiledFits Tryz.prog Tryz.f3.params.toList (Tryz.f3.params.toList ++ Rows.topDrawsSpec.plain.varTypes Tryz.prog ++ Tryz.f3.resultTypes.toList) = true := by kernel_rfl
end Go.Proofs.YtnfmgboendlmaaaGreatDoor.Mq
