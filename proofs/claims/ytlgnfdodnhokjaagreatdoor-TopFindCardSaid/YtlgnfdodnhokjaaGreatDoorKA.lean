/- closed facts on the program, first half -/
import Derived.Test.YtlgnfdodnhokjaaGreatDoorRows
import Derived.Test.YtlgnfdodnhokjaaGreatDoorCards
import Derived.Tactics
import Derived.Below
import Derived.JoinedOf
import Derived.KernelRfl
import Derived.MakeChecks
import Derived.Test.YtlgnfdodnhokjaaGreatDoorChecked
namespace Go.Proofs.YtlgnfdodnhokjaaGreatDoor.Mq
open Go Go.RowKit Go.ChangeShapes Go.Proofs

theorem fact1 : Rows.topFindRow.wf (OpenSpec.ofChange Rows.topFindSpec) = true := by kernel_rfl
theorem fact2 : laidOutB Tryz.prog = true := by kernel_rfl
theorem fact3 : mapsRowed Tryz.prog = true := by kernel_rfl
theorem fact4 : Tryz.f3.params.all (Tryz.prog.readableRec ·) = true := by kernel_rfl
theorem fact5 : namedTie Tryz.prog Rows.topFindRow.named Rows.topFindSpec.vars = true := by kernel_rfl
theorem fact6 : (Rows.topFindRow.stops == []) = true := by kernel_rfl
theorem fact7 : (Tryz.prog.stops == []) = true := by kernel_rfl
theorem fact8 : (Rows.topFindRow.knobs == []) = true := by kernel_rfl
theorem fact9 : (Tryz.prog.stopKnobs == []) = true := by kernel_rfl
theorem fact14 : (Rows.topFindRow.maps == (Tryz.f3.params.toList ++ Rows.topFindSpec.plain.varTypes Tryz.prog).any (Tryz.prog.mapsRec ·)) = true := by kernel_rfl
theorem fact15 : (Rows.topFindRow.ifaces == (Tryz.f3.params.toList ++ Rows.topFindSpec.plain.varTypes Tryz.prog).any (Tryz.prog.ifacesRec ·)) = true := by kernel_rfl
theorem fact16 : (Rows.topFindRow.mapsOut == Tryz.prog.mapsAmong Tryz.f3.resultTypes.toList) = true := by kernel_rfl
theorem fact17 : (Rows.topFindRow.loops == (Tryz.f3.params.toList ++ Rows.topFindSpec.plain.varTypes Tryz.prog).any (Tryz.prog.loopsFrom ·)) = true := by kernel_rfl
theorem fact18 : (Rows.topFindRow.wideKeys == (Tryz.f3.params.toList ++ Rows.topFindSpec.plain.varTypes Tryz.prog ++ Tryz.f3.resultTypes.toList).any (Tryz.prog.wideKeysFrom ·)) = true := by kernel_rfl
theorem fact19 : Rows.topFindSpec.vars.all (Tryz.prog.varReadable ·) = true := by kernel_rfl
theorem fact20 : Tryz.f3.resultTypes.all (fun t => Tryz.prog.readableRec t && decide (t < Tryz.prog.types.size)) = true := by kernel_rfl
theorem fact21 : (Rows.topFindRow.ifacesOut == Tryz.f3.resultTypes.toList.any (Tryz.prog.ifacesRec ·)) = true := by kernel_rfl
theorem fact22 : (Rows.topFindRow.loopsOut == Tryz.f3.resultTypes.toList.any (Tryz.prog.loopsFrom ·)) = true := by kernel_rfl
theorem fact23 : (Rows.topFindRow.plainKeys == Tryz.prog.plainKeys) = true := by kernel_rfl
theorem fact24 : Rows.topFindRow.shortTexts.isNone = true := by kernel_rfl
theorem fact25 : Tryz.prog.stopsHeard = true := by kernel_rfl
theorem fact26 : Tryz.prog.mayEnter = true := by kernel_rfl
theorem fact27 : (Rows.topFindRow.lifted == Tryz.prog.liftsFinal) = true := by kernel_rfl
theorem fact28 : (Tryz.prog.make == some Rows.topFindRow.make) = true := by kernel_rfl
theorem fact29 : (Rows.topFindRow.kinds == (if Rows.topFindRow.domain.isEmpty then [] else Tryz.f3.params.toList.map fun t => match Tryz.prog.underlying t with | some (.int k) => some k | _ => none)) = true := by kernel_rfl
theorem fact30 : (Rows.topFindRow.pinned == Rows.topFindRow.pinnedBy) = true := by kernel_rfl
theorem fact31 : (Rows.topFindRow.veiled == (Tryz.f3.params.toList ++ Rows.topFindSpec.plain.varTypes Tryz.prog ++ Tryz.f3.resultTypes.toList).any (Tryz.prog.veiledRec ·)) = true := by kernel_rfl
theorem fact32 : Rows.topFindRow.veiledFits Tryz.prog Tryz.f3.params.toList (Tryz.f3.params.toList ++ Rows.topFindSpec.plain.varTypes Tryz.prog ++ Tryz.f3.resultTypes.toList) = true := by kernel_rfl
end Go.Proofs.YtlgnfdodnhokjaaGreatDoor.Mq
