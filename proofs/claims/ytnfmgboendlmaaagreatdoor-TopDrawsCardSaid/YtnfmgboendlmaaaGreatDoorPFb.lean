/- TopDraws: said -/
import Derived.Test.YtnfmgboendlmaaaGreatDoorRows
import Derived.Test.YtnfmgboendlmaaaGreatDoorCards
import Derived.Test.YtnfmgboendlmaaaGreatDoorTie
import Derived.LaidMore
import Derived.SevenTiedAt
import Derived.MakeChecks
import Derived.Lay
import Derived.Test.YtnfmgboendlmaaaGreatDoorKC
import Derived.Test.YtnfmgboendlmaaaGreatDoorPFa
namespace Go.Proofs.YtnfmgboendlmaaaGreatDoor
open Go Go.RowKit Go.ChangeShapes Go.WideShapes Go.Proofs

theorem topDrawsProved_said : Rows.TopDrawsSaid :=
  OpenClaim.holds_of_wide 3 Tryz.f3 rfl rfl rfl rfl rfl rfl rfl ⟨rfl, rfl, rfl, rfl, rfl⟩ rfl rfl rfl rfl rfl Mq.fnNamed Tryz.func3 Mq.facts Mq.isInst Mq.isWrap (fun os started H enc _ => topDrawsProved_lifted os started H enc)
end Go.Proofs.YtnfmgboendlmaaaGreatDoor
