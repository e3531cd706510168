/- TopFolds: said -/
import Derived.Test.YtkeokgcdnfjaaaaGreatDoorRows
import Derived.Test.YtkeokgcdnfjaaaaGreatDoorCards
import Derived.Test.YtkeokgcdnfjaaaaGreatDoorTie
import Derived.LaidMore
import Derived.SevenTiedAt
import Derived.MakeChecks
import Derived.Lay
import Derived.Test.YtkeokgcdnfjaaaaGreatDoorKC
import Derived.Test.YtkeokgcdnfjaaaaGreatDoorPFa
namespace Go.Proofs.YtkeokgcdnfjaaaaGreatDoor
open Go Go.RowKit Go.ChangeShapes Go.WideShapes Go.Proofs

theorem topFoldsProved_said : Rows.TopFoldsSaid :=
  OpenClaim.holds_of_wide 3 Tryz.f3 rfl rfl rfl rfl rfl rfl rfl ⟨rfl, rfl, rfl, rfl, rfl⟩ rfl rfl rfl rfl rfl Mq.fnNamed Tryz.func3 Mq.facts Mq.isInst Mq.isWrap (fun os started H enc _ => topFoldsProved_lifted os started H enc)
end Go.Proofs.YtkeokgcdnfjaaaaGreatDoor
