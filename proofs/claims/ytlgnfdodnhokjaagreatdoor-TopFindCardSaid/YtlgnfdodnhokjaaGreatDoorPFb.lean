/- TopFind: said -/
import Derived.Test.YtlgnfdodnhokjaaGreatDoorRows
import Derived.Test.YtlgnfdodnhokjaaGreatDoorCards
import Derived.Test.YtlgnfdodnhokjaaGreatDoorTie
import Derived.LaidMore
import Derived.SevenTiedAt
import Derived.MakeChecks
import Derived.Lay
import Derived.Test.YtlgnfdodnhokjaaGreatDoorKC
import Derived.Test.YtlgnfdodnhokjaaGreatDoorPFa
namespace Go.Proofs.YtlgnfdodnhokjaaGreatDoor
open Go Go.RowKit Go.ChangeShapes Go.WideShapes Go.Proofs

theorem topFindProved_said : Rows.TopFindSaid :=
  OpenClaim.holds_of_wide 3 Tryz.f3 rfl rfl rfl rfl rfl rfl rfl ⟨rfl, rfl, rfl, rfl, rfl⟩ rfl rfl rfl rfl rfl Mq.fnNamed Tryz.func3 Mq.facts Mq.isInst Mq.isWrap (fun os started H enc _ => topFindProved_lifted os started H enc)
end Go.Proofs.YtlgnfdodnhokjaaGreatDoor
