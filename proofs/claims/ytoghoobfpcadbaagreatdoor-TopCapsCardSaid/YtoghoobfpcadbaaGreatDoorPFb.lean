/- TopCaps: said -/
import Derived.Test.YtoghoobfpcadbaaGreatDoorRows
import Derived.Test.YtoghoobfpcadbaaGreatDoorCards
import Derived.Test.YtoghoobfpcadbaaGreatDoorTie
import Derived.LaidMore
import Derived.SevenTiedAt
import Derived.MakeChecks
import Derived.Lay
import Derived.Test.YtoghoobfpcadbaaGreatDoorKC
import Derived.Test.YtoghoobfpcadbaaGreatDoorPFa
namespace Go.Proofs.YtoghoobfpcadbaaGreatDoor
open Go Go.RowKit Go.ChangeShapes Go.WideShapes Go.Proofs

theorem topCapsProved_said : Rows.TopCapsSaid :=
  OpenClaim.holds_of_wide 3 Tryz.f3 rfl rfl rfl rfl rfl rfl rfl ⟨rfl, rfl, rfl, rfl, rfl⟩ rfl rfl rfl rfl rfl Mq.fnNamed Tryz.func3 Mq.facts Mq.isInst Mq.isWrap (fun os started H enc _ => topCapsProved_lifted os started H enc)
end Go.Proofs.YtoghoobfpcadbaaGreatDoor
