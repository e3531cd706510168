/- TopFolds: the card -/
import Derived.Test.YtkeokgcdnfjaaaaGreatDoorPFb
import Derived.Test.YtkeokgcdnfjaaaaGreatDoorRows
import Derived.Test.YtkeokgcdnfjaaaaGreatDoorCards
import Derived.Test.YtkeokgcdnfjaaaaGreatDoorTie
import Derived.LaidMore
import Derived.SevenTiedAt
import Derived.MakeChecks
import Derived.Lay
namespace Go.Proofs.YtkeokgcdnfjaaaaGreatDoor
open Go Go.RowKit Go.ChangeShapes Go.WideShapes Go.ChangeAt Go.Deep Go.Proofs

theorem topFoldsProved : Rows.TopFoldsCardSaid :=
  Claim7.holds_tied_plain_at .later [] [.data, .data, .data, .data, .sentinel, .sentinel, .pinned] true (true, "5441e2d567fe26c18984ae4080e9b5e6e8584b9808fae4a37cfd10feda0c8b7c") true
    topFoldsProved_said (fun _ h => by cases h) Mq.wfText (fun _ h => by cases h) topFolds_row_tie rfl ⟨rfl, rfl⟩ Mq.mainIs rfl
    (fun f fn hf hfn => by
      obtain rfl : f = 3 := Option.some.inj (Mq.fnNamed.symm.trans hf) |>.symm
      obtain rfl : fn = Tryz.f3 := (Option.some.inj (Tryz.func3.symm.trans hfn)).symm
      exact ⟨Mq.looks, fun j t ht => by
        rw [Tryz.params3] at ht
        have hm : t ∈ [23, 24] := by simpa using Array.mem_of_getElem? ht
        have hall := Mq.wants
        exact (show Tryz.prog.wantsStandIn t = false by simpa using List.all_eq_true.1 hall t hm)⟩)
    (Mq.goesBy_none rfl Mq.noGoes)
end Go.Proofs.YtkeokgcdnfjaaaaGreatDoor
