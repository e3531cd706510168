/- TopDraws: the card -/
import Derived.Test.YtnfmgboendlmaaaGreatDoorPFb
import Derived.Test.YtnfmgboendlmaaaGreatDoorRows
import Derived.Test.YtnfmgboendlmaaaGreatDoorCards
import Derived.Test.YtnfmgboendlmaaaGreatDoorTie
import Derived.LaidMore
import Derived.SevenTiedAt
import Derived.MakeChecks
import Derived.Lay
namespace Go.Proofs.YtnfmgboendlmaaaGreatDoor
open Go Go.RowKit Go.ChangeShapes Go.WideShapes Go.ChangeAt Go.Deep Go.Proofs

theorem topDrawsProved : Rows.TopDrawsCardSaid :=
  Claim7.holds_tied_plain_at .later [] [.data, .data, .data, .pinned, .data, .sentinel, .sentinel] true (true, "7064837a841503b15787ceea8a7cf6a878b67241c2f378105d14968c08decdbd") true
    topDrawsProved_said (fun _ h => by cases h) Mq.wfText (fun _ h => by cases h) topDraws_row_tie rfl ⟨rfl, rfl⟩ Mq.mainIs rfl
    (fun f fn hf hfn => by
      obtain rfl : f = 3 := Option.some.inj (Mq.fnNamed.symm.trans hf) |>.symm
      obtain rfl : fn = Tryz.f3 := (Option.some.inj (Tryz.func3.symm.trans hfn)).symm
      exact ⟨Mq.looks, fun j t ht => by
        rw [Tryz.params3] at ht
        have hm : t ∈ [23, 24] := by simpa using Array.mem_of_getElem? ht
        have hall := Mq.wants
        exact (show Tryz.prog.wantsStandIn t = false by simpa using List.all_eq_true.1 hall t hm)⟩)
    (Mq.goesBy_none rfl Mq.noGoes)
end Go.Proofs.YtnfmgboendlmaaaGreatDoor
