/- TopFind: the card -/
import Derived.Test.YtlgnfdodnhokjaaGreatDoorPFb
import Derived.Test.YtlgnfdodnhokjaaGreatDoorRows
import Derived.Test.YtlgnfdodnhokjaaGreatDoorCards
import Derived.Test.YtlgnfdodnhokjaaGreatDoorTie
import Derived.LaidMore
import Derived.SevenTiedAt
import Derived.MakeChecks
import Derived.Lay
namespace Go.Proofs.YtlgnfdodnhokjaaGreatDoor
open Go Go.RowKit Go.ChangeShapes Go.WideShapes Go.ChangeAt Go.Deep Go.Proofs

theorem topFindProved : Rows.TopFindCardSaid :=
  Claim7.holds_tied_plain_at .later [] [.data, .data, .data, .data, .sentinel, .sentinel, .pinned] true (true, "d4aee51401527a95e32f6b35c38322e64cbd44896987fa1861a4b487e420f5b7") true
    topFindProved_said (fun _ h => by cases h) Mq.wfText (fun _ h => by cases h) topFind_row_tie rfl ⟨rfl, rfl⟩ Mq.mainIs rfl
    (fun f fn hf hfn => by
      obtain rfl : f = 3 := Option.some.inj (Mq.fnNamed.symm.trans hf) |>.symm
      obtain rfl : fn = Tryz.f3 := (Option.some.inj (Tryz.func3.symm.trans hfn)).symm
      exact ⟨Mq.looks, fun j t ht => by
        rw [Tryz.params3] at ht
        have hm : t ∈ [23, 24, 9] := by simpa using Array.mem_of_getElem? ht
        have hall := Mq.wants
        exact (show Tryz.prog.wantsStandIn t = false by simpa using List.all_eq_true.1 hall t hm)⟩)
    (Mq.goesBy_none rfl Mq.noGoes)
end Go.Proofs.YtlgnfdodnhokjaaGreatDoor
