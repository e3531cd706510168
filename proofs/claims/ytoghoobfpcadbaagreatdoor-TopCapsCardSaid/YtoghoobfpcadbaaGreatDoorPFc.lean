/- TopCaps: the card -/
import Derived.Test.YtoghoobfpcadbaaGreatDoorPFb
import Derived.Test.YtoghoobfpcadbaaGreatDoorRows
import Derived.Test.YtoghoobfpcadbaaGreatDoorCards
import Derived.Test.YtoghoobfpcadbaaGreatDoorTie
import Derived.LaidMore
import Derived.SevenTiedAt
import Derived.MakeChecks
import Derived.Lay
namespace Go.Proofs.YtoghoobfpcadbaaGreatDoor
open Go Go.RowKit Go.ChangeShapes Go.WideShapes Go.ChangeAt Go.Deep Go.Proofs

theorem topCapsProved : Rows.TopCapsCardSaid :=
  Claim7.holds_tied_plain_at .later [] [.data, .data, .data, .data, .sentinel, .sentinel, .pinned] true (true, "a959d74940f837c4b4c775850418b2adfdcd62b7d7a57d23a801bb56d00da99c") true
    topCapsProved_said (fun _ h => by cases h) Mq.wfText (fun _ h => by cases h) topCaps_row_tie rfl ⟨rfl, rfl⟩ Mq.mainIs rfl
    (fun f fn hf hfn => by
      obtain rfl : f = 3 := Option.some.inj (Mq.fnNamed.symm.trans hf) |>.symm
      obtain rfl : fn = Tryz.f3 := (Option.some.inj (Tryz.func3.symm.trans hfn)).symm
      exact ⟨Mq.looks, fun j t ht => by
        rw [Tryz.params3] at ht
        have hm : t ∈ [23, 24] := by simpa using Array.mem_of_getElem? ht
        have hall := Mq.wants
        exact (show Tryz.prog.wantsStandIn t = false by simpa using List.all_eq_true.1 hall t hm)⟩)
    (Mq.goesBy_none rfl Mq.noGoes)
end Go.Proofs.YtoghoobfpcadbaaGreatDoor
