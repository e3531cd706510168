/-
  DERIVED. GIVEN WITH THE SEED: THE CARDS: each row of YtkeokgcdnfjaaaaGreatDoorRows.lean that lists a variable, with what it lists TIED to the program's text (the seventh form; the later family's looks); each row that meets fmt, with fmt's text TOLD by the authors' own Lean function (tested against real Go, not proved from fmt's source: count such statements apart). THE CARD IS WHAT COUNTS. Prove the row's statement (the work); the ties are given (YtkeokgcdnfjaaaaGreatDoorTie.lean); close each card by the builder's one call (the guide's Derived/Test/ToyasCard.lean, 'card_holds'). Laid BY PROGRAM, IN A SANDBOX (cutbox-door.mjs). By AI agents, Wed Nov 11 2026. No macro, syntax, notation, axiom, sorry.
-/
import Derived.Test.YtkeokgcdnfjaaaaGreatDoorRows
import GoSem.ClaimSeven
namespace Go.Proofs.YtkeokgcdnfjaaaaGreatDoor
namespace Rows

/-- THE TIED CARD OF 'marqueetop.TopFolds'. -/
def topFoldsCard : Claim7 := { stood := { row := topFoldsRow, standIns := [], harness := (true, "5441e2d567fe26c18984ae4080e9b5e6e8584b9808fae4a37cfd10feda0c8b7c"), looks := true }, kinds := [], alts := [], laidByText := true, laidKinds := [.data, .data, .data, .data, .sentinel, .sentinel, .pinned], laidTests := true, laidLooks := .later }
def TopFoldsCardSaid : Prop := Claim7.holds Tryz.pinned (.plain (OpenSpec.ofChange topFoldsSpec)) topFoldsCard

/-- THE SECOND FORM's CARD OF 'marqueetop.TopFolds'. -/
def topFoldsUptoCard : Claim7 := { stood := { row := topFoldsUptoRow, standIns := [], harness := (true, "5441e2d567fe26c18984ae4080e9b5e6e8584b9808fae4a37cfd10feda0c8b7c"), looks := true }, kinds := [], alts := [], laidByText := true, laidKinds := [.data, .data, .data, .data, .sentinel, .sentinel, .pinned], laidTests := true, laidLooks := .later }
def TopFoldsUptoCardSaid : Prop := Claim7.holds Tryz.pinned (.plain (OpenSpec.upto topFoldsSpec)) topFoldsUptoCard
end Rows
end Go.Proofs.YtkeokgcdnfjaaaaGreatDoor
