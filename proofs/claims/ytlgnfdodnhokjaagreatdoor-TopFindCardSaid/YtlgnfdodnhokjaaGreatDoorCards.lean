/-
  DERIVED. GIVEN WITH THE SEED: THE CARDS: each row of YtlgnfdodnhokjaaGreatDoorRows.lean that lists a variable, with what it lists TIED to the program's text (the seventh form; the later family's looks); each row that meets fmt, with fmt's text TOLD by the authors' own Lean function (tested against real Go, not proved from fmt's source: count such statements apart). THE CARD IS WHAT COUNTS. Prove the row's statement (the work); the ties are given (YtlgnfdodnhokjaaGreatDoorTie.lean); close each card by the builder's one call (the guide's Derived/Test/ToyasCard.lean, 'card_holds'). Laid BY PROGRAM, IN A SANDBOX (cutbox-door.mjs). By AI agents, Wed Nov 11 2026. No macro, syntax, notation, axiom, sorry.
-/
import Derived.Test.YtlgnfdodnhokjaaGreatDoorRows
import GoSem.ClaimSeven
namespace Go.Proofs.YtlgnfdodnhokjaaGreatDoor
namespace Rows

/-- THE TIED CARD OF 'marqueetop.TopFind'. -/
def topFindCard : Claim7 := { stood := { row := topFindRow, standIns := [], harness := (true, "d4aee51401527a95e32f6b35c38322e64cbd44896987fa1861a4b487e420f5b7"), looks := true }, kinds := [], alts := [], laidByText := true, laidKinds := [.data, .data, .data, .data, .sentinel, .sentinel, .pinned], laidTests := true, laidLooks := .later }
def TopFindCardSaid : Prop := Claim7.holds Tryz.pinned (.plain (OpenSpec.ofChange topFindSpec)) topFindCard

/-- THE SECOND FORM's CARD OF 'marqueetop.TopFind'. -/
def topFindUptoCard : Claim7 := { stood := { row := topFindUptoRow, standIns := [], harness := (true, "d4aee51401527a95e32f6b35c38322e64cbd44896987fa1861a4b487e420f5b7"), looks := true }, kinds := [], alts := [], laidByText := true, laidKinds := [.data, .data, .data, .data, .sentinel, .sentinel, .pinned], laidTests := true, laidLooks := .later }
def TopFindUptoCardSaid : Prop := Claim7.holds Tryz.pinned (.plain (OpenSpec.upto topFindSpec)) topFindUptoCard
end Rows
end Go.Proofs.YtlgnfdodnhokjaaGreatDoor
