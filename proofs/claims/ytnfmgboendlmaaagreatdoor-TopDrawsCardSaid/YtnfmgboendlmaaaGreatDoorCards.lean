/-
  DERIVED. GIVEN WITH THE SEED: THE CARDS: each row of YtnfmgboendlmaaaGreatDoorRows.lean that lists a variable, with what it lists TIED to the program's text (the seventh form; the later family's looks); each row that meets fmt, with fmt's text TOLD by the authors' own Lean function (tested against real Go, not proved from fmt's source: count such statements apart). THE CARD IS WHAT COUNTS. Prove the row's statement (the work); the ties are given (YtnfmgboendlmaaaGreatDoorTie.lean); close each card by the builder's one call (the guide's Derived/Test/ToyasCard.lean, 'card_holds'). Laid BY PROGRAM, IN A SANDBOX (cutbox-door.mjs). By AI agents, Wed Nov 11 2026. No macro, syntax, notation, axiom, sorry.
-/
import Derived.Test.YtnfmgboendlmaaaGreatDoorRows
import GoSem.ClaimSeven
namespace Go.Proofs.YtnfmgboendlmaaaGreatDoor
namespace Rows

/-- THE TIED CARD OF 'marqueetop.TopDraws'. -/
def topDrawsCard : Claim7 := { stood := { row := topDrawsRow, standIns := [], harness := (true, "7064837a841503b15787ceea8a7cf6a878b67241c2f378105d14968c08decdbd"), looks := true }, kinds := [], alts := [], laidByText := true, laidKinds := [.data, .data, .data, .pinned, .data, .sentinel, .sentinel], laidTests := true, laidLooks := .later }
def TopDrawsCardSaid : Prop := Claim7.holds Tryz.pinned (.plain (OpenSpec.ofChange topDrawsSpec)) topDrawsCard

/-- THE SECOND FORM's CARD OF 'marqueetop.TopDraws'. -/
def topDrawsUptoCard : Claim7 := { stood := { row := topDrawsUptoRow, standIns := [], harness := (true, "7064837a841503b15787ceea8a7cf6a878b67241c2f378105d14968c08decdbd"), looks := true }, kinds := [], alts := [], laidByText := true, laidKinds := [.data, .data, .data, .pinned, .data, .sentinel, .sentinel], laidTests := true, laidLooks := .later }
def TopDrawsUptoCardSaid : Prop := Claim7.holds Tryz.pinned (.plain (OpenSpec.upto topDrawsSpec)) topDrawsUptoCard
end Rows
end Go.Proofs.YtnfmgboendlmaaaGreatDoor
