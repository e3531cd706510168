/-
  DERIVED. GIVEN WITH THE SEED: THE CARDS: each row of YtoghoobfpcadbaaGreatDoorRows.lean that lists a variable, with what it lists TIED to the program's text (the seventh form; the later family's looks); each row that meets fmt, with fmt's text TOLD by the authors' own Lean function (tested against real Go, not proved from fmt's source: count such statements apart). THE CARD IS WHAT COUNTS. Prove the row's statement (the work); the ties are given (YtoghoobfpcadbaaGreatDoorTie.lean); close each card by the builder's one call (the guide's Derived/Test/ToyasCard.lean, 'card_holds'). Laid BY PROGRAM, IN A SANDBOX (cutbox-door.mjs). By AI agents, Wed Nov 11 2026. No macro, syntax, notation, axiom, sorry.
-/
import Derived.Test.YtoghoobfpcadbaaGreatDoorRows
import GoSem.ClaimSeven
namespace Go.Proofs.YtoghoobfpcadbaaGreatDoor
namespace Rows

/-- THE TIED CARD OF 'marqueetop.TopCaps'. -/
def topCapsCard : Claim7 := { stood := { row := topCapsRow, standIns := [], harness := (true, "a959d74940f837c4b4c775850418b2adfdcd62b7d7a57d23a801bb56d00da99c"), looks := true }, kinds := [], alts := [], laidByText := true, laidKinds := [.data, .data, .data, .data, .sentinel, .sentinel, .pinned], laidTests := true, laidLooks := .later }
def TopCapsCardSaid : Prop := Claim7.holds Tryz.pinned (.plain (OpenSpec.ofChange topCapsSpec)) topCapsCard

/-- THE SECOND FORM's CARD OF 'marqueetop.TopCaps'. -/
def topCapsUptoCard : Claim7 := { stood := { row := topCapsUptoRow, standIns := [], harness := (true, "a959d74940f837c4b4c775850418b2adfdcd62b7d7a57d23a801bb56d00da99c"), looks := true }, kinds := [], alts := [], laidByText := true, laidKinds := [.data, .data, .data, .data, .sentinel, .sentinel, .pinned], laidTests := true, laidLooks := .later }
def TopCapsUptoCardSaid : Prop := Claim7.holds Tryz.pinned (.plain (OpenSpec.upto topCapsSpec)) topCapsUptoCard
end Rows
end Go.Proofs.YtoghoobfpcadbaaGreatDoor
