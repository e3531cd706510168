/-
  DERIVED. GIVEN WITH THE SEED: THE CARDS: each row of YtamchppifbilpaaDoorRows.lean that lists a variable, with what it lists TIED to the program's text (the seventh form; the later family's looks); each row that meets fmt, with fmt's text TOLD by the authors' own Lean function (tested against real Go, not proved from fmt's source: count such statements apart). THE CARD IS WHAT COUNTS. Prove the row's statement (the work); the ties are given (YtamchppifbilpaaDoorTie.lean); close each card by the builder's one call (the guide's Derived/Test/ToyasCard.lean, 'card_holds'). Laid BY PROGRAM, IN A SANDBOX (cutbox-door.mjs). By AI agents, Wed Nov 11 2026. No macro, syntax, notation, axiom, sorry.
-/
import Derived.Test.YtamchppifbilpaaDoorRows
import GoSem.ClaimSeven
namespace Go.Proofs.YtamchppifbilpaaDoor
namespace Rows

/-- THE TIED CARD OF 'marqueelaw03.ParamBack'. -/
def paramBackCard : Claim7 := { stood := { row := paramBackRow, standIns := [], harness := (true, "aa6b2fcb21a451277e0a9931bfda385c005fa23d4733efeda934e72338493a41"), looks := false }, kinds := [], alts := [], laidByText := true, laidKinds := [.data, .data, .data], laidTests := true, laidLooks := .later }
def ParamBackCardSaid : Prop := Claim7.holds Tryd.pinned (.plain (OpenSpec.ofChange paramBackSpec)) paramBackCard

/-- THE SECOND FORM's CARD OF 'marqueelaw03.ParamBack'. -/
def paramBackUptoCard : Claim7 := { stood := { row := paramBackUptoRow, standIns := [], harness := (true, "aa6b2fcb21a451277e0a9931bfda385c005fa23d4733efeda934e72338493a41"), looks := false }, kinds := [], alts := [], laidByText := true, laidKinds := [.data, .data, .data], laidTests := true, laidLooks := .later }
def ParamBackUptoCardSaid : Prop := Claim7.holds Tryd.pinned (.plain (OpenSpec.upto paramBackSpec)) paramBackUptoCard
end Rows
end Go.Proofs.YtamchppifbilpaaDoor
