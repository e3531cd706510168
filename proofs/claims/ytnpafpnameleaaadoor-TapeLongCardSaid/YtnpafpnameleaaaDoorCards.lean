/-
  DERIVED. GIVEN WITH THE SEED: THE CARDS: each row of YtnpafpnameleaaaDoorRows.lean that lists a variable, with what it lists TIED to the program's text (the seventh form; the later family's looks); each row that meets fmt, with fmt's text TOLD by the authors' own Lean function (tested against real Go, not proved from fmt's source: count such statements apart). THE CARD IS WHAT COUNTS. Prove the row's statement (the work); the ties are given (YtnpafpnameleaaaDoorTie.lean); close each card by the builder's one call (the guide's Derived/Test/ToyasCard.lean, 'card_holds'). Laid BY PROGRAM, IN A SANDBOX (cutbox-door.mjs). By AI agents, Wed Nov 11 2026. No macro, syntax, notation, axiom, sorry.
-/
import Derived.Test.YtnpafpnameleaaaDoorRows
import GoSem.ClaimSeven
namespace Go.Proofs.YtnpafpnameleaaaDoor
namespace Rows

/-- THE TIED CARD OF 'marqueelaw30.TapeLines'. -/
def tapeLinesCard : Claim7 := { stood := { row := tapeLinesRow, standIns := [], harness := (true, "e79aa9df2ab57c40cadb5d916362ce936d9213faa6fd5d34d3d746dfb5cff1e7"), looks := true }, kinds := [], alts := [], laidByText := true, laidKinds := [.data, .data, .data, .data, .sentinel, .sentinel, .pinned], laidTests := true, laidLooks := .later }
def TapeLinesCardSaid : Prop := Claim7.holds Tryd.pinned (.plain (OpenSpec.ofChange tapeLinesSpec)) tapeLinesCard

/-- THE TIED CARD OF 'marqueelaw30.TapeParses'. -/
def tapeParsesCard : Claim7 := { stood := { row := tapeParsesRow, standIns := [], harness := (true, "e79aa9df2ab57c40cadb5d916362ce936d9213faa6fd5d34d3d746dfb5cff1e7"), looks := true }, kinds := [], alts := [], laidByText := true, laidKinds := [.data, .data, .data, .data, .sentinel, .sentinel, .pinned], laidTests := true, laidLooks := .later }
def TapeParsesCardSaid : Prop := Claim7.holds Tryd.pinned (.plain (OpenSpec.ofChange tapeParsesSpec)) tapeParsesCard

/-- THE TIED CARD OF 'marqueelaw30.TapeReads'. -/
def tapeReadsCard : Claim7 := { stood := { row := tapeReadsRow, standIns := [], harness := (true, "e79aa9df2ab57c40cadb5d916362ce936d9213faa6fd5d34d3d746dfb5cff1e7"), looks := true }, kinds := [], alts := [], laidByText := true, laidKinds := [.data, .data, .data, .data, .sentinel, .sentinel, .pinned], laidTests := true, laidLooks := .later }
def TapeReadsCardSaid : Prop := Claim7.holds Tryd.pinned (.plain (OpenSpec.ofChange tapeReadsSpec)) tapeReadsCard

/-- THE TIED CARD OF 'marqueelaw30.TapeLong'. -/
def tapeLongCard : Claim7 := { stood := { row := tapeLongRow, standIns := [], harness := (true, "e79aa9df2ab57c40cadb5d916362ce936d9213faa6fd5d34d3d746dfb5cff1e7"), looks := true }, kinds := [], alts := [], laidByText := true, laidKinds := [.data, .data, .data, .data, .sentinel, .sentinel, .pinned], laidTests := true, laidLooks := .later }
def TapeLongCardSaid : Prop := Claim7.holds Tryd.pinned (.plain (OpenSpec.ofChange tapeLongSpec)) tapeLongCard

/-- THE TIED CARD OF 'marqueelaw30.TapeWrites'. -/
def tapeWritesCard : Claim7 := { stood := { row := tapeWritesRow, standIns := [], harness := (true, "e79aa9df2ab57c40cadb5d916362ce936d9213faa6fd5d34d3d746dfb5cff1e7"), looks := true }, kinds := [], alts := [], laidByText := true, laidKinds := [.data, .data, .data, .data, .sentinel, .sentinel, .pinned], laidTests := true, laidLooks := .later }
def TapeWritesCardSaid : Prop := Claim7.holds Tryd.pinned (.plain (OpenSpec.ofChange tapeWritesSpec)) tapeWritesCard

/-- THE SECOND FORM's CARD OF 'marqueelaw30.TapeLines'. -/
def tapeLinesUptoCard : Claim7 := { stood := { row := tapeLinesUptoRow, standIns := [], harness := (true, "e79aa9df2ab57c40cadb5d916362ce936d9213faa6fd5d34d3d746dfb5cff1e7"), looks := true }, kinds := [], alts := [], laidByText := true, laidKinds := [.data, .data, .data, .data, .sentinel, .sentinel, .pinned], laidTests := true, laidLooks := .later }
def TapeLinesUptoCardSaid : Prop := Claim7.holds Tryd.pinned (.plain (OpenSpec.upto tapeLinesSpec)) tapeLinesUptoCard

/-- THE SECOND FORM's CARD OF 'marqueelaw30.TapeParses'. -/
def tapeParsesUptoCard : Claim7 := { stood := { row := tapeParsesUptoRow, standIns := [], harness := (true, "e79aa9df2ab57c40cadb5d916362ce936d9213faa6fd5d34d3d746dfb5cff1e7"), looks := true }, kinds := [], alts := [], laidByText := true, laidKinds := [.data, .data, .data, .data, .sentinel, .sentinel, .pinned], laidTests := true, laidLooks := .later }
def TapeParsesUptoCardSaid : Prop := Claim7.holds Tryd.pinned (.plain (OpenSpec.upto tapeParsesSpec)) tapeParsesUptoCard

/-- THE SECOND FORM's CARD OF 'marqueelaw30.TapeReads'. -/
def tapeReadsUptoCard : Claim7 := { stood := { row := tapeReadsUptoRow, standIns := [], harness := (true, "e79aa9df2ab57c40cadb5d916362ce936d9213faa6fd5d34d3d746dfb5cff1e7"), looks := true }, kinds := [], alts := [], laidByText := true, laidKinds := [.data, .data, .data, .data, .sentinel, .sentinel, .pinned], laidTests := true, laidLooks := .later }
def TapeReadsUptoCardSaid : Prop := Claim7.holds Tryd.pinned (.plain (OpenSpec.upto tapeReadsSpec)) tapeReadsUptoCard

/-- THE SECOND FORM's CARD OF 'marqueelaw30.TapeLong'. -/
def tapeLongUptoCard : Claim7 := { stood := { row := tapeLongUptoRow, standIns := [], harness := (true, "e79aa9df2ab57c40cadb5d916362ce936d9213faa6fd5d34d3d746dfb5cff1e7"), looks := true }, kinds := [], alts := [], laidByText := true, laidKinds := [.data, .data, .data, .data, .sentinel, .sentinel, .pinned], laidTests := true, laidLooks := .later }
def TapeLongUptoCardSaid : Prop := Claim7.holds Tryd.pinned (.plain (OpenSpec.upto tapeLongSpec)) tapeLongUptoCard

/-- THE SECOND FORM's CARD OF 'marqueelaw30.TapeWrites'. -/
def tapeWritesUptoCard : Claim7 := { stood := { row := tapeWritesUptoRow, standIns := [], harness := (true, "e79aa9df2ab57c40cadb5d916362ce936d9213faa6fd5d34d3d746dfb5cff1e7"), looks := true }, kinds := [], alts := [], laidByText := true, laidKinds := [.data, .data, .data, .data, .sentinel, .sentinel, .pinned], laidTests := true, laidLooks := .later }
def TapeWritesUptoCardSaid : Prop := Claim7.holds Tryd.pinned (.plain (OpenSpec.upto tapeWritesSpec)) tapeWritesUptoCard
end Rows
end Go.Proofs.YtnpafpnameleaaaDoor
