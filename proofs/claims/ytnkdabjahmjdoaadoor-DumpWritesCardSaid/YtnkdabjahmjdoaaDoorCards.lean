/-
  DERIVED. GIVEN WITH THE SEED: THE CARDS: each row of YtnkdabjahmjdoaaDoorRows.lean that lists a variable, with what it lists TIED to the program's text (the seventh form; the later family's looks); each row that meets fmt, with fmt's text TOLD by the authors' own Lean function (tested against real Go, not proved from fmt's source: count such statements apart). THE CARD IS WHAT COUNTS. Prove the row's statement (the work); the ties are given (YtnkdabjahmjdoaaDoorTie.lean); close each card by the builder's one call (the guide's Derived/Test/ToyasCard.lean, 'card_holds'). Laid BY PROGRAM, IN A SANDBOX (cutbox-door.mjs). By AI agents, Wed Nov 11 2026. No macro, syntax, notation, axiom, sorry.
-/
import Derived.Test.YtnkdabjahmjdoaaDoorRows
import GoSem.ClaimSeven
namespace Go.Proofs.YtnkdabjahmjdoaaDoor
namespace Rows

/-- THE TIED CARD OF 'marqueelaw31.DumpBriefs'. -/
def dumpBriefsCard : Claim7 := { stood := { row := dumpBriefsRow, standIns := [], harness := (true, "7365d6f5da810aecb5b2ec5ae580fdf34ce7de5fa3d6f4551cce6235a44e9357"), looks := true }, kinds := [], alts := [], laidByText := true, laidKinds := [.data, .data, .data], laidTests := true, laidLooks := .later }
def DumpBriefsCardSaid : Prop := Claim7.holds Tryd.pinned (.plain (OpenSpec.ofChange dumpBriefsSpec)) dumpBriefsCard

/-- THE TIED CARD OF 'marqueelaw31.DumpApart'. -/
def dumpApartCard : Claim7 := { stood := { row := dumpApartRow, standIns := [], harness := (true, "7365d6f5da810aecb5b2ec5ae580fdf34ce7de5fa3d6f4551cce6235a44e9357"), looks := true }, kinds := [], alts := [], laidByText := true, laidKinds := [.data, .data, .data], laidTests := true, laidLooks := .later }
def DumpApartCardSaid : Prop := Claim7.holds Tryd.pinned (.plain (OpenSpec.ofChange dumpApartSpec)) dumpApartCard

/-- THE TIED CARD OF 'marqueelaw31.DumpLines'. -/
def dumpLinesCard : Claim7 := { stood := { row := dumpLinesRow, standIns := [], harness := (true, "7365d6f5da810aecb5b2ec5ae580fdf34ce7de5fa3d6f4551cce6235a44e9357"), looks := true }, kinds := [], alts := [], laidByText := true, laidKinds := [.data, .data, .data, .data, .sentinel, .sentinel, .pinned], laidTests := true, laidLooks := .later }
def DumpLinesCardSaid : Prop := Claim7.holds Tryd.pinned (.plain (OpenSpec.ofChange dumpLinesSpec)) dumpLinesCard

/-- THE TIED CARD OF 'marqueelaw31.DumpParses'. -/
def dumpParsesCard : Claim7 := { stood := { row := dumpParsesRow, standIns := [], harness := (true, "7365d6f5da810aecb5b2ec5ae580fdf34ce7de5fa3d6f4551cce6235a44e9357"), looks := true }, kinds := [], alts := [], laidByText := true, laidKinds := [.data, .data, .data, .data, .sentinel, .sentinel, .pinned], laidTests := true, laidLooks := .later }
def DumpParsesCardSaid : Prop := Claim7.holds Tryd.pinned (.plain (OpenSpec.ofChange dumpParsesSpec)) dumpParsesCard

/-- THE TIED CARD OF 'marqueelaw31.DumpReads'. -/
def dumpReadsCard : Claim7 := { stood := { row := dumpReadsRow, standIns := [], harness := (true, "7365d6f5da810aecb5b2ec5ae580fdf34ce7de5fa3d6f4551cce6235a44e9357"), looks := true }, kinds := [], alts := [], laidByText := true, laidKinds := [.data, .data, .data, .data, .sentinel, .sentinel, .pinned], laidTests := true, laidLooks := .later }
def DumpReadsCardSaid : Prop := Claim7.holds Tryd.pinned (.plain (OpenSpec.ofChange dumpReadsSpec)) dumpReadsCard

/-- THE TIED CARD OF 'marqueelaw31.DumpWrites'. -/
def dumpWritesCard : Claim7 := { stood := { row := dumpWritesRow, standIns := [], harness := (true, "7365d6f5da810aecb5b2ec5ae580fdf34ce7de5fa3d6f4551cce6235a44e9357"), looks := true }, kinds := [], alts := [], laidByText := true, laidKinds := [.data, .data, .data, .data, .sentinel, .sentinel, .pinned], laidTests := true, laidLooks := .later }
def DumpWritesCardSaid : Prop := Claim7.holds Tryd.pinned (.plain (OpenSpec.ofChange dumpWritesSpec)) dumpWritesCard

/-- THE SECOND FORM's CARD OF 'marqueelaw31.DumpBriefs'. -/
def dumpBriefsUptoCard : Claim7 := { stood := { row := dumpBriefsUptoRow, standIns := [], harness := (true, "7365d6f5da810aecb5b2ec5ae580fdf34ce7de5fa3d6f4551cce6235a44e9357"), looks := true }, kinds := [], alts := [], laidByText := true, laidKinds := [.data, .data, .data], laidTests := true, laidLooks := .later }
def DumpBriefsUptoCardSaid : Prop := Claim7.holds Tryd.pinned (.plain (OpenSpec.upto dumpBriefsSpec)) dumpBriefsUptoCard

/-- THE SECOND FORM's CARD OF 'marqueelaw31.DumpApart'. -/
def dumpApartUptoCard : Claim7 := { stood := { row := dumpApartUptoRow, standIns := [], harness := (true, "7365d6f5da810aecb5b2ec5ae580fdf34ce7de5fa3d6f4551cce6235a44e9357"), looks := true }, kinds := [], alts := [], laidByText := true, laidKinds := [.data, .data, .data], laidTests := true, laidLooks := .later }
def DumpApartUptoCardSaid : Prop := Claim7.holds Tryd.pinned (.plain (OpenSpec.upto dumpApartSpec)) dumpApartUptoCard

/-- THE SECOND FORM's CARD OF 'marqueelaw31.DumpLines'. -/
def dumpLinesUptoCard : Claim7 := { stood := { row := dumpLinesUptoRow, standIns := [], harness := (true, "7365d6f5da810aecb5b2ec5ae580fdf34ce7de5fa3d6f4551cce6235a44e9357"), looks := true }, kinds := [], alts := [], laidByText := true, laidKinds := [.data, .data, .data, .data, .sentinel, .sentinel, .pinned], laidTests := true, laidLooks := .later }
def DumpLinesUptoCardSaid : Prop := Claim7.holds Tryd.pinned (.plain (OpenSpec.upto dumpLinesSpec)) dumpLinesUptoCard

/-- THE SECOND FORM's CARD OF 'marqueelaw31.DumpParses'. -/
def dumpParsesUptoCard : Claim7 := { stood := { row := dumpParsesUptoRow, standIns := [], harness := (true, "7365d6f5da810aecb5b2ec5ae580fdf34ce7de5fa3d6f4551cce6235a44e9357"), looks := true }, kinds := [], alts := [], laidByText := true, laidKinds := [.data, .data, .data, .data, .sentinel, .sentinel, .pinned], laidTests := true, laidLooks := .later }
def DumpParsesUptoCardSaid : Prop := Claim7.holds Tryd.pinned (.plain (OpenSpec.upto dumpParsesSpec)) dumpParsesUptoCard

/-- THE SECOND FORM's CARD OF 'marqueelaw31.DumpReads'. -/
def dumpReadsUptoCard : Claim7 := { stood := { row := dumpReadsUptoRow, standIns := [], harness := (true, "7365d6f5da810aecb5b2ec5ae580fdf34ce7de5fa3d6f4551cce6235a44e9357"), looks := true }, kinds := [], alts := [], laidByText := true, laidKinds := [.data, .data, .data, .data, .sentinel, .sentinel, .pinned], laidTests := true, laidLooks := .later }
def DumpReadsUptoCardSaid : Prop := Claim7.holds Tryd.pinned (.plain (OpenSpec.upto dumpReadsSpec)) dumpReadsUptoCard

/-- THE SECOND FORM's CARD OF 'marqueelaw31.DumpWrites'. -/
def dumpWritesUptoCard : Claim7 := { stood := { row := dumpWritesUptoRow, standIns := [], harness := (true, "7365d6f5da810aecb5b2ec5ae580fdf34ce7de5fa3d6f4551cce6235a44e9357"), looks := true }, kinds := [], alts := [], laidByText := true, laidKinds := [.data, .data, .data, .data, .sentinel, .sentinel, .pinned], laidTests := true, laidLooks := .later }
def DumpWritesUptoCardSaid : Prop := Claim7.holds Tryd.pinned (.plain (OpenSpec.upto dumpWritesSpec)) dumpWritesUptoCard
end Rows
end Go.Proofs.YtnkdabjahmjdoaaDoor
