/-
  DERIVED. GIVEN WITH THE SEED: THE CARDS: each row of YtojfodeienchfaaDoorRows.lean that lists a variable, with what it lists TIED to the program's text (the seventh form; the later family's looks); each row that meets fmt, with fmt's text TOLD by the authors' own Lean function (tested against real Go, not proved from fmt's source: count such statements apart). THE CARD IS WHAT COUNTS. Prove the row's statement (the work); the ties are given (YtojfodeienchfaaDoorTie.lean); close each card by the builder's one call (the guide's Derived/Test/ToyasCard.lean, 'card_holds'). Laid BY PROGRAM, IN A SANDBOX (cutbox-door.mjs). By AI agents, Wed Nov 11 2026. No macro, syntax, notation, axiom, sorry.
-/
import Derived.Test.YtojfodeienchfaaDoorRows
import GoSem.ClaimSeven
namespace Go.Proofs.YtojfodeienchfaaDoor
namespace Rows

/-- THE TIED CARD OF 'marqueelaw05.AttrRight'. -/
def attrRightCard : Claim7 := { stood := { row := attrRightRow, standIns := [], harness := (true, "f73b203f78d12fb843f2e5ca57bd6872e0bb55a001550d917978d2265f6e6c2d"), looks := false }, kinds := [], alts := [], laidByText := true, laidKinds := [.data, .data, .data], laidTests := true, laidLooks := .later }
def AttrRightCardSaid : Prop := Claim7.holds Tryd.pinned (.plain (OpenSpec.ofChange attrRightSpec)) attrRightCard

/-- THE TIED CARD OF 'marqueelaw05.AttrTurns'. -/
def attrTurnsCard : Claim7 := { stood := { row := attrTurnsRow, standIns := [], harness := (true, "f73b203f78d12fb843f2e5ca57bd6872e0bb55a001550d917978d2265f6e6c2d"), looks := false }, kinds := [], alts := [], laidByText := true, laidKinds := [.data, .data, .data], laidTests := true, laidLooks := .later }
def AttrTurnsCardSaid : Prop := Claim7.holds Tryd.pinned (.plain (OpenSpec.ofChange attrTurnsSpec)) attrTurnsCard

/-- THE TIED CARD OF 'marqueelaw05.AttrText'. -/
def attrTextCard : Claim7 := { stood := { row := attrTextRow, standIns := [], harness := (true, "f73b203f78d12fb843f2e5ca57bd6872e0bb55a001550d917978d2265f6e6c2d"), looks := false }, kinds := [], alts := [], laidByText := true, laidKinds := [.data, .data, .data], laidTests := true, laidLooks := .later }
def AttrTextCardSaid : Prop := Claim7.holds Tryd.pinned (.plain (OpenSpec.ofChange attrTextSpec)) attrTextCard

/-- THE TIED CARD OF 'marqueelaw05.AttrKeeps'. -/
def attrKeepsCard : Claim7 := { stood := { row := attrKeepsRow, standIns := [], harness := (true, "f73b203f78d12fb843f2e5ca57bd6872e0bb55a001550d917978d2265f6e6c2d"), looks := false }, kinds := [], alts := [], laidByText := true, laidKinds := [.data, .data, .data], laidTests := true, laidLooks := .later }
def AttrKeepsCardSaid : Prop := Claim7.holds Tryd.pinned (.plain (OpenSpec.ofChange attrKeepsSpec)) attrKeepsCard

/-- THE TIED CARD OF 'marqueelaw05.AttrBack'. -/
def attrBackCard : Claim7 := { stood := { row := attrBackRow, standIns := [], harness := (true, "f73b203f78d12fb843f2e5ca57bd6872e0bb55a001550d917978d2265f6e6c2d"), looks := false }, kinds := [], alts := [], laidByText := true, laidKinds := [.data, .data, .data], laidTests := true, laidLooks := .later }
def AttrBackCardSaid : Prop := Claim7.holds Tryd.pinned (.plain (OpenSpec.ofChange attrBackSpec)) attrBackCard

/-- THE SECOND FORM's CARD OF 'marqueelaw05.AttrRight'. -/
def attrRightUptoCard : Claim7 := { stood := { row := attrRightUptoRow, standIns := [], harness := (true, "f73b203f78d12fb843f2e5ca57bd6872e0bb55a001550d917978d2265f6e6c2d"), looks := false }, kinds := [], alts := [], laidByText := true, laidKinds := [.data, .data, .data], laidTests := true, laidLooks := .later }
def AttrRightUptoCardSaid : Prop := Claim7.holds Tryd.pinned (.plain (OpenSpec.upto attrRightSpec)) attrRightUptoCard

/-- THE SECOND FORM's CARD OF 'marqueelaw05.AttrTurns'. -/
def attrTurnsUptoCard : Claim7 := { stood := { row := attrTurnsUptoRow, standIns := [], harness := (true, "f73b203f78d12fb843f2e5ca57bd6872e0bb55a001550d917978d2265f6e6c2d"), looks := false }, kinds := [], alts := [], laidByText := true, laidKinds := [.data, .data, .data], laidTests := true, laidLooks := .later }
def AttrTurnsUptoCardSaid : Prop := Claim7.holds Tryd.pinned (.plain (OpenSpec.upto attrTurnsSpec)) attrTurnsUptoCard

/-- THE SECOND FORM's CARD OF 'marqueelaw05.AttrText'. -/
def attrTextUptoCard : Claim7 := { stood := { row := attrTextUptoRow, standIns := [], harness := (true, "f73b203f78d12fb843f2e5ca57bd6872e0bb55a001550d917978d2265f6e6c2d"), looks := false }, kinds := [], alts := [], laidByText := true, laidKinds := [.data, .data, .data], laidTests := true, laidLooks := .later }
def AttrTextUptoCardSaid : Prop := Claim7.holds Tryd.pinned (.plain (OpenSpec.upto attrTextSpec)) attrTextUptoCard

/-- THE SECOND FORM's CARD OF 'marqueelaw05.AttrKeeps'. -/
def attrKeepsUptoCard : Claim7 := { stood := { row := attrKeepsUptoRow, standIns := [], harness := (true, "f73b203f78d12fb843f2e5ca57bd6872e0bb55a001550d917978d2265f6e6c2d"), looks := false }, kinds := [], alts := [], laidByText := true, laidKinds := [.data, .data, .data], laidTests := true, laidLooks := .later }
def AttrKeepsUptoCardSaid : Prop := Claim7.holds Tryd.pinned (.plain (OpenSpec.upto attrKeepsSpec)) attrKeepsUptoCard

/-- THE SECOND FORM's CARD OF 'marqueelaw05.AttrBack'. -/
def attrBackUptoCard : Claim7 := { stood := { row := attrBackUptoRow, standIns := [], harness := (true, "f73b203f78d12fb843f2e5ca57bd6872e0bb55a001550d917978d2265f6e6c2d"), looks := false }, kinds := [], alts := [], laidByText := true, laidKinds := [.data, .data, .data], laidTests := true, laidLooks := .later }
def AttrBackUptoCardSaid : Prop := Claim7.holds Tryd.pinned (.plain (OpenSpec.upto attrBackSpec)) attrBackUptoCard
end Rows
end Go.Proofs.YtojfodeienchfaaDoor
