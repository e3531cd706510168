/-
  DERIVED. GIVEN WITH THE SEED: THE CARDS: each row of YthfbdbahggklnaaDoorRows.lean that lists a variable, with what it lists TIED to the program's text (the seventh form; the later family's looks); each row that meets fmt, with fmt's text TOLD by the authors' own Lean function (tested against real Go, not proved from fmt's source: count such statements apart). THE CARD IS WHAT COUNTS. Prove the row's statement (the work); the ties are given (YthfbdbahggklnaaDoorTie.lean); close each card by the builder's one call (the guide's Derived/Test/ToyasCard.lean, 'card_holds'). Laid BY PROGRAM, IN A SANDBOX (cutbox-door.mjs). By AI agents, Wed Nov 11 2026. No macro, syntax, notation, axiom, sorry.
-/
import Derived.Test.YthfbdbahggklnaaDoorRows
import GoSem.ClaimSeven
namespace Go.Proofs.YthfbdbahggklnaaDoor
namespace Rows

/-- THE TIED CARD OF 'marqueelaw11.TabsHas'. -/
def tabsHasCard : Claim7 := { stood := { row := tabsHasRow, standIns := [], harness := (true, "61318a74a0afbbec09a38318ba2c956ce25d79bb808ade5bd6edd39f94bc4152"), looks := false }, kinds := [], alts := [], laidByText := true, laidKinds := [.data], laidTests := true, laidLooks := .later }
def TabsHasCardSaid : Prop := Claim7.holds Tryd.pinned (.plain (OpenSpec.ofChange tabsHasSpec)) tabsHasCard

/-- THE TIED CARD OF 'marqueelaw11.TabsPlays'. -/
def tabsPlaysCard : Claim7 := { stood := { row := tabsPlaysRow, standIns := [], harness := (true, "61318a74a0afbbec09a38318ba2c956ce25d79bb808ade5bd6edd39f94bc4152"), looks := false }, kinds := [], alts := [], laidByText := true, laidKinds := [.data], laidTests := true, laidLooks := .later }
def TabsPlaysCardSaid : Prop := Claim7.holds Tryd.pinned (.plain (OpenSpec.ofChange tabsPlaysSpec)) tabsPlaysCard

/-- THE TIED CARD OF 'marqueelaw11.TabsSteps'. -/
def tabsStepsCard : Claim7 := { stood := { row := tabsStepsRow, standIns := [], harness := (true, "61318a74a0afbbec09a38318ba2c956ce25d79bb808ade5bd6edd39f94bc4152"), looks := false }, kinds := [], alts := [], laidByText := true, laidKinds := [.data], laidTests := true, laidLooks := .later }
def TabsStepsCardSaid : Prop := Claim7.holds Tryd.pinned (.plain (OpenSpec.ofChange tabsStepsSpec)) tabsStepsCard

/-- THE TIED CARD OF 'marqueelaw11.TabsGoes'. -/
def tabsGoesCard : Claim7 := { stood := { row := tabsGoesRow, standIns := [], harness := (true, "61318a74a0afbbec09a38318ba2c956ce25d79bb808ade5bd6edd39f94bc4152"), looks := false }, kinds := [], alts := [], laidByText := true, laidKinds := [.data], laidTests := true, laidLooks := .later }
def TabsGoesCardSaid : Prop := Claim7.holds Tryd.pinned (.plain (OpenSpec.ofChange tabsGoesSpec)) tabsGoesCard

/-- THE TIED CARD OF 'marqueelaw11.TabsNone'. -/
def tabsNoneCard : Claim7 := { stood := { row := tabsNoneRow, standIns := [], harness := (true, "61318a74a0afbbec09a38318ba2c956ce25d79bb808ade5bd6edd39f94bc4152"), looks := false }, kinds := [], alts := [], laidByText := true, laidKinds := [.data], laidTests := true, laidLooks := .later }
def TabsNoneCardSaid : Prop := Claim7.holds Tryd.pinned (.plain (OpenSpec.ofChange tabsNoneSpec)) tabsNoneCard

/-- THE SECOND FORM's CARD OF 'marqueelaw11.TabsHas'. -/
def tabsHasUptoCard : Claim7 := { stood := { row := tabsHasUptoRow, standIns := [], harness := (true, "61318a74a0afbbec09a38318ba2c956ce25d79bb808ade5bd6edd39f94bc4152"), looks := false }, kinds := [], alts := [], laidByText := true, laidKinds := [.data], laidTests := true, laidLooks := .later }
def TabsHasUptoCardSaid : Prop := Claim7.holds Tryd.pinned (.plain (OpenSpec.upto tabsHasSpec)) tabsHasUptoCard

/-- THE SECOND FORM's CARD OF 'marqueelaw11.TabsPlays'. -/
def tabsPlaysUptoCard : Claim7 := { stood := { row := tabsPlaysUptoRow, standIns := [], harness := (true, "61318a74a0afbbec09a38318ba2c956ce25d79bb808ade5bd6edd39f94bc4152"), looks := false }, kinds := [], alts := [], laidByText := true, laidKinds := [.data], laidTests := true, laidLooks := .later }
def TabsPlaysUptoCardSaid : Prop := Claim7.holds Tryd.pinned (.plain (OpenSpec.upto tabsPlaysSpec)) tabsPlaysUptoCard

/-- THE SECOND FORM's CARD OF 'marqueelaw11.TabsSteps'. -/
def tabsStepsUptoCard : Claim7 := { stood := { row := tabsStepsUptoRow, standIns := [], harness := (true, "61318a74a0afbbec09a38318ba2c956ce25d79bb808ade5bd6edd39f94bc4152"), looks := false }, kinds := [], alts := [], laidByText := true, laidKinds := [.data], laidTests := true, laidLooks := .later }
def TabsStepsUptoCardSaid : Prop := Claim7.holds Tryd.pinned (.plain (OpenSpec.upto tabsStepsSpec)) tabsStepsUptoCard

/-- THE SECOND FORM's CARD OF 'marqueelaw11.TabsGoes'. -/
def tabsGoesUptoCard : Claim7 := { stood := { row := tabsGoesUptoRow, standIns := [], harness := (true, "61318a74a0afbbec09a38318ba2c956ce25d79bb808ade5bd6edd39f94bc4152"), looks := false }, kinds := [], alts := [], laidByText := true, laidKinds := [.data], laidTests := true, laidLooks := .later }
def TabsGoesUptoCardSaid : Prop := Claim7.holds Tryd.pinned (.plain (OpenSpec.upto tabsGoesSpec)) tabsGoesUptoCard

/-- THE SECOND FORM's CARD OF 'marqueelaw11.TabsNone'. -/
def tabsNoneUptoCard : Claim7 := { stood := { row := tabsNoneUptoRow, standIns := [], harness := (true, "61318a74a0afbbec09a38318ba2c956ce25d79bb808ade5bd6edd39f94bc4152"), looks := false }, kinds := [], alts := [], laidByText := true, laidKinds := [.data], laidTests := true, laidLooks := .later }
def TabsNoneUptoCardSaid : Prop := Claim7.holds Tryd.pinned (.plain (OpenSpec.upto tabsNoneSpec)) tabsNoneUptoCard
end Rows
end Go.Proofs.YthfbdbahggklnaaDoor
