/-
  No cell of these rows narrows 'for every input' (looked for: loops, veiled, ifaces, maps, wideKeys, modest, calm, conditions, laid).
  DERIVED. THE GIVEN ROWS OF THIS SEAT. 5 by the template 'for every input the law returns true; each argument reads behind the call as it read before'; 0 by the template 'total and deterministic' (their statements: YtkabehgjgicckaaTotals.lean).
  GIVEN WITH THE SEED: the statements are not yours to turn. If you find one false, say at which input.
  Laid BY PROGRAM, IN A SANDBOX (cutbox-rows.mjs): the forced cells as the released guide's own fill.sh prints them over the translation 9dd1d81cae4b4674… (all of the seat's roots in one cut). By AI agents, Wed Nov 11 2026. No macro, syntax, notation, axiom, sorry.
-/
import Derived.Test.YtkabehgjgicckaaChecked
import GoSem.Claim
import GoSem.ClaimJoined
import GoSem.ClaimMapViews
import Derived.JoinedTies
import Derived.KernelRfl
namespace Go.Proofs.Ytkabehgjgicckaa
/- THE CELL 'sum', in the pinned program and in every row, IS THE sha256 OF THE DUMP (.gsa) THAT YtkabehgjgicckaaProg.lean LOADS. Nothing in Lean hashes anything: it is a label: what it is worth is what the hold of that sum in a sandbox is worth. -/
noncomputable def Try.pinned : Pinned := { name := "ytkabehgjgicckaa", sum := "9dd1d81cae4b467427891b604eae325f9f9c4c9b667577aeff1be12f5093b72e", checked := Try.checked }
namespace Rows
def none {H : Type} : Left H := { results := [], args := [] }

/-- 'marqueelaw16.PctFiles': WHATEVER THE INPUT: true; the input reads as it did. -/
def pctFilesSpec : ChangeSpec := { name := "pctFiles", fn := fun _ => fun
  | [d] => { results := [.lit (.bool true)], args := [d] }
  | _ => none }
def pctFilesRow : OpenClaim := { program := "ytkabehgjgicckaa", sum := "9dd1d81cae4b467427891b604eae325f9f9c4c9b667577aeff1be12f5093b72e", func := "marquee/marqueelaw16.PctFiles", spec := "pctFiles", inPlace := ["internal/abi.NoEscape", "internal/bytealg.IndexByteString"], unfollowed := true, recurses := true, apart := false }
def PctFilesSaid : Prop := pctFilesRow.holds Try.pinned (OpenSpec.ofChange pctFilesSpec)

/-- ITS FALSE NEIGHBOUR: 'it returns false'. Refute it at one input. -/
def pctFilesWrong : ChangeSpec := { name := "pctFiles", fn := fun _ => fun
  | [d] => { results := [.lit (.bool false)], args := [d] }
  | _ => none }
def PctFilesWrongFalsely : Prop := pctFilesRow.holds Try.pinned (OpenSpec.ofChange pctFilesWrong)

/-- 'marqueelaw16.PctJoins': WHATEVER THE INPUT: true; the input reads as it did. -/
def pctJoinsSpec : ChangeSpec := { name := "pctJoins", fn := fun _ => fun
  | [d1, d2] => { results := [.lit (.bool true)], args := [d1, d2] }
  | _ => none }
def pctJoinsRow : OpenClaim := { program := "ytkabehgjgicckaa", sum := "9dd1d81cae4b467427891b604eae325f9f9c4c9b667577aeff1be12f5093b72e", func := "marquee/marqueelaw16.PctJoins", spec := "pctJoins", inPlace := ["internal/abi.NoEscape", "internal/bytealg.IndexByteString"], unfollowed := true, recurses := true, apart := false }
def PctJoinsSaid : Prop := pctJoinsRow.holds Try.pinned (OpenSpec.ofChange pctJoinsSpec)

/-- ITS FALSE NEIGHBOUR: 'it returns false'. Refute it at one input. -/
def pctJoinsWrong : ChangeSpec := { name := "pctJoins", fn := fun _ => fun
  | [d1, d2] => { results := [.lit (.bool false)], args := [d1, d2] }
  | _ => none }
def PctJoinsWrongFalsely : Prop := pctJoinsRow.holds Try.pinned (OpenSpec.ofChange pctJoinsWrong)

/-- 'marqueelaw16.PctLays': WHATEVER THE INPUT: true; the input reads as it did. -/
def pctLaysSpec : ChangeSpec := { name := "pctLays", fn := fun _ => fun
  | [d] => { results := [.lit (.bool true)], args := [d] }
  | _ => none }
def pctLaysRow : OpenClaim := { program := "ytkabehgjgicckaa", sum := "9dd1d81cae4b467427891b604eae325f9f9c4c9b667577aeff1be12f5093b72e", func := "marquee/marqueelaw16.PctLays", spec := "pctLays", inPlace := ["internal/abi.NoEscape", "internal/bytealg.IndexByteString"], unfollowed := true, recurses := true, apart := false }
def PctLaysSaid : Prop := pctLaysRow.holds Try.pinned (OpenSpec.ofChange pctLaysSpec)

/-- ITS FALSE NEIGHBOUR: 'it returns false'. Refute it at one input. -/
def pctLaysWrong : ChangeSpec := { name := "pctLays", fn := fun _ => fun
  | [d] => { results := [.lit (.bool false)], args := [d] }
  | _ => none }
def PctLaysWrongFalsely : Prop := pctLaysRow.holds Try.pinned (OpenSpec.ofChange pctLaysWrong)

/-- 'marqueelaw16.PctTakes': WHATEVER THE INPUT: true; the input reads as it did. -/
def pctTakesSpec : ChangeSpec := { name := "pctTakes", fn := fun _ => fun
  | [d] => { results := [.lit (.bool true)], args := [d] }
  | _ => none }
def pctTakesRow : OpenClaim := { program := "ytkabehgjgicckaa", sum := "9dd1d81cae4b467427891b604eae325f9f9c4c9b667577aeff1be12f5093b72e", func := "marquee/marqueelaw16.PctTakes", spec := "pctTakes", inPlace := ["internal/abi.NoEscape", "internal/bytealg.IndexByteString"], unfollowed := true, recurses := true, apart := false }
def PctTakesSaid : Prop := pctTakesRow.holds Try.pinned (OpenSpec.ofChange pctTakesSpec)

/-- ITS FALSE NEIGHBOUR: 'it returns false'. Refute it at one input. -/
def pctTakesWrong : ChangeSpec := { name := "pctTakes", fn := fun _ => fun
  | [d] => { results := [.lit (.bool false)], args := [d] }
  | _ => none }
def PctTakesWrongFalsely : Prop := pctTakesRow.holds Try.pinned (OpenSpec.ofChange pctTakesWrong)

/-- 'marqueelaw16.PctMakes': WHATEVER THE INPUT: true; the input reads as it did. -/
def pctMakesSpec : ChangeSpec := { name := "pctMakes", fn := fun _ => fun
  | [d1, d2] => { results := [.lit (.bool true)], args := [d1, d2] }
  | _ => none }
def pctMakesRow : OpenClaim := { program := "ytkabehgjgicckaa", sum := "9dd1d81cae4b467427891b604eae325f9f9c4c9b667577aeff1be12f5093b72e", func := "marquee/marqueelaw16.PctMakes", spec := "pctMakes", inPlace := ["internal/abi.NoEscape", "internal/bytealg.IndexByteString"], unfollowed := true, recurses := true, apart := false }
def PctMakesSaid : Prop := pctMakesRow.holds Try.pinned (OpenSpec.ofChange pctMakesSpec)

/-- ITS FALSE NEIGHBOUR: 'it returns false'. Refute it at one input. -/
def pctMakesWrong : ChangeSpec := { name := "pctMakes", fn := fun _ => fun
  | [d1, d2] => { results := [.lit (.bool false)], args := [d1, d2] }
  | _ => none }
def PctMakesWrongFalsely : Prop := pctMakesRow.holds Try.pinned (OpenSpec.ofChange pctMakesWrong)

/- THE SECOND FORM. 'bulk': how many values and letters a reading holds, each counted each time it is reached (what is shared counts as often as it is met; a slice's spare places count too). A statement '..UptoSaid' is the law's where the arguments, and the package variables that the reading takes, are together of bulk at most 1048576: NARROWER than '..Said'. Prove '..Said' where nothing that the law and all that it calls make is longer than what came in: it says more and counts as full. Else prove '..UptoSaid'. A law counts once. -/
mutual
def uptoBulk {H : Type} : DataW H → Nat
  | .lit (.string bytes) => bytes.length + 1
  | .lit _ => 1
  | .nil => 1
  | .ptr d => uptoBulk d + 1
  | .slice elems spare => uptoBulkAll elems + uptoBulkAll spare + 1
  | .agg parts => uptoBulkAll parts + 1
  | .iface _ d => uptoBulk d + 1
  | .map entries => uptoBulkEntries entries + 1
  | .held _ => 1
def uptoBulkAll {H : Type} : List (DataW H) → Nat
  | [] => 0
  | d :: r => uptoBulk d + uptoBulkAll r
def uptoBulkEntries {H : Type} : List (Lit × DataW H) → Nat
  | [] => 0
  | x :: r => uptoBulkEntry x + uptoBulkEntries r
def uptoBulkEntry {H : Type} : Lit × DataW H → Nat
  | (.string bytes, d) => bytes.length + uptoBulk d + 1
  | (_, d) => uptoBulk d + 1
 end
def uptoSmall : (H : Type) → List (DataW H) → Bool := fun _ ds => decide (uptoBulkAll ds ≤ 1048576)
def OpenSpec.upto (s : _root_.Go.ChangeSpec) : _root_.Go.OpenSpec := { _root_.Go.OpenSpec.ofChange s with cond := some uptoSmall }

/-- 'marqueelaw16.PctFiles', WHERE WHAT IT READS IS OF BULK AT MOST 1048576: true; the input reads as it did. -/
def pctFilesUptoRow : OpenClaim := { program := "ytkabehgjgicckaa", sum := "9dd1d81cae4b467427891b604eae325f9f9c4c9b667577aeff1be12f5093b72e", func := "marquee/marqueelaw16.PctFiles", spec := "pctFiles", inPlace := ["internal/abi.NoEscape", "internal/bytealg.IndexByteString"], unfollowed := true, recurses := true, apart := false, narrowed := true }
def PctFilesUptoSaid : Prop := pctFilesUptoRow.holds Try.pinned (OpenSpec.upto pctFilesSpec)

/-- 'marqueelaw16.PctJoins', WHERE WHAT IT READS IS OF BULK AT MOST 1048576: true; the input reads as it did. -/
def pctJoinsUptoRow : OpenClaim := { program := "ytkabehgjgicckaa", sum := "9dd1d81cae4b467427891b604eae325f9f9c4c9b667577aeff1be12f5093b72e", func := "marquee/marqueelaw16.PctJoins", spec := "pctJoins", inPlace := ["internal/abi.NoEscape", "internal/bytealg.IndexByteString"], unfollowed := true, recurses := true, apart := false, narrowed := true }
def PctJoinsUptoSaid : Prop := pctJoinsUptoRow.holds Try.pinned (OpenSpec.upto pctJoinsSpec)

/-- 'marqueelaw16.PctLays', WHERE WHAT IT READS IS OF BULK AT MOST 1048576: true; the input reads as it did. -/
def pctLaysUptoRow : OpenClaim := { program := "ytkabehgjgicckaa", sum := "9dd1d81cae4b467427891b604eae325f9f9c4c9b667577aeff1be12f5093b72e", func := "marquee/marqueelaw16.PctLays", spec := "pctLays", inPlace := ["internal/abi.NoEscape", "internal/bytealg.IndexByteString"], unfollowed := true, recurses := true, apart := false, narrowed := true }
def PctLaysUptoSaid : Prop := pctLaysUptoRow.holds Try.pinned (OpenSpec.upto pctLaysSpec)

/-- 'marqueelaw16.PctTakes', WHERE WHAT IT READS IS OF BULK AT MOST 1048576: true; the input reads as it did. -/
def pctTakesUptoRow : OpenClaim := { program := "ytkabehgjgicckaa", sum := "9dd1d81cae4b467427891b604eae325f9f9c4c9b667577aeff1be12f5093b72e", func := "marquee/marqueelaw16.PctTakes", spec := "pctTakes", inPlace := ["internal/abi.NoEscape", "internal/bytealg.IndexByteString"], unfollowed := true, recurses := true, apart := false, narrowed := true }
def PctTakesUptoSaid : Prop := pctTakesUptoRow.holds Try.pinned (OpenSpec.upto pctTakesSpec)

/-- 'marqueelaw16.PctMakes', WHERE WHAT IT READS IS OF BULK AT MOST 1048576: true; the input reads as it did. -/
def pctMakesUptoRow : OpenClaim := { program := "ytkabehgjgicckaa", sum := "9dd1d81cae4b467427891b604eae325f9f9c4c9b667577aeff1be12f5093b72e", func := "marquee/marqueelaw16.PctMakes", spec := "pctMakes", inPlace := ["internal/abi.NoEscape", "internal/bytealg.IndexByteString"], unfollowed := true, recurses := true, apart := false, narrowed := true }
def PctMakesUptoSaid : Prop := pctMakesUptoRow.holds Try.pinned (OpenSpec.upto pctMakesSpec)

end Rows
end Go.Proofs.Ytkabehgjgicckaa
