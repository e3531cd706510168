/-
  No cell of these rows narrows 'for every input' (looked for: loops, veiled, ifaces, maps, wideKeys, modest, calm, conditions, laid).
  DERIVED. THE GIVEN ROWS OF THIS SEAT. 4 by the template 'for every input the law returns true; each argument reads behind the call as it read before'; 0 by the template 'total and deterministic' (their statements: YtkpkffjhngapjaaTotals.lean).
  GIVEN WITH THE SEED: the statements are not yours to turn. If you find one false, say at which input.
  Laid BY PROGRAM, IN A SANDBOX (cutbox-rows.mjs): the forced cells as the released guide's own fill.sh prints them over the translation e2d2c1d069bb9574… (all of the seat's roots in one cut). By AI agents, Wed Nov 11 2026. No macro, syntax, notation, axiom, sorry.
-/
import Derived.Test.YtkpkffjhngapjaaChecked
import GoSem.Claim
import GoSem.ClaimJoined
import GoSem.ClaimMapViews
import Derived.JoinedTies
import Derived.KernelRfl
namespace Go.Proofs.Ytkpkffjhngapjaa
/- THE CELL 'sum', in the pinned program and in every row, IS THE sha256 OF THE DUMP (.gsa) THAT YtkpkffjhngapjaaProg.lean LOADS. Nothing in Lean hashes anything: it is a label: what it is worth is what the hold of that sum in a sandbox is worth. -/
noncomputable def Try.pinned : Pinned := { name := "ytkpkffjhngapjaa", sum := "e2d2c1d069bb9574d7b703d4ea128d7770584df6f0292492ca2648715d4e9942", checked := Try.checked }
namespace Rows
def none {H : Type} : Left H := { results := [], args := [] }

/-- 'marqueelaw03.ParamParses': WHATEVER THE INPUT: true; the input reads as it did. -/
def paramParsesSpec : ChangeSpec := { name := "paramParses", fn := fun _ => fun
  | [d] => { results := [.lit (.bool true)], args := [d] }
  | _ => none }
def paramParsesRow : OpenClaim := { program := "ytkpkffjhngapjaa", sum := "e2d2c1d069bb9574d7b703d4ea128d7770584df6f0292492ca2648715d4e9942", func := "marquee/marqueelaw03.ParamParses", spec := "paramParses", inPlace := ["internal/bytealg.IndexByteString", "internal/bytealg.IndexString"], unfollowed := true, recurses := true, named := ["internal/bytealg.MaxLen"], apart := false }
def ParamParsesSaid : Prop := paramParsesRow.holds Try.pinned (OpenSpec.ofChange paramParsesSpec)

/-- ITS FALSE NEIGHBOUR: 'it returns false'. Refute it at one input. -/
def paramParsesWrong : ChangeSpec := { name := "paramParses", fn := fun _ => fun
  | [d] => { results := [.lit (.bool false)], args := [d] }
  | _ => none }
def ParamParsesWrongFalsely : Prop := paramParsesRow.holds Try.pinned (OpenSpec.ofChange paramParsesWrong)

/-- 'marqueelaw03.ParamCleans': WHATEVER THE INPUT: true; the input reads as it did. -/
def paramCleansSpec : ChangeSpec := { name := "paramCleans", fn := fun _ => fun
  | [d] => { results := [.lit (.bool true)], args := [d] }
  | _ => none }
def paramCleansRow : OpenClaim := { program := "ytkpkffjhngapjaa", sum := "e2d2c1d069bb9574d7b703d4ea128d7770584df6f0292492ca2648715d4e9942", func := "marquee/marqueelaw03.ParamCleans", spec := "paramCleans", inPlace := ["internal/bytealg.IndexByteString", "internal/bytealg.IndexString"], unfollowed := true, recurses := true, named := ["internal/bytealg.MaxLen"], apart := false }
def ParamCleansSaid : Prop := paramCleansRow.holds Try.pinned (OpenSpec.ofChange paramCleansSpec)

/-- ITS FALSE NEIGHBOUR: 'it returns false'. Refute it at one input. -/
def paramCleansWrong : ChangeSpec := { name := "paramCleans", fn := fun _ => fun
  | [d] => { results := [.lit (.bool false)], args := [d] }
  | _ => none }
def ParamCleansWrongFalsely : Prop := paramCleansRow.holds Try.pinned (OpenSpec.ofChange paramCleansWrong)

/-- 'marqueelaw03.ParamJoins': WHATEVER THE INPUT: true; the input reads as it did. -/
def paramJoinsSpec : ChangeSpec := { name := "paramJoins", fn := fun _ => fun
  | [d1, d2] => { results := [.lit (.bool true)], args := [d1, d2] }
  | _ => none }
def paramJoinsRow : OpenClaim := { program := "ytkpkffjhngapjaa", sum := "e2d2c1d069bb9574d7b703d4ea128d7770584df6f0292492ca2648715d4e9942", func := "marquee/marqueelaw03.ParamJoins", spec := "paramJoins", inPlace := ["internal/bytealg.IndexByteString", "internal/bytealg.IndexString"], unfollowed := true, recurses := true, named := ["internal/bytealg.MaxLen"], apart := false }
def ParamJoinsSaid : Prop := paramJoinsRow.holds Try.pinned (OpenSpec.ofChange paramJoinsSpec)

/-- ITS FALSE NEIGHBOUR: 'it returns false'. Refute it at one input. -/
def paramJoinsWrong : ChangeSpec := { name := "paramJoins", fn := fun _ => fun
  | [d1, d2] => { results := [.lit (.bool false)], args := [d1, d2] }
  | _ => none }
def ParamJoinsWrongFalsely : Prop := paramJoinsRow.holds Try.pinned (OpenSpec.ofChange paramJoinsWrong)

/-- 'marqueelaw03.ParamGets': WHATEVER THE INPUT: true; the input reads as it did. -/
def paramGetsSpec : ChangeSpec := { name := "paramGets", fn := fun _ => fun
  | [d1, d2, d3] => { results := [.lit (.bool true)], args := [d1, d2, d3] }
  | _ => none }
def paramGetsRow : OpenClaim := { program := "ytkpkffjhngapjaa", sum := "e2d2c1d069bb9574d7b703d4ea128d7770584df6f0292492ca2648715d4e9942", func := "marquee/marqueelaw03.ParamGets", spec := "paramGets", inPlace := ["internal/bytealg.IndexByteString", "internal/bytealg.IndexString"], unfollowed := true, recurses := true, named := ["internal/bytealg.MaxLen"], apart := false }
def ParamGetsSaid : Prop := paramGetsRow.holds Try.pinned (OpenSpec.ofChange paramGetsSpec)

/-- ITS FALSE NEIGHBOUR: 'it returns false'. Refute it at one input. -/
def paramGetsWrong : ChangeSpec := { name := "paramGets", fn := fun _ => fun
  | [d1, d2, d3] => { results := [.lit (.bool false)], args := [d1, d2, d3] }
  | _ => none }
def ParamGetsWrongFalsely : Prop := paramGetsRow.holds Try.pinned (OpenSpec.ofChange paramGetsWrong)

/- THE SECOND FORM. 'bulk': how many values and letters a reading holds, each counted each time it is reached (what is shared counts as often as it is met; a slice's spare places count too). A statement '..UptoSaid' is the law's where the arguments, and the package variables that the reading takes, are together of bulk at most 1048576: NARROWER than '..Said'. Prove '..Said' where nothing that the law and all that it calls make is longer than what came in: it says more and counts as full. Else prove '..UptoSaid'. A law counts once. -/
mutual
def uptoBulk {H : Type} : DataW H → Nat
  | .lit (.string bytes) => bytes.length + 1
  | .lit _ => 1
  | .nil => 1
  | .ptr d => uptoBulk d + 1
  | .slice elems spare => uptoBulkAll elems + uptoBulkAll spare + 1
  | .agg parts => uptoBulkAll parts + 1
  | .iface _ d => uptoBulk d + 1
  | .map entries => uptoBulkEntries entries + 1
  | .held _ => 1
def uptoBulkAll {H : Type} : List (DataW H) → Nat
  | [] => 0
  | d :: r => uptoBulk d + uptoBulkAll r
def uptoBulkEntries {H : Type} : List (Lit × DataW H) → Nat
  | [] => 0
  | x :: r => uptoBulkEntry x + uptoBulkEntries r
def uptoBulkEntry {H : Type} : Lit × DataW H → Nat
  | (.string bytes, d) => bytes.length + uptoBulk d + 1
  | (_, d) => uptoBulk d + 1
 end
def uptoSmall : (H : Type) → List (DataW H) → Bool := fun _ ds => decide (uptoBulkAll ds ≤ 1048576)
def OpenSpec.upto (s : _root_.Go.ChangeSpec) : _root_.Go.OpenSpec := { _root_.Go.OpenSpec.ofChange s with cond := some uptoSmall }

/-- 'marqueelaw03.ParamParses', WHERE WHAT IT READS IS OF BULK AT MOST 1048576: true; the input reads as it did. -/
def paramParsesUptoRow : OpenClaim := { program := "ytkpkffjhngapjaa", sum := "e2d2c1d069bb9574d7b703d4ea128d7770584df6f0292492ca2648715d4e9942", func := "marquee/marqueelaw03.ParamParses", spec := "paramParses", inPlace := ["internal/bytealg.IndexByteString", "internal/bytealg.IndexString"], unfollowed := true, recurses := true, named := ["internal/bytealg.MaxLen"], apart := false, narrowed := true }
def ParamParsesUptoSaid : Prop := paramParsesUptoRow.holds Try.pinned (OpenSpec.upto paramParsesSpec)

/-- 'marqueelaw03.ParamCleans', WHERE WHAT IT READS IS OF BULK AT MOST 1048576: true; the input reads as it did. -/
def paramCleansUptoRow : OpenClaim := { program := "ytkpkffjhngapjaa", sum := "e2d2c1d069bb9574d7b703d4ea128d7770584df6f0292492ca2648715d4e9942", func := "marquee/marqueelaw03.ParamCleans", spec := "paramCleans", inPlace := ["internal/bytealg.IndexByteString", "internal/bytealg.IndexString"], unfollowed := true, recurses := true, named := ["internal/bytealg.MaxLen"], apart := false, narrowed := true }
def ParamCleansUptoSaid : Prop := paramCleansUptoRow.holds Try.pinned (OpenSpec.upto paramCleansSpec)

/-- 'marqueelaw03.ParamJoins', WHERE WHAT IT READS IS OF BULK AT MOST 1048576: true; the input reads as it did. -/
def paramJoinsUptoRow : OpenClaim := { program := "ytkpkffjhngapjaa", sum := "e2d2c1d069bb9574d7b703d4ea128d7770584df6f0292492ca2648715d4e9942", func := "marquee/marqueelaw03.ParamJoins", spec := "paramJoins", inPlace := ["internal/bytealg.IndexByteString", "internal/bytealg.IndexString"], unfollowed := true, recurses := true, named := ["internal/bytealg.MaxLen"], apart := false, narrowed := true }
def ParamJoinsUptoSaid : Prop := paramJoinsUptoRow.holds Try.pinned (OpenSpec.upto paramJoinsSpec)

/-- 'marqueelaw03.ParamGets', WHERE WHAT IT READS IS OF BULK AT MOST 1048576: true; the input reads as it did. -/
def paramGetsUptoRow : OpenClaim := { program := "ytkpkffjhngapjaa", sum := "e2d2c1d069bb9574d7b703d4ea128d7770584df6f0292492ca2648715d4e9942", func := "marquee/marqueelaw03.ParamGets", spec := "paramGets", inPlace := ["internal/bytealg.IndexByteString", "internal/bytealg.IndexString"], unfollowed := true, recurses := true, named := ["internal/bytealg.MaxLen"], apart := false, narrowed := true }
def ParamGetsUptoSaid : Prop := paramGetsUptoRow.holds Try.pinned (OpenSpec.upto paramGetsSpec)

end Rows
end Go.Proofs.Ytkpkffjhngapjaa
