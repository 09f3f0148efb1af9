/-
  No cell of these rows narrows 'for every input' (looked for: loops, veiled, ifaces, maps, wideKeys, modest, calm, conditions, laid).
  DERIVED. THE GIVEN ROWS OF THIS SEAT. 7 by the template 'for every input the law returns true; each argument reads behind the call as it read before'; 0 by the template 'total and deterministic' (their statements: YtbcibkopcbhgfaaTotals.lean).
  GIVEN WITH THE SEED: the statements are not yours to turn. If you find one false, say at which input.
  Laid BY PROGRAM, IN A SANDBOX (cutbox-rows.mjs): the forced cells as the released guide's own fill.sh prints them over the translation 7bee9b32c2dfe279… (all of the seat's roots in one cut). By AI agents, Wed Nov 11 2026. No macro, syntax, notation, axiom, sorry.
-/
import Derived.Test.YtbcibkopcbhgfaaChecked
import GoSem.Claim
import GoSem.ClaimJoined
import GoSem.ClaimMapViews
import Derived.JoinedTies
import Derived.KernelRfl
namespace Go.Proofs.Ytbcibkopcbhgfaa
/- THE CELL 'sum', in the pinned program and in every row, IS THE sha256 OF THE DUMP (.gsa) THAT YtbcibkopcbhgfaaProg.lean LOADS. Nothing in Lean hashes anything: it is a label: what it is worth is what the hold of that sum in a sandbox is worth. -/
noncomputable def Try.pinned : Pinned := { name := "ytbcibkopcbhgfaa", sum := "7bee9b32c2dfe279d7ac9b712774fc29a7d97fc25855c2de459c0b56fb8cf4ed", checked := Try.checked }
namespace Rows
def none {H : Type} : Left H := { results := [], args := [] }

/-- 'mailboatlaw06.StepfnSums': WHATEVER THE INPUT: true; the input reads as it did. -/
def stepfnSumsSpec : ChangeSpec := { name := "stepfnSums", fn := fun _ => fun
  | [d1, d2, d3, d4] => { results := [.lit (.bool true)], args := [d1, d2, d3, d4] }
  | _ => none }
def stepfnSumsRow : OpenClaim := { program := "ytbcibkopcbhgfaa", sum := "7bee9b32c2dfe279d7ac9b712774fc29a7d97fc25855c2de459c0b56fb8cf4ed", func := "mailboat/mailboatlaw06.StepfnSums", spec := "stepfnSums", inPlace := ["math/bits.Sub64", "math/bits.Add64"], unfollowed := true, recurses := true, apart := false }
def StepfnSumsSaid : Prop := stepfnSumsRow.holds Try.pinned (OpenSpec.ofChange stepfnSumsSpec)

/-- ITS FALSE NEIGHBOUR: 'it returns false'. Refute it at one input. -/
def stepfnSumsWrong : ChangeSpec := { name := "stepfnSums", fn := fun _ => fun
  | [d1, d2, d3, d4] => { results := [.lit (.bool false)], args := [d1, d2, d3, d4] }
  | _ => none }
def StepfnSumsWrongFalsely : Prop := stepfnSumsRow.holds Try.pinned (OpenSpec.ofChange stepfnSumsWrong)

/-- 'mailboatlaw06.StepfnPoints': WHATEVER THE INPUT: true; the input reads as it did. -/
def stepfnPointsSpec : ChangeSpec := { name := "stepfnPoints", fn := fun _ => fun
  | [d1, d2, d3, d4] => { results := [.lit (.bool true)], args := [d1, d2, d3, d4] }
  | _ => none }
def stepfnPointsRow : OpenClaim := { program := "ytbcibkopcbhgfaa", sum := "7bee9b32c2dfe279d7ac9b712774fc29a7d97fc25855c2de459c0b56fb8cf4ed", func := "mailboat/mailboatlaw06.StepfnPoints", spec := "stepfnPoints", inPlace := ["math/bits.Sub64", "math/bits.Add64"], unfollowed := true, recurses := true, apart := false }
def StepfnPointsSaid : Prop := stepfnPointsRow.holds Try.pinned (OpenSpec.ofChange stepfnPointsSpec)

/-- ITS FALSE NEIGHBOUR: 'it returns false'. Refute it at one input. -/
def stepfnPointsWrong : ChangeSpec := { name := "stepfnPoints", fn := fun _ => fun
  | [d1, d2, d3, d4] => { results := [.lit (.bool false)], args := [d1, d2, d3, d4] }
  | _ => none }
def StepfnPointsWrongFalsely : Prop := stepfnPointsRow.holds Try.pinned (OpenSpec.ofChange stepfnPointsWrong)

/-- 'mailboatlaw06.StepfnGroup': WHATEVER THE INPUT: true; the input reads as it did. -/
def stepfnGroupSpec : ChangeSpec := { name := "stepfnGroup", fn := fun _ => fun
  | [d1, d2, d3, d4, d5, d6, d7] => { results := [.lit (.bool true)], args := [d1, d2, d3, d4, d5, d6, d7] }
  | _ => none }
def stepfnGroupRow : OpenClaim := { program := "ytbcibkopcbhgfaa", sum := "7bee9b32c2dfe279d7ac9b712774fc29a7d97fc25855c2de459c0b56fb8cf4ed", func := "mailboat/mailboatlaw06.StepfnGroup", spec := "stepfnGroup", inPlace := ["math/bits.Sub64", "math/bits.Add64"], unfollowed := true, recurses := true, apart := false }
def StepfnGroupSaid : Prop := stepfnGroupRow.holds Try.pinned (OpenSpec.ofChange stepfnGroupSpec)

/-- ITS FALSE NEIGHBOUR: 'it returns false'. Refute it at one input. -/
def stepfnGroupWrong : ChangeSpec := { name := "stepfnGroup", fn := fun _ => fun
  | [d1, d2, d3, d4, d5, d6, d7] => { results := [.lit (.bool false)], args := [d1, d2, d3, d4, d5, d6, d7] }
  | _ => none }
def StepfnGroupWrongFalsely : Prop := stepfnGroupRow.holds Try.pinned (OpenSpec.ofChange stepfnGroupWrong)

/-- 'mailboatlaw06.StepfnBounds': WHATEVER THE INPUT: true; the input reads as it did. -/
def stepfnBoundsSpec : ChangeSpec := { name := "stepfnBounds", fn := fun _ => fun
  | [d1, d2] => { results := [.lit (.bool true)], args := [d1, d2] }
  | _ => none }
def stepfnBoundsRow : OpenClaim := { program := "ytbcibkopcbhgfaa", sum := "7bee9b32c2dfe279d7ac9b712774fc29a7d97fc25855c2de459c0b56fb8cf4ed", func := "mailboat/mailboatlaw06.StepfnBounds", spec := "stepfnBounds", inPlace := ["math/bits.Sub64", "math/bits.Add64"], unfollowed := true, recurses := true, apart := false }
def StepfnBoundsSaid : Prop := stepfnBoundsRow.holds Try.pinned (OpenSpec.ofChange stepfnBoundsSpec)

/-- ITS FALSE NEIGHBOUR: 'it returns false'. Refute it at one input. -/
def stepfnBoundsWrong : ChangeSpec := { name := "stepfnBounds", fn := fun _ => fun
  | [d1, d2] => { results := [.lit (.bool false)], args := [d1, d2] }
  | _ => none }
def StepfnBoundsWrongFalsely : Prop := stepfnBoundsRow.holds Try.pinned (OpenSpec.ofChange stepfnBoundsWrong)

/-- 'mailboatlaw06.StepfnIntegrals': WHATEVER THE INPUT: true; the input reads as it did. -/
def stepfnIntegralsSpec : ChangeSpec := { name := "stepfnIntegrals", fn := fun _ => fun
  | [d1, d2, d3, d4, d5] => { results := [.lit (.bool true)], args := [d1, d2, d3, d4, d5] }
  | _ => none }
def stepfnIntegralsRow : OpenClaim := { program := "ytbcibkopcbhgfaa", sum := "7bee9b32c2dfe279d7ac9b712774fc29a7d97fc25855c2de459c0b56fb8cf4ed", func := "mailboat/mailboatlaw06.StepfnIntegrals", spec := "stepfnIntegrals", inPlace := ["math/bits.Sub64", "math/bits.Add64"], unfollowed := true, recurses := true, apart := false }
def StepfnIntegralsSaid : Prop := stepfnIntegralsRow.holds Try.pinned (OpenSpec.ofChange stepfnIntegralsSpec)

/-- ITS FALSE NEIGHBOUR: 'it returns false'. Refute it at one input. -/
def stepfnIntegralsWrong : ChangeSpec := { name := "stepfnIntegrals", fn := fun _ => fun
  | [d1, d2, d3, d4, d5] => { results := [.lit (.bool false)], args := [d1, d2, d3, d4, d5] }
  | _ => none }
def StepfnIntegralsWrongFalsely : Prop := stepfnIntegralsRow.holds Try.pinned (OpenSpec.ofChange stepfnIntegralsWrong)

/-- 'mailboatlaw06.StepfnValues': WHATEVER THE INPUT: true; the input reads as it did. -/
def stepfnValuesSpec : ChangeSpec := { name := "stepfnValues", fn := fun _ => fun
  | [d1, d2, d3, d4] => { results := [.lit (.bool true)], args := [d1, d2, d3, d4] }
  | _ => none }
def stepfnValuesRow : OpenClaim := { program := "ytbcibkopcbhgfaa", sum := "7bee9b32c2dfe279d7ac9b712774fc29a7d97fc25855c2de459c0b56fb8cf4ed", func := "mailboat/mailboatlaw06.StepfnValues", spec := "stepfnValues", inPlace := ["math/bits.Sub64", "math/bits.Add64"], unfollowed := true, recurses := true, apart := false }
def StepfnValuesSaid : Prop := stepfnValuesRow.holds Try.pinned (OpenSpec.ofChange stepfnValuesSpec)

/-- ITS FALSE NEIGHBOUR: 'it returns false'. Refute it at one input. -/
def stepfnValuesWrong : ChangeSpec := { name := "stepfnValues", fn := fun _ => fun
  | [d1, d2, d3, d4] => { results := [.lit (.bool false)], args := [d1, d2, d3, d4] }
  | _ => none }
def StepfnValuesWrongFalsely : Prop := stepfnValuesRow.holds Try.pinned (OpenSpec.ofChange stepfnValuesWrong)

/-- 'mailboatlaw06.StepfnBelow': WHATEVER THE INPUT: true; the input reads as it did. -/
def stepfnBelowSpec : ChangeSpec := { name := "stepfnBelow", fn := fun _ => fun
  | [d1, d2, d3, d4] => { results := [.lit (.bool true)], args := [d1, d2, d3, d4] }
  | _ => none }
def stepfnBelowRow : OpenClaim := { program := "ytbcibkopcbhgfaa", sum := "7bee9b32c2dfe279d7ac9b712774fc29a7d97fc25855c2de459c0b56fb8cf4ed", func := "mailboat/mailboatlaw06.StepfnBelow", spec := "stepfnBelow", inPlace := ["math/bits.Sub64", "math/bits.Add64"], unfollowed := true, recurses := true, apart := false }
def StepfnBelowSaid : Prop := stepfnBelowRow.holds Try.pinned (OpenSpec.ofChange stepfnBelowSpec)

/-- ITS FALSE NEIGHBOUR: 'it returns false'. Refute it at one input. -/
def stepfnBelowWrong : ChangeSpec := { name := "stepfnBelow", fn := fun _ => fun
  | [d1, d2, d3, d4] => { results := [.lit (.bool false)], args := [d1, d2, d3, d4] }
  | _ => none }
def StepfnBelowWrongFalsely : Prop := stepfnBelowRow.holds Try.pinned (OpenSpec.ofChange stepfnBelowWrong)

/- THE SECOND FORM. 'bulk': how many values and letters a reading holds, each counted each time it is reached (what is shared counts as often as it is met; a slice's spare places count too). A statement '..UptoSaid' is the law's where the arguments, and the package variables that the reading takes, are together of bulk at most 1048576: NARROWER than '..Said'. Prove '..Said' where nothing that the law and all that it calls make is longer than what came in: it says more and counts as full. Else prove '..UptoSaid'. A law counts once. -/
mutual
def uptoBulk {H : Type} : DataW H → Nat
  | .lit (.string bytes) => bytes.length + 1
  | .lit _ => 1
  | .nil => 1
  | .ptr d => uptoBulk d + 1
  | .slice elems spare => uptoBulkAll elems + uptoBulkAll spare + 1
  | .agg parts => uptoBulkAll parts + 1
  | .iface _ d => uptoBulk d + 1
  | .map entries => uptoBulkEntries entries + 1
  | .held _ => 1
def uptoBulkAll {H : Type} : List (DataW H) → Nat
  | [] => 0
  | d :: r => uptoBulk d + uptoBulkAll r
def uptoBulkEntries {H : Type} : List (Lit × DataW H) → Nat
  | [] => 0
  | x :: r => uptoBulkEntry x + uptoBulkEntries r
def uptoBulkEntry {H : Type} : Lit × DataW H → Nat
  | (.string bytes, d) => bytes.length + uptoBulk d + 1
  | (_, d) => uptoBulk d + 1
 end
def uptoSmall : (H : Type) → List (DataW H) → Bool := fun _ ds => decide (uptoBulkAll ds ≤ 1048576)
def OpenSpec.upto (s : _root_.Go.ChangeSpec) : _root_.Go.OpenSpec := { _root_.Go.OpenSpec.ofChange s with cond := some uptoSmall }

/-- 'mailboatlaw06.StepfnSums', WHERE WHAT IT READS IS OF BULK AT MOST 1048576: true; the input reads as it did. -/
def stepfnSumsUptoRow : OpenClaim := { program := "ytbcibkopcbhgfaa", sum := "7bee9b32c2dfe279d7ac9b712774fc29a7d97fc25855c2de459c0b56fb8cf4ed", func := "mailboat/mailboatlaw06.StepfnSums", spec := "stepfnSums", inPlace := ["math/bits.Sub64", "math/bits.Add64"], unfollowed := true, recurses := true, apart := false, narrowed := true }
def StepfnSumsUptoSaid : Prop := stepfnSumsUptoRow.holds Try.pinned (OpenSpec.upto stepfnSumsSpec)

/-- 'mailboatlaw06.StepfnPoints', WHERE WHAT IT READS IS OF BULK AT MOST 1048576: true; the input reads as it did. -/
def stepfnPointsUptoRow : OpenClaim := { program := "ytbcibkopcbhgfaa", sum := "7bee9b32c2dfe279d7ac9b712774fc29a7d97fc25855c2de459c0b56fb8cf4ed", func := "mailboat/mailboatlaw06.StepfnPoints", spec := "stepfnPoints", inPlace := ["math/bits.Sub64", "math/bits.Add64"], unfollowed := true, recurses := true, apart := false, narrowed := true }
def StepfnPointsUptoSaid : Prop := stepfnPointsUptoRow.holds Try.pinned (OpenSpec.upto stepfnPointsSpec)

/-- 'mailboatlaw06.StepfnGroup', WHERE WHAT IT READS IS OF BULK AT MOST 1048576: true; the input reads as it did. -/
def stepfnGroupUptoRow : OpenClaim := { program := "ytbcibkopcbhgfaa", sum := "7bee9b32c2dfe279d7ac9b712774fc29a7d97fc25855c2de459c0b56fb8cf4ed", func := "mailboat/mailboatlaw06.StepfnGroup", spec := "stepfnGroup", inPlace := ["math/bits.Sub64", "math/bits.Add64"], unfollowed := true, recurses := true, apart := false, narrowed := true }
def StepfnGroupUptoSaid : Prop := stepfnGroupUptoRow.holds Try.pinned (OpenSpec.upto stepfnGroupSpec)

/-- 'mailboatlaw06.StepfnBounds', WHERE WHAT IT READS IS OF BULK AT MOST 1048576: true; the input reads as it did. -/
def stepfnBoundsUptoRow : OpenClaim := { program := "ytbcibkopcbhgfaa", sum := "7bee9b32c2dfe279d7ac9b712774fc29a7d97fc25855c2de459c0b56fb8cf4ed", func := "mailboat/mailboatlaw06.StepfnBounds", spec := "stepfnBounds", inPlace := ["math/bits.Sub64", "math/bits.Add64"], unfollowed := true, recurses := true, apart := false, narrowed := true }
def StepfnBoundsUptoSaid : Prop := stepfnBoundsUptoRow.holds Try.pinned (OpenSpec.upto stepfnBoundsSpec)

/-- 'mailboatlaw06.StepfnIntegrals', WHERE WHAT IT READS IS OF BULK AT MOST 1048576: true; the input reads as it did. -/
def stepfnIntegralsUptoRow : OpenClaim := { program := "ytbcibkopcbhgfaa", sum := "7bee9b32c2dfe279d7ac9b712774fc29a7d97fc25855c2de459c0b56fb8cf4ed", func := "mailboat/mailboatlaw06.StepfnIntegrals", spec := "stepfnIntegrals", inPlace := ["math/bits.Sub64", "math/bits.Add64"], unfollowed := true, recurses := true, apart := false, narrowed := true }
def StepfnIntegralsUptoSaid : Prop := stepfnIntegralsUptoRow.holds Try.pinned (OpenSpec.upto stepfnIntegralsSpec)

/-- 'mailboatlaw06.StepfnValues', WHERE WHAT IT READS IS OF BULK AT MOST 1048576: true; the input reads as it did. -/
def stepfnValuesUptoRow : OpenClaim := { program := "ytbcibkopcbhgfaa", sum := "7bee9b32c2dfe279d7ac9b712774fc29a7d97fc25855c2de459c0b56fb8cf4ed", func := "mailboat/mailboatlaw06.StepfnValues", spec := "stepfnValues", inPlace := ["math/bits.Sub64", "math/bits.Add64"], unfollowed := true, recurses := true, apart := false, narrowed := true }
def StepfnValuesUptoSaid : Prop := stepfnValuesUptoRow.holds Try.pinned (OpenSpec.upto stepfnValuesSpec)

/-- 'mailboatlaw06.StepfnBelow', WHERE WHAT IT READS IS OF BULK AT MOST 1048576: true; the input reads as it did. -/
def stepfnBelowUptoRow : OpenClaim := { program := "ytbcibkopcbhgfaa", sum := "7bee9b32c2dfe279d7ac9b712774fc29a7d97fc25855c2de459c0b56fb8cf4ed", func := "mailboat/mailboatlaw06.StepfnBelow", spec := "stepfnBelow", inPlace := ["math/bits.Sub64", "math/bits.Add64"], unfollowed := true, recurses := true, apart := false, narrowed := true }
def StepfnBelowUptoSaid : Prop := stepfnBelowUptoRow.holds Try.pinned (OpenSpec.upto stepfnBelowSpec)

end Rows
end Go.Proofs.Ytbcibkopcbhgfaa
