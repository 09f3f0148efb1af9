/-
  No cell of these rows narrows 'for every input' (looked for: loops, veiled, ifaces, maps, wideKeys, modest, calm, conditions, laid).
  DERIVED. THE GIVEN ROWS OF THIS SEAT. 8 by the template 'for every input the law returns true; each argument reads behind the call as it read before'; 0 by the template 'total and deterministic' (their statements: YtlpemhpfljhhbaaTotals.lean).
  GIVEN WITH THE SEED: the statements are not yours to turn. If you find one false, say at which input.
  Laid BY PROGRAM, IN A SANDBOX (cutbox-rows.mjs): the forced cells as the released guide's own fill.sh prints them over the translation 9053cfccb6a830f5… (all of the seat's roots in one cut). By AI agents, Wed Nov 11 2026. No macro, syntax, notation, axiom, sorry.
-/
import Derived.Test.YtlpemhpfljhhbaaChecked
import GoSem.Claim
import GoSem.ClaimJoined
import GoSem.ClaimMapViews
import Derived.JoinedTies
import Derived.KernelRfl
namespace Go.Proofs.Ytlpemhpfljhhbaa
/- THE CELL 'sum', in the pinned program and in every row, IS THE sha256 OF THE DUMP (.gsa) THAT YtlpemhpfljhhbaaProg.lean LOADS. Nothing in Lean hashes anything: it is a label: what it is worth is what the hold of that sum in a sandbox is worth. -/
noncomputable def Try.pinned : Pinned := { name := "ytlpemhpfljhhbaa", sum := "9053cfccb6a830f5655c0badf4cb019482dbbf15fab0f91b0ca4b5305489ec25", checked := Try.checked }
namespace Rows
def none {H : Type} : Left H := { results := [], args := [] }

/-- 'mailboatlaw10.CurveOrder': WHATEVER THE INPUT: true; the input reads as it did. -/
def curveOrderSpec : ChangeSpec := { name := "curveOrder", fn := fun _ => fun
  | [d1, d2, d3] => { results := [.lit (.bool true)], args := [d1, d2, d3] }
  | _ => none }
def curveOrderRow : OpenClaim := { program := "ytlpemhpfljhhbaa", sum := "9053cfccb6a830f5655c0badf4cb019482dbbf15fab0f91b0ca4b5305489ec25", func := "mailboat/mailboatlaw10.CurveOrder", spec := "curveOrder", inPlace := ["math/bits.Sub64", "math/bits.Add64"], unfollowed := true, recurses := true, apart := false }
def CurveOrderSaid : Prop := curveOrderRow.holds Try.pinned (OpenSpec.ofChange curveOrderSpec)

/-- ITS FALSE NEIGHBOUR: 'it returns false'. Refute it at one input. -/
def curveOrderWrong : ChangeSpec := { name := "curveOrder", fn := fun _ => fun
  | [d1, d2, d3] => { results := [.lit (.bool false)], args := [d1, d2, d3] }
  | _ => none }
def CurveOrderWrongFalsely : Prop := curveOrderRow.holds Try.pinned (OpenSpec.ofChange curveOrderWrong)

/-- 'mailboatlaw10.CurveInverse': WHATEVER THE INPUT: true; the input reads as it did. -/
def curveInverseSpec : ChangeSpec := { name := "curveInverse", fn := fun _ => fun
  | [d1, d2, d3, d4] => { results := [.lit (.bool true)], args := [d1, d2, d3, d4] }
  | _ => none }
def curveInverseRow : OpenClaim := { program := "ytlpemhpfljhhbaa", sum := "9053cfccb6a830f5655c0badf4cb019482dbbf15fab0f91b0ca4b5305489ec25", func := "mailboat/mailboatlaw10.CurveInverse", spec := "curveInverse", inPlace := ["math/bits.Sub64", "math/bits.Add64"], unfollowed := true, recurses := true, apart := false }
def CurveInverseSaid : Prop := curveInverseRow.holds Try.pinned (OpenSpec.ofChange curveInverseSpec)

/-- ITS FALSE NEIGHBOUR: 'it returns false'. Refute it at one input. -/
def curveInverseWrong : ChangeSpec := { name := "curveInverse", fn := fun _ => fun
  | [d1, d2, d3, d4] => { results := [.lit (.bool false)], args := [d1, d2, d3, d4] }
  | _ => none }
def CurveInverseWrongFalsely : Prop := curveInverseRow.holds Try.pinned (OpenSpec.ofChange curveInverseWrong)

/-- 'mailboatlaw10.CurveJobs': WHATEVER THE INPUT: true; the input reads as it did. -/
def curveJobsSpec : ChangeSpec := { name := "curveJobs", fn := fun _ => fun
  | [d1, d2, d3] => { results := [.lit (.bool true)], args := [d1, d2, d3] }
  | _ => none }
def curveJobsRow : OpenClaim := { program := "ytlpemhpfljhhbaa", sum := "9053cfccb6a830f5655c0badf4cb019482dbbf15fab0f91b0ca4b5305489ec25", func := "mailboat/mailboatlaw10.CurveJobs", spec := "curveJobs", inPlace := ["math/bits.Sub64", "math/bits.Add64"], unfollowed := true, recurses := true, apart := false }
def CurveJobsSaid : Prop := curveJobsRow.holds Try.pinned (OpenSpec.ofChange curveJobsSpec)

/-- ITS FALSE NEIGHBOUR: 'it returns false'. Refute it at one input. -/
def curveJobsWrong : ChangeSpec := { name := "curveJobs", fn := fun _ => fun
  | [d1, d2, d3] => { results := [.lit (.bool false)], args := [d1, d2, d3] }
  | _ => none }
def CurveJobsWrongFalsely : Prop := curveJobsRow.holds Try.pinned (OpenSpec.ofChange curveJobsWrong)

/-- 'mailboatlaw10.CurveBacklog': WHATEVER THE INPUT: true; the input reads as it did. -/
def curveBacklogSpec : ChangeSpec := { name := "curveBacklog", fn := fun _ => fun
  | [d1, d2, d3] => { results := [.lit (.bool true)], args := [d1, d2, d3] }
  | _ => none }
def curveBacklogRow : OpenClaim := { program := "ytlpemhpfljhhbaa", sum := "9053cfccb6a830f5655c0badf4cb019482dbbf15fab0f91b0ca4b5305489ec25", func := "mailboat/mailboatlaw10.CurveBacklog", spec := "curveBacklog", inPlace := ["math/bits.Sub64", "math/bits.Add64"], unfollowed := true, recurses := true, apart := false }
def CurveBacklogSaid : Prop := curveBacklogRow.holds Try.pinned (OpenSpec.ofChange curveBacklogSpec)

/-- ITS FALSE NEIGHBOUR: 'it returns false'. Refute it at one input. -/
def curveBacklogWrong : ChangeSpec := { name := "curveBacklog", fn := fun _ => fun
  | [d1, d2, d3] => { results := [.lit (.bool false)], args := [d1, d2, d3] }
  | _ => none }
def CurveBacklogWrongFalsely : Prop := curveBacklogRow.holds Try.pinned (OpenSpec.ofChange curveBacklogWrong)

/-- 'mailboatlaw10.CurveIntervals': WHATEVER THE INPUT: true; the input reads as it did. -/
def curveIntervalsSpec : ChangeSpec := { name := "curveIntervals", fn := fun _ => fun
  | [d1, d2, d3, d4] => { results := [.lit (.bool true)], args := [d1, d2, d3, d4] }
  | _ => none }
def curveIntervalsRow : OpenClaim := { program := "ytlpemhpfljhhbaa", sum := "9053cfccb6a830f5655c0badf4cb019482dbbf15fab0f91b0ca4b5305489ec25", func := "mailboat/mailboatlaw10.CurveIntervals", spec := "curveIntervals", inPlace := ["math/bits.Sub64", "math/bits.Add64"], unfollowed := true, recurses := true, apart := false }
def CurveIntervalsSaid : Prop := curveIntervalsRow.holds Try.pinned (OpenSpec.ofChange curveIntervalsSpec)

/-- ITS FALSE NEIGHBOUR: 'it returns false'. Refute it at one input. -/
def curveIntervalsWrong : ChangeSpec := { name := "curveIntervals", fn := fun _ => fun
  | [d1, d2, d3, d4] => { results := [.lit (.bool false)], args := [d1, d2, d3, d4] }
  | _ => none }
def CurveIntervalsWrongFalsely : Prop := curveIntervalsRow.holds Try.pinned (OpenSpec.ofChange curveIntervalsWrong)

/-- 'mailboatlaw10.CurveValues': WHATEVER THE INPUT: true; the input reads as it did. -/
def curveValuesSpec : ChangeSpec := { name := "curveValues", fn := fun _ => fun
  | [d1, d2, d3, d4, d5] => { results := [.lit (.bool true)], args := [d1, d2, d3, d4, d5] }
  | _ => none }
def curveValuesRow : OpenClaim := { program := "ytlpemhpfljhhbaa", sum := "9053cfccb6a830f5655c0badf4cb019482dbbf15fab0f91b0ca4b5305489ec25", func := "mailboat/mailboatlaw10.CurveValues", spec := "curveValues", inPlace := ["math/bits.Sub64", "math/bits.Add64"], unfollowed := true, recurses := true, apart := false }
def CurveValuesSaid : Prop := curveValuesRow.holds Try.pinned (OpenSpec.ofChange curveValuesSpec)

/-- ITS FALSE NEIGHBOUR: 'it returns false'. Refute it at one input. -/
def curveValuesWrong : ChangeSpec := { name := "curveValues", fn := fun _ => fun
  | [d1, d2, d3, d4, d5] => { results := [.lit (.bool false)], args := [d1, d2, d3, d4, d5] }
  | _ => none }
def CurveValuesWrongFalsely : Prop := curveValuesRow.holds Try.pinned (OpenSpec.ofChange curveValuesWrong)

/-- 'mailboatlaw10.CurveSplits': WHATEVER THE INPUT: true; the input reads as it did. -/
def curveSplitsSpec : ChangeSpec := { name := "curveSplits", fn := fun _ => fun
  | [d1, d2, d3, d4] => { results := [.lit (.bool true)], args := [d1, d2, d3, d4] }
  | _ => none }
def curveSplitsRow : OpenClaim := { program := "ytlpemhpfljhhbaa", sum := "9053cfccb6a830f5655c0badf4cb019482dbbf15fab0f91b0ca4b5305489ec25", func := "mailboat/mailboatlaw10.CurveSplits", spec := "curveSplits", inPlace := ["math/bits.Sub64", "math/bits.Add64"], unfollowed := true, recurses := true, apart := false }
def CurveSplitsSaid : Prop := curveSplitsRow.holds Try.pinned (OpenSpec.ofChange curveSplitsSpec)

/-- ITS FALSE NEIGHBOUR: 'it returns false'. Refute it at one input. -/
def curveSplitsWrong : ChangeSpec := { name := "curveSplits", fn := fun _ => fun
  | [d1, d2, d3, d4] => { results := [.lit (.bool false)], args := [d1, d2, d3, d4] }
  | _ => none }
def CurveSplitsWrongFalsely : Prop := curveSplitsRow.holds Try.pinned (OpenSpec.ofChange curveSplitsWrong)

/-- 'mailboatlaw10.CurveMonotone': WHATEVER THE INPUT: true; the input reads as it did. -/
def curveMonotoneSpec : ChangeSpec := { name := "curveMonotone", fn := fun _ => fun
  | [d1, d2, d3, d4, d5, d6] => { results := [.lit (.bool true)], args := [d1, d2, d3, d4, d5, d6] }
  | _ => none }
def curveMonotoneRow : OpenClaim := { program := "ytlpemhpfljhhbaa", sum := "9053cfccb6a830f5655c0badf4cb019482dbbf15fab0f91b0ca4b5305489ec25", func := "mailboat/mailboatlaw10.CurveMonotone", spec := "curveMonotone", inPlace := ["math/bits.Sub64", "math/bits.Add64"], unfollowed := true, recurses := true, apart := false }
def CurveMonotoneSaid : Prop := curveMonotoneRow.holds Try.pinned (OpenSpec.ofChange curveMonotoneSpec)

/-- ITS FALSE NEIGHBOUR: 'it returns false'. Refute it at one input. -/
def curveMonotoneWrong : ChangeSpec := { name := "curveMonotone", fn := fun _ => fun
  | [d1, d2, d3, d4, d5, d6] => { results := [.lit (.bool false)], args := [d1, d2, d3, d4, d5, d6] }
  | _ => none }
def CurveMonotoneWrongFalsely : Prop := curveMonotoneRow.holds Try.pinned (OpenSpec.ofChange curveMonotoneWrong)

/- THE SECOND FORM. 'bulk': how many values and letters a reading holds, each counted each time it is reached (what is shared counts as often as it is met; a slice's spare places count too). A statement '..UptoSaid' is the law's where the arguments, and the package variables that the reading takes, are together of bulk at most 1048576: NARROWER than '..Said'. Prove '..Said' where nothing that the law and all that it calls make is longer than what came in: it says more and counts as full. Else prove '..UptoSaid'. A law counts once. -/
mutual
def uptoBulk {H : Type} : DataW H → Nat
  | .lit (.string bytes) => bytes.length + 1
  | .lit _ => 1
  | .nil => 1
  | .ptr d => uptoBulk d + 1
  | .slice elems spare => uptoBulkAll elems + uptoBulkAll spare + 1
  | .agg parts => uptoBulkAll parts + 1
  | .iface _ d => uptoBulk d + 1
  | .map entries => uptoBulkEntries entries + 1
  | .held _ => 1
def uptoBulkAll {H : Type} : List (DataW H) → Nat
  | [] => 0
  | d :: r => uptoBulk d + uptoBulkAll r
def uptoBulkEntries {H : Type} : List (Lit × DataW H) → Nat
  | [] => 0
  | x :: r => uptoBulkEntry x + uptoBulkEntries r
def uptoBulkEntry {H : Type} : Lit × DataW H → Nat
  | (.string bytes, d) => bytes.length + uptoBulk d + 1
  | (_, d) => uptoBulk d + 1
 end
def uptoSmall : (H : Type) → List (DataW H) → Bool := fun _ ds => decide (uptoBulkAll ds ≤ 1048576)
def OpenSpec.upto (s : _root_.Go.ChangeSpec) : _root_.Go.OpenSpec := { _root_.Go.OpenSpec.ofChange s with cond := some uptoSmall }

/-- 'mailboatlaw10.CurveOrder', WHERE WHAT IT READS IS OF BULK AT MOST 1048576: true; the input reads as it did. -/
def curveOrderUptoRow : OpenClaim := { program := "ytlpemhpfljhhbaa", sum := "9053cfccb6a830f5655c0badf4cb019482dbbf15fab0f91b0ca4b5305489ec25", func := "mailboat/mailboatlaw10.CurveOrder", spec := "curveOrder", inPlace := ["math/bits.Sub64", "math/bits.Add64"], unfollowed := true, recurses := true, apart := false, narrowed := true }
def CurveOrderUptoSaid : Prop := curveOrderUptoRow.holds Try.pinned (OpenSpec.upto curveOrderSpec)

/-- 'mailboatlaw10.CurveInverse', WHERE WHAT IT READS IS OF BULK AT MOST 1048576: true; the input reads as it did. -/
def curveInverseUptoRow : OpenClaim := { program := "ytlpemhpfljhhbaa", sum := "9053cfccb6a830f5655c0badf4cb019482dbbf15fab0f91b0ca4b5305489ec25", func := "mailboat/mailboatlaw10.CurveInverse", spec := "curveInverse", inPlace := ["math/bits.Sub64", "math/bits.Add64"], unfollowed := true, recurses := true, apart := false, narrowed := true }
def CurveInverseUptoSaid : Prop := curveInverseUptoRow.holds Try.pinned (OpenSpec.upto curveInverseSpec)

/-- 'mailboatlaw10.CurveJobs', WHERE WHAT IT READS IS OF BULK AT MOST 1048576: true; the input reads as it did. -/
def curveJobsUptoRow : OpenClaim := { program := "ytlpemhpfljhhbaa", sum := "9053cfccb6a830f5655c0badf4cb019482dbbf15fab0f91b0ca4b5305489ec25", func := "mailboat/mailboatlaw10.CurveJobs", spec := "curveJobs", inPlace := ["math/bits.Sub64", "math/bits.Add64"], unfollowed := true, recurses := true, apart := false, narrowed := true }
def CurveJobsUptoSaid : Prop := curveJobsUptoRow.holds Try.pinned (OpenSpec.upto curveJobsSpec)

/-- 'mailboatlaw10.CurveBacklog', WHERE WHAT IT READS IS OF BULK AT MOST 1048576: true; the input reads as it did. -/
def curveBacklogUptoRow : OpenClaim := { program := "ytlpemhpfljhhbaa", sum := "9053cfccb6a830f5655c0badf4cb019482dbbf15fab0f91b0ca4b5305489ec25", func := "mailboat/mailboatlaw10.CurveBacklog", spec := "curveBacklog", inPlace := ["math/bits.Sub64", "math/bits.Add64"], unfollowed := true, recurses := true, apart := false, narrowed := true }
def CurveBacklogUptoSaid : Prop := curveBacklogUptoRow.holds Try.pinned (OpenSpec.upto curveBacklogSpec)

/-- 'mailboatlaw10.CurveIntervals', WHERE WHAT IT READS IS OF BULK AT MOST 1048576: true; the input reads as it did. -/
def curveIntervalsUptoRow : OpenClaim := { program := "ytlpemhpfljhhbaa", sum := "9053cfccb6a830f5655c0badf4cb019482dbbf15fab0f91b0ca4b5305489ec25", func := "mailboat/mailboatlaw10.CurveIntervals", spec := "curveIntervals", inPlace := ["math/bits.Sub64", "math/bits.Add64"], unfollowed := true, recurses := true, apart := false, narrowed := true }
def CurveIntervalsUptoSaid : Prop := curveIntervalsUptoRow.holds Try.pinned (OpenSpec.upto curveIntervalsSpec)

/-- 'mailboatlaw10.CurveValues', WHERE WHAT IT READS IS OF BULK AT MOST 1048576: true; the input reads as it did. -/
def curveValuesUptoRow : OpenClaim := { program := "ytlpemhpfljhhbaa", sum := "9053cfccb6a830f5655c0badf4cb019482dbbf15fab0f91b0ca4b5305489ec25", func := "mailboat/mailboatlaw10.CurveValues", spec := "curveValues", inPlace := ["math/bits.Sub64", "math/bits.Add64"], unfollowed := true, recurses := true, apart := false, narrowed := true }
def CurveValuesUptoSaid : Prop := curveValuesUptoRow.holds Try.pinned (OpenSpec.upto curveValuesSpec)

/-- 'mailboatlaw10.CurveSplits', WHERE WHAT IT READS IS OF BULK AT MOST 1048576: true; the input reads as it did. -/
def curveSplitsUptoRow : OpenClaim := { program := "ytlpemhpfljhhbaa", sum := "9053cfccb6a830f5655c0badf4cb019482dbbf15fab0f91b0ca4b5305489ec25", func := "mailboat/mailboatlaw10.CurveSplits", spec := "curveSplits", inPlace := ["math/bits.Sub64", "math/bits.Add64"], unfollowed := true, recurses := true, apart := false, narrowed := true }
def CurveSplitsUptoSaid : Prop := curveSplitsUptoRow.holds Try.pinned (OpenSpec.upto curveSplitsSpec)

/-- 'mailboatlaw10.CurveMonotone', WHERE WHAT IT READS IS OF BULK AT MOST 1048576: true; the input reads as it did. -/
def curveMonotoneUptoRow : OpenClaim := { program := "ytlpemhpfljhhbaa", sum := "9053cfccb6a830f5655c0badf4cb019482dbbf15fab0f91b0ca4b5305489ec25", func := "mailboat/mailboatlaw10.CurveMonotone", spec := "curveMonotone", inPlace := ["math/bits.Sub64", "math/bits.Add64"], unfollowed := true, recurses := true, apart := false, narrowed := true }
def CurveMonotoneUptoSaid : Prop := curveMonotoneUptoRow.holds Try.pinned (OpenSpec.upto curveMonotoneSpec)

end Rows
end Go.Proofs.Ytlpemhpfljhhbaa
