/-
  No cell of these rows narrows 'for every input' (looked for: loops, veiled, ifaces, maps, wideKeys, modest, calm, conditions, laid).
  DERIVED. THE GIVEN ROWS OF THIS SEAT. 8 by the template 'for every input the law returns true; each argument reads behind the call as it read before'; 0 by the template 'total and deterministic' (their statements: YtoccdekghjoldaaTotals.lean).
  GIVEN WITH THE SEED: the statements are not yours to turn. If you find one false, say at which input.
  Laid BY PROGRAM, IN A SANDBOX (cutbox-rows.mjs): the forced cells as the released guide's own fill.sh prints them over the translation 2956f4f50d94f3ae… (all of the seat's roots in one cut). By AI agents, Wed Nov 11 2026. No macro, syntax, notation, axiom, sorry.
-/
import Derived.Test.YtoccdekghjoldaaChecked
import GoSem.Claim
import GoSem.ClaimJoined
import GoSem.ClaimMapViews
import Derived.JoinedTies
import Derived.KernelRfl
namespace Go.Proofs.Ytoccdekghjoldaa
/- THE CELL 'sum', in the pinned program and in every row, IS THE sha256 OF THE DUMP (.gsa) THAT YtoccdekghjoldaaProg.lean LOADS. Nothing in Lean hashes anything: it is a label: what it is worth is what the hold of that sum in a sandbox is worth. -/
noncomputable def Try.pinned : Pinned := { name := "ytoccdekghjoldaa", sum := "2956f4f50d94f3ae834a485ee9830dc8fbdf001ced0ee4de659202285704504c", checked := Try.checked }
namespace Rows
def none {H : Type} : Left H := { results := [], args := [] }

/-- 'mailboatlaw07.FlowMax': WHATEVER THE INPUT: true; the input reads as it did. -/
def flowMaxSpec : ChangeSpec := { name := "flowMax", fn := fun _ => fun
  | [d] => { results := [.lit (.bool true)], args := [d] }
  | _ => none }
def flowMaxRow : OpenClaim := { program := "ytoccdekghjoldaa", sum := "2956f4f50d94f3ae834a485ee9830dc8fbdf001ced0ee4de659202285704504c", func := "mailboat/mailboatlaw07.FlowMax", spec := "flowMax", unfollowed := true, recurses := true, apart := false }
def FlowMaxSaid : Prop := flowMaxRow.holds Try.pinned (OpenSpec.ofChange flowMaxSpec)

/-- ITS FALSE NEIGHBOUR: 'it returns false'. Refute it at one input. -/
def flowMaxWrong : ChangeSpec := { name := "flowMax", fn := fun _ => fun
  | [d] => { results := [.lit (.bool false)], args := [d] }
  | _ => none }
def FlowMaxWrongFalsely : Prop := flowMaxRow.holds Try.pinned (OpenSpec.ofChange flowMaxWrong)

/-- 'mailboatlaw07.FlowMonotone': WHATEVER THE INPUT: true; the input reads as it did. -/
def flowMonotoneSpec : ChangeSpec := { name := "flowMonotone", fn := fun _ => fun
  | [d1, d2, d3] => { results := [.lit (.bool true)], args := [d1, d2, d3] }
  | _ => none }
def flowMonotoneRow : OpenClaim := { program := "ytoccdekghjoldaa", sum := "2956f4f50d94f3ae834a485ee9830dc8fbdf001ced0ee4de659202285704504c", func := "mailboat/mailboatlaw07.FlowMonotone", spec := "flowMonotone", unfollowed := true, recurses := true, apart := false }
def FlowMonotoneSaid : Prop := flowMonotoneRow.holds Try.pinned (OpenSpec.ofChange flowMonotoneSpec)

/-- ITS FALSE NEIGHBOUR: 'it returns false'. Refute it at one input. -/
def flowMonotoneWrong : ChangeSpec := { name := "flowMonotone", fn := fun _ => fun
  | [d1, d2, d3] => { results := [.lit (.bool false)], args := [d1, d2, d3] }
  | _ => none }
def FlowMonotoneWrongFalsely : Prop := flowMonotoneRow.holds Try.pinned (OpenSpec.ofChange flowMonotoneWrong)

/-- 'mailboatlaw07.FlowReversed': WHATEVER THE INPUT: true; the input reads as it did. -/
def flowReversedSpec : ChangeSpec := { name := "flowReversed", fn := fun _ => fun
  | [d] => { results := [.lit (.bool true)], args := [d] }
  | _ => none }
def flowReversedRow : OpenClaim := { program := "ytoccdekghjoldaa", sum := "2956f4f50d94f3ae834a485ee9830dc8fbdf001ced0ee4de659202285704504c", func := "mailboat/mailboatlaw07.FlowReversed", spec := "flowReversed", unfollowed := true, recurses := true, apart := false }
def FlowReversedSaid : Prop := flowReversedRow.holds Try.pinned (OpenSpec.ofChange flowReversedSpec)

/-- ITS FALSE NEIGHBOUR: 'it returns false'. Refute it at one input. -/
def flowReversedWrong : ChangeSpec := { name := "flowReversed", fn := fun _ => fun
  | [d] => { results := [.lit (.bool false)], args := [d] }
  | _ => none }
def FlowReversedWrongFalsely : Prop := flowReversedRow.holds Try.pinned (OpenSpec.ofChange flowReversedWrong)

/-- 'mailboatlaw07.FlowLeast': WHATEVER THE INPUT: true; the input reads as it did. -/
def flowLeastSpec : ChangeSpec := { name := "flowLeast", fn := fun _ => fun
  | [d1, d2] => { results := [.lit (.bool true)], args := [d1, d2] }
  | _ => none }
def flowLeastRow : OpenClaim := { program := "ytoccdekghjoldaa", sum := "2956f4f50d94f3ae834a485ee9830dc8fbdf001ced0ee4de659202285704504c", func := "mailboat/mailboatlaw07.FlowLeast", spec := "flowLeast", unfollowed := true, recurses := true, apart := false }
def FlowLeastSaid : Prop := flowLeastRow.holds Try.pinned (OpenSpec.ofChange flowLeastSpec)

/-- ITS FALSE NEIGHBOUR: 'it returns false'. Refute it at one input. -/
def flowLeastWrong : ChangeSpec := { name := "flowLeast", fn := fun _ => fun
  | [d1, d2] => { results := [.lit (.bool false)], args := [d1, d2] }
  | _ => none }
def FlowLeastWrongFalsely : Prop := flowLeastRow.holds Try.pinned (OpenSpec.ofChange flowLeastWrong)

/-- 'mailboatlaw07.FlowDuality': WHATEVER THE INPUT: true; the input reads as it did. -/
def flowDualitySpec : ChangeSpec := { name := "flowDuality", fn := fun _ => fun
  | [d] => { results := [.lit (.bool true)], args := [d] }
  | _ => none }
def flowDualityRow : OpenClaim := { program := "ytoccdekghjoldaa", sum := "2956f4f50d94f3ae834a485ee9830dc8fbdf001ced0ee4de659202285704504c", func := "mailboat/mailboatlaw07.FlowDuality", spec := "flowDuality", unfollowed := true, recurses := true, apart := false }
def FlowDualitySaid : Prop := flowDualityRow.holds Try.pinned (OpenSpec.ofChange flowDualitySpec)

/-- ITS FALSE NEIGHBOUR: 'it returns false'. Refute it at one input. -/
def flowDualityWrong : ChangeSpec := { name := "flowDuality", fn := fun _ => fun
  | [d] => { results := [.lit (.bool false)], args := [d] }
  | _ => none }
def FlowDualityWrongFalsely : Prop := flowDualityRow.holds Try.pinned (OpenSpec.ofChange flowDualityWrong)

/-- 'mailboatlaw07.FlowBounds': WHATEVER THE INPUT: true; the input reads as it did. -/
def flowBoundsSpec : ChangeSpec := { name := "flowBounds", fn := fun _ => fun
  | [d1, d2, d3] => { results := [.lit (.bool true)], args := [d1, d2, d3] }
  | _ => none }
def flowBoundsRow : OpenClaim := { program := "ytoccdekghjoldaa", sum := "2956f4f50d94f3ae834a485ee9830dc8fbdf001ced0ee4de659202285704504c", func := "mailboat/mailboatlaw07.FlowBounds", spec := "flowBounds", unfollowed := true, recurses := true, apart := false }
def FlowBoundsSaid : Prop := flowBoundsRow.holds Try.pinned (OpenSpec.ofChange flowBoundsSpec)

/-- ITS FALSE NEIGHBOUR: 'it returns false'. Refute it at one input. -/
def flowBoundsWrong : ChangeSpec := { name := "flowBounds", fn := fun _ => fun
  | [d1, d2, d3] => { results := [.lit (.bool false)], args := [d1, d2, d3] }
  | _ => none }
def FlowBoundsWrongFalsely : Prop := flowBoundsRow.holds Try.pinned (OpenSpec.ofChange flowBoundsWrong)

/-- 'mailboatlaw07.FlowPaths': WHATEVER THE INPUT: true; the input reads as it did. -/
def flowPathsSpec : ChangeSpec := { name := "flowPaths", fn := fun _ => fun
  | [d1, d2, d3] => { results := [.lit (.bool true)], args := [d1, d2, d3] }
  | _ => none }
def flowPathsRow : OpenClaim := { program := "ytoccdekghjoldaa", sum := "2956f4f50d94f3ae834a485ee9830dc8fbdf001ced0ee4de659202285704504c", func := "mailboat/mailboatlaw07.FlowPaths", spec := "flowPaths", unfollowed := true, recurses := true, apart := false }
def FlowPathsSaid : Prop := flowPathsRow.holds Try.pinned (OpenSpec.ofChange flowPathsSpec)

/-- ITS FALSE NEIGHBOUR: 'it returns false'. Refute it at one input. -/
def flowPathsWrong : ChangeSpec := { name := "flowPaths", fn := fun _ => fun
  | [d1, d2, d3] => { results := [.lit (.bool false)], args := [d1, d2, d3] }
  | _ => none }
def FlowPathsWrongFalsely : Prop := flowPathsRow.holds Try.pinned (OpenSpec.ofChange flowPathsWrong)

/-- 'mailboatlaw07.FlowValue': WHATEVER THE INPUT: true; the input reads as it did. -/
def flowValueSpec : ChangeSpec := { name := "flowValue", fn := fun _ => fun
  | [d1, d2, d3] => { results := [.lit (.bool true)], args := [d1, d2, d3] }
  | _ => none }
def flowValueRow : OpenClaim := { program := "ytoccdekghjoldaa", sum := "2956f4f50d94f3ae834a485ee9830dc8fbdf001ced0ee4de659202285704504c", func := "mailboat/mailboatlaw07.FlowValue", spec := "flowValue", unfollowed := true, recurses := true, apart := false }
def FlowValueSaid : Prop := flowValueRow.holds Try.pinned (OpenSpec.ofChange flowValueSpec)

/-- ITS FALSE NEIGHBOUR: 'it returns false'. Refute it at one input. -/
def flowValueWrong : ChangeSpec := { name := "flowValue", fn := fun _ => fun
  | [d1, d2, d3] => { results := [.lit (.bool false)], args := [d1, d2, d3] }
  | _ => none }
def FlowValueWrongFalsely : Prop := flowValueRow.holds Try.pinned (OpenSpec.ofChange flowValueWrong)

/- THE SECOND FORM. 'bulk': how many values and letters a reading holds, each counted each time it is reached (what is shared counts as often as it is met; a slice's spare places count too). A statement '..UptoSaid' is the law's where the arguments, and the package variables that the reading takes, are together of bulk at most 1048576: NARROWER than '..Said'. Prove '..Said' where nothing that the law and all that it calls make is longer than what came in: it says more and counts as full. Else prove '..UptoSaid'. A law counts once. -/
mutual
def uptoBulk {H : Type} : DataW H → Nat
  | .lit (.string bytes) => bytes.length + 1
  | .lit _ => 1
  | .nil => 1
  | .ptr d => uptoBulk d + 1
  | .slice elems spare => uptoBulkAll elems + uptoBulkAll spare + 1
  | .agg parts => uptoBulkAll parts + 1
  | .iface _ d => uptoBulk d + 1
  | .map entries => uptoBulkEntries entries + 1
  | .held _ => 1
def uptoBulkAll {H : Type} : List (DataW H) → Nat
  | [] => 0
  | d :: r => uptoBulk d + uptoBulkAll r
def uptoBulkEntries {H : Type} : List (Lit × DataW H) → Nat
  | [] => 0
  | x :: r => uptoBulkEntry x + uptoBulkEntries r
def uptoBulkEntry {H : Type} : Lit × DataW H → Nat
  | (.string bytes, d) => bytes.length + uptoBulk d + 1
  | (_, d) => uptoBulk d + 1
 end
def uptoSmall : (H : Type) → List (DataW H) → Bool := fun _ ds => decide (uptoBulkAll ds ≤ 1048576)
def OpenSpec.upto (s : _root_.Go.ChangeSpec) : _root_.Go.OpenSpec := { _root_.Go.OpenSpec.ofChange s with cond := some uptoSmall }

/-- 'mailboatlaw07.FlowMax', WHERE WHAT IT READS IS OF BULK AT MOST 1048576: true; the input reads as it did. -/
def flowMaxUptoRow : OpenClaim := { program := "ytoccdekghjoldaa", sum := "2956f4f50d94f3ae834a485ee9830dc8fbdf001ced0ee4de659202285704504c", func := "mailboat/mailboatlaw07.FlowMax", spec := "flowMax", unfollowed := true, recurses := true, apart := false, narrowed := true }
def FlowMaxUptoSaid : Prop := flowMaxUptoRow.holds Try.pinned (OpenSpec.upto flowMaxSpec)

/-- 'mailboatlaw07.FlowMonotone', WHERE WHAT IT READS IS OF BULK AT MOST 1048576: true; the input reads as it did. -/
def flowMonotoneUptoRow : OpenClaim := { program := "ytoccdekghjoldaa", sum := "2956f4f50d94f3ae834a485ee9830dc8fbdf001ced0ee4de659202285704504c", func := "mailboat/mailboatlaw07.FlowMonotone", spec := "flowMonotone", unfollowed := true, recurses := true, apart := false, narrowed := true }
def FlowMonotoneUptoSaid : Prop := flowMonotoneUptoRow.holds Try.pinned (OpenSpec.upto flowMonotoneSpec)

/-- 'mailboatlaw07.FlowReversed', WHERE WHAT IT READS IS OF BULK AT MOST 1048576: true; the input reads as it did. -/
def flowReversedUptoRow : OpenClaim := { program := "ytoccdekghjoldaa", sum := "2956f4f50d94f3ae834a485ee9830dc8fbdf001ced0ee4de659202285704504c", func := "mailboat/mailboatlaw07.FlowReversed", spec := "flowReversed", unfollowed := true, recurses := true, apart := false, narrowed := true }
def FlowReversedUptoSaid : Prop := flowReversedUptoRow.holds Try.pinned (OpenSpec.upto flowReversedSpec)

/-- 'mailboatlaw07.FlowLeast', WHERE WHAT IT READS IS OF BULK AT MOST 1048576: true; the input reads as it did. -/
def flowLeastUptoRow : OpenClaim := { program := "ytoccdekghjoldaa", sum := "2956f4f50d94f3ae834a485ee9830dc8fbdf001ced0ee4de659202285704504c", func := "mailboat/mailboatlaw07.FlowLeast", spec := "flowLeast", unfollowed := true, recurses := true, apart := false, narrowed := true }
def FlowLeastUptoSaid : Prop := flowLeastUptoRow.holds Try.pinned (OpenSpec.upto flowLeastSpec)

/-- 'mailboatlaw07.FlowDuality', WHERE WHAT IT READS IS OF BULK AT MOST 1048576: true; the input reads as it did. -/
def flowDualityUptoRow : OpenClaim := { program := "ytoccdekghjoldaa", sum := "2956f4f50d94f3ae834a485ee9830dc8fbdf001ced0ee4de659202285704504c", func := "mailboat/mailboatlaw07.FlowDuality", spec := "flowDuality", unfollowed := true, recurses := true, apart := false, narrowed := true }
def FlowDualityUptoSaid : Prop := flowDualityUptoRow.holds Try.pinned (OpenSpec.upto flowDualitySpec)

/-- 'mailboatlaw07.FlowBounds', WHERE WHAT IT READS IS OF BULK AT MOST 1048576: true; the input reads as it did. -/
def flowBoundsUptoRow : OpenClaim := { program := "ytoccdekghjoldaa", sum := "2956f4f50d94f3ae834a485ee9830dc8fbdf001ced0ee4de659202285704504c", func := "mailboat/mailboatlaw07.FlowBounds", spec := "flowBounds", unfollowed := true, recurses := true, apart := false, narrowed := true }
def FlowBoundsUptoSaid : Prop := flowBoundsUptoRow.holds Try.pinned (OpenSpec.upto flowBoundsSpec)

/-- 'mailboatlaw07.FlowPaths', WHERE WHAT IT READS IS OF BULK AT MOST 1048576: true; the input reads as it did. -/
def flowPathsUptoRow : OpenClaim := { program := "ytoccdekghjoldaa", sum := "2956f4f50d94f3ae834a485ee9830dc8fbdf001ced0ee4de659202285704504c", func := "mailboat/mailboatlaw07.FlowPaths", spec := "flowPaths", unfollowed := true, recurses := true, apart := false, narrowed := true }
def FlowPathsUptoSaid : Prop := flowPathsUptoRow.holds Try.pinned (OpenSpec.upto flowPathsSpec)

/-- 'mailboatlaw07.FlowValue', WHERE WHAT IT READS IS OF BULK AT MOST 1048576: true; the input reads as it did. -/
def flowValueUptoRow : OpenClaim := { program := "ytoccdekghjoldaa", sum := "2956f4f50d94f3ae834a485ee9830dc8fbdf001ced0ee4de659202285704504c", func := "mailboat/mailboatlaw07.FlowValue", spec := "flowValue", unfollowed := true, recurses := true, apart := false, narrowed := true }
def FlowValueUptoSaid : Prop := flowValueUptoRow.holds Try.pinned (OpenSpec.upto flowValueSpec)

end Rows
end Go.Proofs.Ytoccdekghjoldaa
