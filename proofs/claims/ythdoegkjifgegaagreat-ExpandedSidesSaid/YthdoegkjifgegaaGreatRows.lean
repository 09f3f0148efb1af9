/-
  No cell of these rows narrows 'for every input' (looked for: loops, veiled, ifaces, maps, wideKeys, modest, calm, conditions, laid).
  DERIVED. THE GIVEN ROWS OF THIS SEAT. 5 by the template 'for every input the law returns true; each argument reads behind the call as it read before'; 0 by the template 'total and deterministic' (their statements: YthdoegkjifgegaaGreatTotals.lean).
  GIVEN WITH THE SEED: the statements are not yours to turn. If you find one false, say at which input.
  Laid BY PROGRAM, IN A SANDBOX (cutbox-rows.mjs): the forced cells as the released guide's own fill.sh prints them over the translation 028f300f2f2eb798… (all of the seat's roots in one cut). By AI agents, Wed Nov 11 2026. No macro, syntax, notation, axiom, sorry.
-/
import Derived.Test.YthdoegkjifgegaaGreatChecked
import GoSem.Claim
import GoSem.ClaimJoined
import GoSem.ClaimMapViews
import Derived.JoinedTies
import Derived.KernelRfl
namespace Go.Proofs.YthdoegkjifgegaaGreat
/- THE CELL 'sum', in the pinned program and in every row, IS THE sha256 OF THE DUMP (.gsa) THAT YthdoegkjifgegaaGreatProg.lean LOADS. Nothing in Lean hashes anything: it is a label: what it is worth is what the hold of that sum in a sandbox is worth. -/
noncomputable def Tryz.pinned : Pinned := { name := "ythdoegkjifgegaagreat", sum := "028f300f2f2eb79812a5c867822ead0aba0fb4f1542823ac87ea1dce424222e7", checked := Tryz.checked }
namespace Rows
def none {H : Type} : Left H := { results := [], args := [] }

/-- 'mailboatlaw53.ExpandedGraph': WHATEVER THE INPUT: true; the input reads as it did. -/
def expandedGraphSpec : ChangeSpec := { name := "expandedGraph", fn := fun _ => fun
  | [d1, d2, d3, d4, d5] => { results := [.lit (.bool true)], args := [d1, d2, d3, d4, d5] }
  | _ => none }
def expandedGraphRow : OpenClaim := { program := "ythdoegkjifgegaagreat", sum := "028f300f2f2eb79812a5c867822ead0aba0fb4f1542823ac87ea1dce424222e7", func := "mailboat/mailboatlaw53.ExpandedGraph", spec := "expandedGraph", unfollowed := true, recurses := true, plainKeys := false, apart := false }
def ExpandedGraphSaid : Prop := expandedGraphRow.holds Tryz.pinned (OpenSpec.ofChange expandedGraphSpec)

/-- ITS FALSE NEIGHBOUR: 'it returns false'. Refute it at one input. -/
def expandedGraphWrong : ChangeSpec := { name := "expandedGraph", fn := fun _ => fun
  | [d1, d2, d3, d4, d5] => { results := [.lit (.bool false)], args := [d1, d2, d3, d4, d5] }
  | _ => none }
def ExpandedGraphWrongFalsely : Prop := expandedGraphRow.holds Tryz.pinned (OpenSpec.ofChange expandedGraphWrong)

/-- 'mailboatlaw53.ExpandedSides': WHATEVER THE INPUT: true; the input reads as it did. -/
def expandedSidesSpec : ChangeSpec := { name := "expandedSides", fn := fun _ => fun
  | [d1, d2, d3, d4] => { results := [.lit (.bool true)], args := [d1, d2, d3, d4] }
  | _ => none }
def expandedSidesRow : OpenClaim := { program := "ythdoegkjifgegaagreat", sum := "028f300f2f2eb79812a5c867822ead0aba0fb4f1542823ac87ea1dce424222e7", func := "mailboat/mailboatlaw53.ExpandedSides", spec := "expandedSides", unfollowed := true, recurses := true, plainKeys := false, apart := false }
def ExpandedSidesSaid : Prop := expandedSidesRow.holds Tryz.pinned (OpenSpec.ofChange expandedSidesSpec)

/-- ITS FALSE NEIGHBOUR: 'it returns false'. Refute it at one input. -/
def expandedSidesWrong : ChangeSpec := { name := "expandedSides", fn := fun _ => fun
  | [d1, d2, d3, d4] => { results := [.lit (.bool false)], args := [d1, d2, d3, d4] }
  | _ => none }
def ExpandedSidesWrongFalsely : Prop := expandedSidesRow.holds Tryz.pinned (OpenSpec.ofChange expandedSidesWrong)

/-- 'mailboatlaw53.ExpandedMinimum': WHATEVER THE INPUT: true; the input reads as it did. -/
def expandedMinimumSpec : ChangeSpec := { name := "expandedMinimum", fn := fun _ => fun
  | [d1, d2] => { results := [.lit (.bool true)], args := [d1, d2] }
  | _ => none }
def expandedMinimumRow : OpenClaim := { program := "ythdoegkjifgegaagreat", sum := "028f300f2f2eb79812a5c867822ead0aba0fb4f1542823ac87ea1dce424222e7", func := "mailboat/mailboatlaw53.ExpandedMinimum", spec := "expandedMinimum", unfollowed := true, recurses := true, plainKeys := false, apart := false }
def ExpandedMinimumSaid : Prop := expandedMinimumRow.holds Tryz.pinned (OpenSpec.ofChange expandedMinimumSpec)

/-- ITS FALSE NEIGHBOUR: 'it returns false'. Refute it at one input. -/
def expandedMinimumWrong : ChangeSpec := { name := "expandedMinimum", fn := fun _ => fun
  | [d1, d2] => { results := [.lit (.bool false)], args := [d1, d2] }
  | _ => none }
def ExpandedMinimumWrongFalsely : Prop := expandedMinimumRow.holds Tryz.pinned (OpenSpec.ofChange expandedMinimumWrong)

/-- 'mailboatlaw53.ExpandedArcs': WHATEVER THE INPUT: true; the input reads as it did. -/
def expandedArcsSpec : ChangeSpec := { name := "expandedArcs", fn := fun _ => fun
  | [d1, d2] => { results := [.lit (.bool true)], args := [d1, d2] }
  | _ => none }
def expandedArcsRow : OpenClaim := { program := "ythdoegkjifgegaagreat", sum := "028f300f2f2eb79812a5c867822ead0aba0fb4f1542823ac87ea1dce424222e7", func := "mailboat/mailboatlaw53.ExpandedArcs", spec := "expandedArcs", unfollowed := true, recurses := true, plainKeys := false, apart := false }
def ExpandedArcsSaid : Prop := expandedArcsRow.holds Tryz.pinned (OpenSpec.ofChange expandedArcsSpec)

/-- ITS FALSE NEIGHBOUR: 'it returns false'. Refute it at one input. -/
def expandedArcsWrong : ChangeSpec := { name := "expandedArcs", fn := fun _ => fun
  | [d1, d2] => { results := [.lit (.bool false)], args := [d1, d2] }
  | _ => none }
def ExpandedArcsWrongFalsely : Prop := expandedArcsRow.holds Tryz.pinned (OpenSpec.ofChange expandedArcsWrong)

/-- 'mailboatlaw53.ExpandedMonotone': WHATEVER THE INPUT: true; the input reads as it did. -/
def expandedMonotoneSpec : ChangeSpec := { name := "expandedMonotone", fn := fun _ => fun
  | [d1, d2, d3, d4, d5] => { results := [.lit (.bool true)], args := [d1, d2, d3, d4, d5] }
  | _ => none }
def expandedMonotoneRow : OpenClaim := { program := "ythdoegkjifgegaagreat", sum := "028f300f2f2eb79812a5c867822ead0aba0fb4f1542823ac87ea1dce424222e7", func := "mailboat/mailboatlaw53.ExpandedMonotone", spec := "expandedMonotone", inPlace := ["slices.overlaps[mailboat/api.Booking]", "slices.overlaps[mailboat/api.Hold]"], unfollowed := true, recurses := true, plainKeys := false, apart := false }
def ExpandedMonotoneSaid : Prop := expandedMonotoneRow.holds Tryz.pinned (OpenSpec.ofChange expandedMonotoneSpec)

/-- ITS FALSE NEIGHBOUR: 'it returns false'. Refute it at one input. -/
def expandedMonotoneWrong : ChangeSpec := { name := "expandedMonotone", fn := fun _ => fun
  | [d1, d2, d3, d4, d5] => { results := [.lit (.bool false)], args := [d1, d2, d3, d4, d5] }
  | _ => none }
def ExpandedMonotoneWrongFalsely : Prop := expandedMonotoneRow.holds Tryz.pinned (OpenSpec.ofChange expandedMonotoneWrong)

/- THE SECOND FORM. 'bulk': how many values and letters a reading holds, each counted each time it is reached (what is shared counts as often as it is met; a slice's spare places count too). A statement '..UptoSaid' is the law's where the arguments, and the package variables that the reading takes, are together of bulk at most 1048576: NARROWER than '..Said'. Prove '..Said' where nothing that the law and all that it calls make is longer than what came in: it says more and counts as full. Else prove '..UptoSaid'. A law counts once. -/
mutual
def uptoBulk {H : Type} : DataW H → Nat
  | .lit (.string bytes) => bytes.length + 1
  | .lit _ => 1
  | .nil => 1
  | .ptr d => uptoBulk d + 1
  | .slice elems spare => uptoBulkAll elems + uptoBulkAll spare + 1
  | .agg parts => uptoBulkAll parts + 1
  | .iface _ d => uptoBulk d + 1
  | .map entries => uptoBulkEntries entries + 1
  | .held _ => 1
def uptoBulkAll {H : Type} : List (DataW H) → Nat
  | [] => 0
  | d :: r => uptoBulk d + uptoBulkAll r
def uptoBulkEntries {H : Type} : List (Lit × DataW H) → Nat
  | [] => 0
  | x :: r => uptoBulkEntry x + uptoBulkEntries r
def uptoBulkEntry {H : Type} : Lit × DataW H → Nat
  | (.string bytes, d) => bytes.length + uptoBulk d + 1
  | (_, d) => uptoBulk d + 1
 end
def uptoSmall : (H : Type) → List (DataW H) → Bool := fun _ ds => decide (uptoBulkAll ds ≤ 1048576)
def OpenSpec.upto (s : _root_.Go.ChangeSpec) : _root_.Go.OpenSpec := { _root_.Go.OpenSpec.ofChange s with cond := some uptoSmall }

/-- 'mailboatlaw53.ExpandedGraph', WHERE WHAT IT READS IS OF BULK AT MOST 1048576: true; the input reads as it did. -/
def expandedGraphUptoRow : OpenClaim := { program := "ythdoegkjifgegaagreat", sum := "028f300f2f2eb79812a5c867822ead0aba0fb4f1542823ac87ea1dce424222e7", func := "mailboat/mailboatlaw53.ExpandedGraph", spec := "expandedGraph", unfollowed := true, recurses := true, plainKeys := false, apart := false, narrowed := true }
def ExpandedGraphUptoSaid : Prop := expandedGraphUptoRow.holds Tryz.pinned (OpenSpec.upto expandedGraphSpec)

/-- 'mailboatlaw53.ExpandedSides', WHERE WHAT IT READS IS OF BULK AT MOST 1048576: true; the input reads as it did. -/
def expandedSidesUptoRow : OpenClaim := { program := "ythdoegkjifgegaagreat", sum := "028f300f2f2eb79812a5c867822ead0aba0fb4f1542823ac87ea1dce424222e7", func := "mailboat/mailboatlaw53.ExpandedSides", spec := "expandedSides", unfollowed := true, recurses := true, plainKeys := false, apart := false, narrowed := true }
def ExpandedSidesUptoSaid : Prop := expandedSidesUptoRow.holds Tryz.pinned (OpenSpec.upto expandedSidesSpec)

/-- 'mailboatlaw53.ExpandedMinimum', WHERE WHAT IT READS IS OF BULK AT MOST 1048576: true; the input reads as it did. -/
def expandedMinimumUptoRow : OpenClaim := { program := "ythdoegkjifgegaagreat", sum := "028f300f2f2eb79812a5c867822ead0aba0fb4f1542823ac87ea1dce424222e7", func := "mailboat/mailboatlaw53.ExpandedMinimum", spec := "expandedMinimum", unfollowed := true, recurses := true, plainKeys := false, apart := false, narrowed := true }
def ExpandedMinimumUptoSaid : Prop := expandedMinimumUptoRow.holds Tryz.pinned (OpenSpec.upto expandedMinimumSpec)

/-- 'mailboatlaw53.ExpandedArcs', WHERE WHAT IT READS IS OF BULK AT MOST 1048576: true; the input reads as it did. -/
def expandedArcsUptoRow : OpenClaim := { program := "ythdoegkjifgegaagreat", sum := "028f300f2f2eb79812a5c867822ead0aba0fb4f1542823ac87ea1dce424222e7", func := "mailboat/mailboatlaw53.ExpandedArcs", spec := "expandedArcs", unfollowed := true, recurses := true, plainKeys := false, apart := false, narrowed := true }
def ExpandedArcsUptoSaid : Prop := expandedArcsUptoRow.holds Tryz.pinned (OpenSpec.upto expandedArcsSpec)

/-- 'mailboatlaw53.ExpandedMonotone', WHERE WHAT IT READS IS OF BULK AT MOST 1048576: true; the input reads as it did. -/
def expandedMonotoneUptoRow : OpenClaim := { program := "ythdoegkjifgegaagreat", sum := "028f300f2f2eb79812a5c867822ead0aba0fb4f1542823ac87ea1dce424222e7", func := "mailboat/mailboatlaw53.ExpandedMonotone", spec := "expandedMonotone", inPlace := ["slices.overlaps[mailboat/api.Booking]", "slices.overlaps[mailboat/api.Hold]"], unfollowed := true, recurses := true, plainKeys := false, apart := false, narrowed := true }
def ExpandedMonotoneUptoSaid : Prop := expandedMonotoneUptoRow.holds Tryz.pinned (OpenSpec.upto expandedMonotoneSpec)

end Rows
end Go.Proofs.YthdoegkjifgegaaGreat
