/-
  No cell of these rows narrows 'for every input' (looked for: loops, veiled, ifaces, maps, wideKeys, modest, calm, conditions, laid).
  DERIVED. THE GIVEN ROWS OF THIS SEAT. 3 by the template 'for every input the law returns true; each argument reads behind the call as it read before'; 0 by the template 'total and deterministic' (their statements: YthdoegkjifgegaaTotals.lean).
  GIVEN WITH THE SEED: the statements are not yours to turn. If you find one false, say at which input.
  Laid BY PROGRAM, IN A SANDBOX (cutbox-rows.mjs): the forced cells as the released guide's own fill.sh prints them over the translation b64a7ae8800c5dd5… (all of the seat's roots in one cut). By AI agents, Wed Nov 11 2026. No macro, syntax, notation, axiom, sorry.
-/
import Derived.Test.YthdoegkjifgegaaChecked
import GoSem.Claim
import GoSem.ClaimJoined
import GoSem.ClaimMapViews
import Derived.JoinedTies
import Derived.KernelRfl
namespace Go.Proofs.Ythdoegkjifgegaa
/- THE CELL 'sum', in the pinned program and in every row, IS THE sha256 OF THE DUMP (.gsa) THAT YthdoegkjifgegaaProg.lean LOADS. Nothing in Lean hashes anything: it is a label: what it is worth is what the hold of that sum in a sandbox is worth. -/
noncomputable def Try.pinned : Pinned := { name := "ythdoegkjifgegaa", sum := "b64a7ae8800c5dd595c7a48c0d65edca9ff3c6e71ff1d36b95e5786cd5203dcd", checked := Try.checked }
namespace Rows
def none {H : Type} : Left H := { results := [], args := [] }

/-- 'mailboatlaw53.ExpandedVertices': WHATEVER THE INPUT: true; the input reads as it did. -/
def expandedVerticesSpec : ChangeSpec := { name := "expandedVertices", fn := fun _ => fun
  | [d1, d2] => { results := [.lit (.bool true)], args := [d1, d2] }
  | _ => none }
def expandedVerticesRow : OpenClaim := { program := "ythdoegkjifgegaa", sum := "b64a7ae8800c5dd595c7a48c0d65edca9ff3c6e71ff1d36b95e5786cd5203dcd", func := "mailboat/mailboatlaw53.ExpandedVertices", spec := "expandedVertices", unfollowed := true, recurses := true, plainKeys := false, apart := false }
def ExpandedVerticesSaid : Prop := expandedVerticesRow.holds Try.pinned (OpenSpec.ofChange expandedVerticesSpec)

/-- ITS FALSE NEIGHBOUR: 'it returns false'. Refute it at one input. -/
def expandedVerticesWrong : ChangeSpec := { name := "expandedVertices", fn := fun _ => fun
  | [d1, d2] => { results := [.lit (.bool false)], args := [d1, d2] }
  | _ => none }
def ExpandedVerticesWrongFalsely : Prop := expandedVerticesRow.holds Try.pinned (OpenSpec.ofChange expandedVerticesWrong)

/-- 'mailboatlaw53.ExpandedShipments': WHATEVER THE INPUT: true; the input reads as it did. -/
def expandedShipmentsSpec : ChangeSpec := { name := "expandedShipments", fn := fun _ => fun
  | [d1, d2] => { results := [.lit (.bool true)], args := [d1, d2] }
  | _ => none }
def expandedShipmentsRow : OpenClaim := { program := "ythdoegkjifgegaa", sum := "b64a7ae8800c5dd595c7a48c0d65edca9ff3c6e71ff1d36b95e5786cd5203dcd", func := "mailboat/mailboatlaw53.ExpandedShipments", spec := "expandedShipments", unfollowed := true, recurses := true, plainKeys := false, apart := false }
def ExpandedShipmentsSaid : Prop := expandedShipmentsRow.holds Try.pinned (OpenSpec.ofChange expandedShipmentsSpec)

/-- ITS FALSE NEIGHBOUR: 'it returns false'. Refute it at one input. -/
def expandedShipmentsWrong : ChangeSpec := { name := "expandedShipments", fn := fun _ => fun
  | [d1, d2] => { results := [.lit (.bool false)], args := [d1, d2] }
  | _ => none }
def ExpandedShipmentsWrongFalsely : Prop := expandedShipmentsRow.holds Try.pinned (OpenSpec.ofChange expandedShipmentsWrong)

/-- 'mailboatlaw53.ExpandedCuts': WHATEVER THE INPUT: true; the input reads as it did. -/
def expandedCutsSpec : ChangeSpec := { name := "expandedCuts", fn := fun _ => fun
  | [d1, d2, d3] => { results := [.lit (.bool true)], args := [d1, d2, d3] }
  | _ => none }
def expandedCutsRow : OpenClaim := { program := "ythdoegkjifgegaa", sum := "b64a7ae8800c5dd595c7a48c0d65edca9ff3c6e71ff1d36b95e5786cd5203dcd", func := "mailboat/mailboatlaw53.ExpandedCuts", spec := "expandedCuts", unfollowed := true, recurses := true, plainKeys := false, apart := false }
def ExpandedCutsSaid : Prop := expandedCutsRow.holds Try.pinned (OpenSpec.ofChange expandedCutsSpec)

/-- ITS FALSE NEIGHBOUR: 'it returns false'. Refute it at one input. -/
def expandedCutsWrong : ChangeSpec := { name := "expandedCuts", fn := fun _ => fun
  | [d1, d2, d3] => { results := [.lit (.bool false)], args := [d1, d2, d3] }
  | _ => none }
def ExpandedCutsWrongFalsely : Prop := expandedCutsRow.holds Try.pinned (OpenSpec.ofChange expandedCutsWrong)

/- THE SECOND FORM. 'bulk': how many values and letters a reading holds, each counted each time it is reached (what is shared counts as often as it is met; a slice's spare places count too). A statement '..UptoSaid' is the law's where the arguments, and the package variables that the reading takes, are together of bulk at most 1048576: NARROWER than '..Said'. Prove '..Said' where nothing that the law and all that it calls make is longer than what came in: it says more and counts as full. Else prove '..UptoSaid'. A law counts once. -/
mutual
def uptoBulk {H : Type} : DataW H → Nat
  | .lit (.string bytes) => bytes.length + 1
  | .lit _ => 1
  | .nil => 1
  | .ptr d => uptoBulk d + 1
  | .slice elems spare => uptoBulkAll elems + uptoBulkAll spare + 1
  | .agg parts => uptoBulkAll parts + 1
  | .iface _ d => uptoBulk d + 1
  | .map entries => uptoBulkEntries entries + 1
  | .held _ => 1
def uptoBulkAll {H : Type} : List (DataW H) → Nat
  | [] => 0
  | d :: r => uptoBulk d + uptoBulkAll r
def uptoBulkEntries {H : Type} : List (Lit × DataW H) → Nat
  | [] => 0
  | x :: r => uptoBulkEntry x + uptoBulkEntries r
def uptoBulkEntry {H : Type} : Lit × DataW H → Nat
  | (.string bytes, d) => bytes.length + uptoBulk d + 1
  | (_, d) => uptoBulk d + 1
 end
def uptoSmall : (H : Type) → List (DataW H) → Bool := fun _ ds => decide (uptoBulkAll ds ≤ 1048576)
def OpenSpec.upto (s : _root_.Go.ChangeSpec) : _root_.Go.OpenSpec := { _root_.Go.OpenSpec.ofChange s with cond := some uptoSmall }

/-- 'mailboatlaw53.ExpandedVertices', WHERE WHAT IT READS IS OF BULK AT MOST 1048576: true; the input reads as it did. -/
def expandedVerticesUptoRow : OpenClaim := { program := "ythdoegkjifgegaa", sum := "b64a7ae8800c5dd595c7a48c0d65edca9ff3c6e71ff1d36b95e5786cd5203dcd", func := "mailboat/mailboatlaw53.ExpandedVertices", spec := "expandedVertices", unfollowed := true, recurses := true, plainKeys := false, apart := false, narrowed := true }
def ExpandedVerticesUptoSaid : Prop := expandedVerticesUptoRow.holds Try.pinned (OpenSpec.upto expandedVerticesSpec)

/-- 'mailboatlaw53.ExpandedShipments', WHERE WHAT IT READS IS OF BULK AT MOST 1048576: true; the input reads as it did. -/
def expandedShipmentsUptoRow : OpenClaim := { program := "ythdoegkjifgegaa", sum := "b64a7ae8800c5dd595c7a48c0d65edca9ff3c6e71ff1d36b95e5786cd5203dcd", func := "mailboat/mailboatlaw53.ExpandedShipments", spec := "expandedShipments", unfollowed := true, recurses := true, plainKeys := false, apart := false, narrowed := true }
def ExpandedShipmentsUptoSaid : Prop := expandedShipmentsUptoRow.holds Try.pinned (OpenSpec.upto expandedShipmentsSpec)

/-- 'mailboatlaw53.ExpandedCuts', WHERE WHAT IT READS IS OF BULK AT MOST 1048576: true; the input reads as it did. -/
def expandedCutsUptoRow : OpenClaim := { program := "ythdoegkjifgegaa", sum := "b64a7ae8800c5dd595c7a48c0d65edca9ff3c6e71ff1d36b95e5786cd5203dcd", func := "mailboat/mailboatlaw53.ExpandedCuts", spec := "expandedCuts", unfollowed := true, recurses := true, plainKeys := false, apart := false, narrowed := true }
def ExpandedCutsUptoSaid : Prop := expandedCutsUptoRow.holds Try.pinned (OpenSpec.upto expandedCutsSpec)

end Rows
end Go.Proofs.Ythdoegkjifgegaa
