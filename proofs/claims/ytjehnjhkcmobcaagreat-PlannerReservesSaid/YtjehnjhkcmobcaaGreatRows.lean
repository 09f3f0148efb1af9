/-
  No cell of these rows narrows 'for every input' (looked for: loops, veiled, ifaces, maps, wideKeys, modest, calm, conditions, laid).
  DERIVED. THE GIVEN ROWS OF THIS SEAT. 3 by the template 'for every input the law returns true; each argument reads behind the call as it read before'; 0 by the template 'total and deterministic' (their statements: YtjehnjhkcmobcaaGreatTotals.lean).
  GIVEN WITH THE SEED: the statements are not yours to turn. If you find one false, say at which input.
  Laid BY PROGRAM, IN A SANDBOX (cutbox-rows.mjs): the forced cells as the released guide's own fill.sh prints them over the translation 6fe6192d7da393b7… (all of the seat's roots in one cut). By AI agents, Wed Nov 11 2026. No macro, syntax, notation, axiom, sorry.
-/
import Derived.Test.YtjehnjhkcmobcaaGreatChecked
import GoSem.Claim
import GoSem.ClaimJoined
import GoSem.ClaimMapViews
import Derived.JoinedTies
import Derived.KernelRfl
namespace Go.Proofs.YtjehnjhkcmobcaaGreat
/- THE CELL 'sum', in the pinned program and in every row, IS THE sha256 OF THE DUMP (.gsa) THAT YtjehnjhkcmobcaaGreatProg.lean LOADS. Nothing in Lean hashes anything: it is a label: what it is worth is what the hold of that sum in a sandbox is worth. -/
noncomputable def Tryz.pinned : Pinned := { name := "ytjehnjhkcmobcaagreat", sum := "6fe6192d7da393b7530a363dc2a81345e91c7a1da6771e82af83c298ca17d1d9", checked := Tryz.checked }
namespace Rows
def none {H : Type} : Left H := { results := [], args := [] }

/-- 'mailboatlaw54.PlannerTogether': WHATEVER THE INPUT: true; the input reads as it did. -/
def plannerTogetherSpec : ChangeSpec := { name := "plannerTogether", fn := fun _ => fun
  | [d1, d2, d3] => { results := [.lit (.bool true)], args := [d1, d2, d3] }
  | _ => none }
def plannerTogetherRow : OpenClaim := { program := "ytjehnjhkcmobcaagreat", sum := "6fe6192d7da393b7530a363dc2a81345e91c7a1da6771e82af83c298ca17d1d9", func := "mailboat/mailboatlaw54.PlannerTogether", spec := "plannerTogether", unfollowed := true, recurses := true, plainKeys := false, apart := false }
def PlannerTogetherSaid : Prop := plannerTogetherRow.holds Tryz.pinned (OpenSpec.ofChange plannerTogetherSpec)

/-- ITS FALSE NEIGHBOUR: 'it returns false'. Refute it at one input. -/
def plannerTogetherWrong : ChangeSpec := { name := "plannerTogether", fn := fun _ => fun
  | [d1, d2, d3] => { results := [.lit (.bool false)], args := [d1, d2, d3] }
  | _ => none }
def PlannerTogetherWrongFalsely : Prop := plannerTogetherRow.holds Tryz.pinned (OpenSpec.ofChange plannerTogetherWrong)

/-- 'mailboatlaw54.PlannerReserves': WHATEVER THE INPUT: true; the input reads as it did. -/
def plannerReservesSpec : ChangeSpec := { name := "plannerReserves", fn := fun _ => fun
  | [d1, d2, d3] => { results := [.lit (.bool true)], args := [d1, d2, d3] }
  | _ => none }
def plannerReservesRow : OpenClaim := { program := "ytjehnjhkcmobcaagreat", sum := "6fe6192d7da393b7530a363dc2a81345e91c7a1da6771e82af83c298ca17d1d9", func := "mailboat/mailboatlaw54.PlannerReserves", spec := "plannerReserves", unfollowed := true, recurses := true, plainKeys := false, apart := false }
def PlannerReservesSaid : Prop := plannerReservesRow.holds Tryz.pinned (OpenSpec.ofChange plannerReservesSpec)

/-- ITS FALSE NEIGHBOUR: 'it returns false'. Refute it at one input. -/
def plannerReservesWrong : ChangeSpec := { name := "plannerReserves", fn := fun _ => fun
  | [d1, d2, d3] => { results := [.lit (.bool false)], args := [d1, d2, d3] }
  | _ => none }
def PlannerReservesWrongFalsely : Prop := plannerReservesRow.holds Tryz.pinned (OpenSpec.ofChange plannerReservesWrong)

/-- 'mailboatlaw54.PlannerSequence': WHATEVER THE INPUT: true; the input reads as it did. -/
def plannerSequenceSpec : ChangeSpec := { name := "plannerSequence", fn := fun _ => fun
  | [d1, d2, d3] => { results := [.lit (.bool true)], args := [d1, d2, d3] }
  | _ => none }
def plannerSequenceRow : OpenClaim := { program := "ytjehnjhkcmobcaagreat", sum := "6fe6192d7da393b7530a363dc2a81345e91c7a1da6771e82af83c298ca17d1d9", func := "mailboat/mailboatlaw54.PlannerSequence", spec := "plannerSequence", unfollowed := true, recurses := true, plainKeys := false, apart := false }
def PlannerSequenceSaid : Prop := plannerSequenceRow.holds Tryz.pinned (OpenSpec.ofChange plannerSequenceSpec)

/-- ITS FALSE NEIGHBOUR: 'it returns false'. Refute it at one input. -/
def plannerSequenceWrong : ChangeSpec := { name := "plannerSequence", fn := fun _ => fun
  | [d1, d2, d3] => { results := [.lit (.bool false)], args := [d1, d2, d3] }
  | _ => none }
def PlannerSequenceWrongFalsely : Prop := plannerSequenceRow.holds Tryz.pinned (OpenSpec.ofChange plannerSequenceWrong)

/- THE SECOND FORM. 'bulk': how many values and letters a reading holds, each counted each time it is reached (what is shared counts as often as it is met; a slice's spare places count too). A statement '..UptoSaid' is the law's where the arguments, and the package variables that the reading takes, are together of bulk at most 1048576: NARROWER than '..Said'. Prove '..Said' where nothing that the law and all that it calls make is longer than what came in: it says more and counts as full. Else prove '..UptoSaid'. A law counts once. -/
mutual
def uptoBulk {H : Type} : DataW H → Nat
  | .lit (.string bytes) => bytes.length + 1
  | .lit _ => 1
  | .nil => 1
  | .ptr d => uptoBulk d + 1
  | .slice elems spare => uptoBulkAll elems + uptoBulkAll spare + 1
  | .agg parts => uptoBulkAll parts + 1
  | .iface _ d => uptoBulk d + 1
  | .map entries => uptoBulkEntries entries + 1
  | .held _ => 1
def uptoBulkAll {H : Type} : List (DataW H) → Nat
  | [] => 0
  | d :: r => uptoBulk d + uptoBulkAll r
def uptoBulkEntries {H : Type} : List (Lit × DataW H) → Nat
  | [] => 0
  | x :: r => uptoBulkEntry x + uptoBulkEntries r
def uptoBulkEntry {H : Type} : Lit × DataW H → Nat
  | (.string bytes, d) => bytes.length + uptoBulk d + 1
  | (_, d) => uptoBulk d + 1
 end
def uptoSmall : (H : Type) → List (DataW H) → Bool := fun _ ds => decide (uptoBulkAll ds ≤ 1048576)
def OpenSpec.upto (s : _root_.Go.ChangeSpec) : _root_.Go.OpenSpec := { _root_.Go.OpenSpec.ofChange s with cond := some uptoSmall }

/-- 'mailboatlaw54.PlannerTogether', WHERE WHAT IT READS IS OF BULK AT MOST 1048576: true; the input reads as it did. -/
def plannerTogetherUptoRow : OpenClaim := { program := "ytjehnjhkcmobcaagreat", sum := "6fe6192d7da393b7530a363dc2a81345e91c7a1da6771e82af83c298ca17d1d9", func := "mailboat/mailboatlaw54.PlannerTogether", spec := "plannerTogether", unfollowed := true, recurses := true, plainKeys := false, apart := false, narrowed := true }
def PlannerTogetherUptoSaid : Prop := plannerTogetherUptoRow.holds Tryz.pinned (OpenSpec.upto plannerTogetherSpec)

/-- 'mailboatlaw54.PlannerReserves', WHERE WHAT IT READS IS OF BULK AT MOST 1048576: true; the input reads as it did. -/
def plannerReservesUptoRow : OpenClaim := { program := "ytjehnjhkcmobcaagreat", sum := "6fe6192d7da393b7530a363dc2a81345e91c7a1da6771e82af83c298ca17d1d9", func := "mailboat/mailboatlaw54.PlannerReserves", spec := "plannerReserves", unfollowed := true, recurses := true, plainKeys := false, apart := false, narrowed := true }
def PlannerReservesUptoSaid : Prop := plannerReservesUptoRow.holds Tryz.pinned (OpenSpec.upto plannerReservesSpec)

/-- 'mailboatlaw54.PlannerSequence', WHERE WHAT IT READS IS OF BULK AT MOST 1048576: true; the input reads as it did. -/
def plannerSequenceUptoRow : OpenClaim := { program := "ytjehnjhkcmobcaagreat", sum := "6fe6192d7da393b7530a363dc2a81345e91c7a1da6771e82af83c298ca17d1d9", func := "mailboat/mailboatlaw54.PlannerSequence", spec := "plannerSequence", unfollowed := true, recurses := true, plainKeys := false, apart := false, narrowed := true }
def PlannerSequenceUptoSaid : Prop := plannerSequenceUptoRow.holds Tryz.pinned (OpenSpec.upto plannerSequenceSpec)

end Rows
end Go.Proofs.YtjehnjhkcmobcaaGreat
