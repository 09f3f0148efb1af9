/-
  No cell of these rows narrows 'for every input' (looked for: loops, veiled, ifaces, maps, wideKeys, modest, calm, conditions, laid).
  DERIVED. THE GIVEN ROWS OF THIS SEAT. 4 by the template 'for every input the law returns true; each argument reads behind the call as it read before'; 0 by the template 'total and deterministic' (their statements: YtphehihohghfoaaGreatTotals.lean).
  GIVEN WITH THE SEED: the statements are not yours to turn. If you find one false, say at which input.
  Laid BY PROGRAM, IN A SANDBOX (cutbox-rows.mjs): the forced cells as the released guide's own fill.sh prints them over the translation 8553cf0c869c7228… (all of the seat's roots in one cut). By AI agents, Wed Nov 11 2026. No macro, syntax, notation, axiom, sorry.
-/
import Derived.Test.YtphehihohghfoaaGreatChecked
import GoSem.Claim
import GoSem.ClaimJoined
import GoSem.ClaimMapViews
import Derived.JoinedTies
import Derived.KernelRfl
namespace Go.Proofs.YtphehihohghfoaaGreat
/- THE CELL 'sum', in the pinned program and in every row, IS THE sha256 OF THE DUMP (.gsa) THAT YtphehihohghfoaaGreatProg.lean LOADS. Nothing in Lean hashes anything: it is a label: what it is worth is what the hold of that sum in a sandbox is worth. -/
noncomputable def Tryz.pinned : Pinned := { name := "ytphehihohghfoaagreat", sum := "8553cf0c869c72289c0651afa14358df66ddc4b17407a1d7927eed630b102657", checked := Tryz.checked }
namespace Rows
def none {H : Type} : Left H := { results := [], args := [] }

/-- 'mailboatlaw54.PlannerAnswers': WHATEVER THE INPUT: true; the input reads as it did. -/
def plannerAnswersSpec : ChangeSpec := { name := "plannerAnswers", fn := fun _ => fun
  | [d1, d2] => { results := [.lit (.bool true)], args := [d1, d2] }
  | _ => none }
def plannerAnswersRow : OpenClaim := { program := "ytphehihohghfoaagreat", sum := "8553cf0c869c72289c0651afa14358df66ddc4b17407a1d7927eed630b102657", func := "mailboat/mailboatlaw54.PlannerAnswers", spec := "plannerAnswers", unfollowed := true, recurses := true, plainKeys := false, apart := false }
def PlannerAnswersSaid : Prop := plannerAnswersRow.holds Tryz.pinned (OpenSpec.ofChange plannerAnswersSpec)

/-- ITS FALSE NEIGHBOUR: 'it returns false'. Refute it at one input. -/
def plannerAnswersWrong : ChangeSpec := { name := "plannerAnswers", fn := fun _ => fun
  | [d1, d2] => { results := [.lit (.bool false)], args := [d1, d2] }
  | _ => none }
def PlannerAnswersWrongFalsely : Prop := plannerAnswersRow.holds Tryz.pinned (OpenSpec.ofChange plannerAnswersWrong)

/-- 'mailboatlaw54.PlannerProves': WHATEVER THE INPUT: true; the input reads as it did. -/
def plannerProvesSpec : ChangeSpec := { name := "plannerProves", fn := fun _ => fun
  | [d1, d2] => { results := [.lit (.bool true)], args := [d1, d2] }
  | _ => none }
def plannerProvesRow : OpenClaim := { program := "ytphehihohghfoaagreat", sum := "8553cf0c869c72289c0651afa14358df66ddc4b17407a1d7927eed630b102657", func := "mailboat/mailboatlaw54.PlannerProves", spec := "plannerProves", unfollowed := true, recurses := true, plainKeys := false, apart := false }
def PlannerProvesSaid : Prop := plannerProvesRow.holds Tryz.pinned (OpenSpec.ofChange plannerProvesSpec)

/-- ITS FALSE NEIGHBOUR: 'it returns false'. Refute it at one input. -/
def plannerProvesWrong : ChangeSpec := { name := "plannerProves", fn := fun _ => fun
  | [d1, d2] => { results := [.lit (.bool false)], args := [d1, d2] }
  | _ => none }
def PlannerProvesWrongFalsely : Prop := plannerProvesRow.holds Tryz.pinned (OpenSpec.ofChange plannerProvesWrong)

/-- 'mailboatlaw54.PlannerMonotone': WHATEVER THE INPUT: true; the input reads as it did. -/
def plannerMonotoneSpec : ChangeSpec := { name := "plannerMonotone", fn := fun _ => fun
  | [d1, d2, d3, d4] => { results := [.lit (.bool true)], args := [d1, d2, d3, d4] }
  | _ => none }
def plannerMonotoneRow : OpenClaim := { program := "ytphehihohghfoaagreat", sum := "8553cf0c869c72289c0651afa14358df66ddc4b17407a1d7927eed630b102657", func := "mailboat/mailboatlaw54.PlannerMonotone", spec := "plannerMonotone", unfollowed := true, recurses := true, plainKeys := false, apart := false }
def PlannerMonotoneSaid : Prop := plannerMonotoneRow.holds Tryz.pinned (OpenSpec.ofChange plannerMonotoneSpec)

/-- ITS FALSE NEIGHBOUR: 'it returns false'. Refute it at one input. -/
def plannerMonotoneWrong : ChangeSpec := { name := "plannerMonotone", fn := fun _ => fun
  | [d1, d2, d3, d4] => { results := [.lit (.bool false)], args := [d1, d2, d3, d4] }
  | _ => none }
def PlannerMonotoneWrongFalsely : Prop := plannerMonotoneRow.holds Tryz.pinned (OpenSpec.ofChange plannerMonotoneWrong)

/-- 'mailboatlaw54.PlannerCurves': WHATEVER THE INPUT: true; the input reads as it did. -/
def plannerCurvesSpec : ChangeSpec := { name := "plannerCurves", fn := fun _ => fun
  | [d1, d2, d3] => { results := [.lit (.bool true)], args := [d1, d2, d3] }
  | _ => none }
def plannerCurvesRow : OpenClaim := { program := "ytphehihohghfoaagreat", sum := "8553cf0c869c72289c0651afa14358df66ddc4b17407a1d7927eed630b102657", func := "mailboat/mailboatlaw54.PlannerCurves", spec := "plannerCurves", unfollowed := true, recurses := true, plainKeys := false, apart := false }
def PlannerCurvesSaid : Prop := plannerCurvesRow.holds Tryz.pinned (OpenSpec.ofChange plannerCurvesSpec)

/-- ITS FALSE NEIGHBOUR: 'it returns false'. Refute it at one input. -/
def plannerCurvesWrong : ChangeSpec := { name := "plannerCurves", fn := fun _ => fun
  | [d1, d2, d3] => { results := [.lit (.bool false)], args := [d1, d2, d3] }
  | _ => none }
def PlannerCurvesWrongFalsely : Prop := plannerCurvesRow.holds Tryz.pinned (OpenSpec.ofChange plannerCurvesWrong)

/- THE SECOND FORM. 'bulk': how many values and letters a reading holds, each counted each time it is reached (what is shared counts as often as it is met; a slice's spare places count too). A statement '..UptoSaid' is the law's where the arguments, and the package variables that the reading takes, are together of bulk at most 1048576: NARROWER than '..Said'. Prove '..Said' where nothing that the law and all that it calls make is longer than what came in: it says more and counts as full. Else prove '..UptoSaid'. A law counts once. -/
mutual
def uptoBulk {H : Type} : DataW H → Nat
  | .lit (.string bytes) => bytes.length + 1
  | .lit _ => 1
  | .nil => 1
  | .ptr d => uptoBulk d + 1
  | .slice elems spare => uptoBulkAll elems + uptoBulkAll spare + 1
  | .agg parts => uptoBulkAll parts + 1
  | .iface _ d => uptoBulk d + 1
  | .map entries => uptoBulkEntries entries + 1
  | .held _ => 1
def uptoBulkAll {H : Type} : List (DataW H) → Nat
  | [] => 0
  | d :: r => uptoBulk d + uptoBulkAll r
def uptoBulkEntries {H : Type} : List (Lit × DataW H) → Nat
  | [] => 0
  | x :: r => uptoBulkEntry x + uptoBulkEntries r
def uptoBulkEntry {H : Type} : Lit × DataW H → Nat
  | (.string bytes, d) => bytes.length + uptoBulk d + 1
  | (_, d) => uptoBulk d + 1
 end
def uptoSmall : (H : Type) → List (DataW H) → Bool := fun _ ds => decide (uptoBulkAll ds ≤ 1048576)
def OpenSpec.upto (s : _root_.Go.ChangeSpec) : _root_.Go.OpenSpec := { _root_.Go.OpenSpec.ofChange s with cond := some uptoSmall }

/-- 'mailboatlaw54.PlannerAnswers', WHERE WHAT IT READS IS OF BULK AT MOST 1048576: true; the input reads as it did. -/
def plannerAnswersUptoRow : OpenClaim := { program := "ytphehihohghfoaagreat", sum := "8553cf0c869c72289c0651afa14358df66ddc4b17407a1d7927eed630b102657", func := "mailboat/mailboatlaw54.PlannerAnswers", spec := "plannerAnswers", unfollowed := true, recurses := true, plainKeys := false, apart := false, narrowed := true }
def PlannerAnswersUptoSaid : Prop := plannerAnswersUptoRow.holds Tryz.pinned (OpenSpec.upto plannerAnswersSpec)

/-- 'mailboatlaw54.PlannerProves', WHERE WHAT IT READS IS OF BULK AT MOST 1048576: true; the input reads as it did. -/
def plannerProvesUptoRow : OpenClaim := { program := "ytphehihohghfoaagreat", sum := "8553cf0c869c72289c0651afa14358df66ddc4b17407a1d7927eed630b102657", func := "mailboat/mailboatlaw54.PlannerProves", spec := "plannerProves", unfollowed := true, recurses := true, plainKeys := false, apart := false, narrowed := true }
def PlannerProvesUptoSaid : Prop := plannerProvesUptoRow.holds Tryz.pinned (OpenSpec.upto plannerProvesSpec)

/-- 'mailboatlaw54.PlannerMonotone', WHERE WHAT IT READS IS OF BULK AT MOST 1048576: true; the input reads as it did. -/
def plannerMonotoneUptoRow : OpenClaim := { program := "ytphehihohghfoaagreat", sum := "8553cf0c869c72289c0651afa14358df66ddc4b17407a1d7927eed630b102657", func := "mailboat/mailboatlaw54.PlannerMonotone", spec := "plannerMonotone", unfollowed := true, recurses := true, plainKeys := false, apart := false, narrowed := true }
def PlannerMonotoneUptoSaid : Prop := plannerMonotoneUptoRow.holds Tryz.pinned (OpenSpec.upto plannerMonotoneSpec)

/-- 'mailboatlaw54.PlannerCurves', WHERE WHAT IT READS IS OF BULK AT MOST 1048576: true; the input reads as it did. -/
def plannerCurvesUptoRow : OpenClaim := { program := "ytphehihohghfoaagreat", sum := "8553cf0c869c72289c0651afa14358df66ddc4b17407a1d7927eed630b102657", func := "mailboat/mailboatlaw54.PlannerCurves", spec := "plannerCurves", unfollowed := true, recurses := true, plainKeys := false, apart := false, narrowed := true }
def PlannerCurvesUptoSaid : Prop := plannerCurvesUptoRow.holds Tryz.pinned (OpenSpec.upto plannerCurvesSpec)

end Rows
end Go.Proofs.YtphehihohghfoaaGreat
