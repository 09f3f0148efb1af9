/-
  No cell of these rows narrows 'for every input' (looked for: loops, veiled, ifaces, maps, wideKeys, modest, calm, conditions, laid).
  DERIVED. THE GIVEN ROWS OF THIS SEAT. 3 by the template 'for every input the law returns true; each argument reads behind the call as it read before'; 0 by the template 'total and deterministic' (their statements: YtjbebmealbnmgaaTotals.lean).
  GIVEN WITH THE SEED: the statements are not yours to turn. If you find one false, say at which input.
  Laid BY PROGRAM, IN A SANDBOX (cutbox-rows.mjs): the forced cells as the released guide's own fill.sh prints them over the translation f7c27d577e4b3fa0… (all of the seat's roots in one cut). By AI agents, Wed Nov 11 2026. No macro, syntax, notation, axiom, sorry.
-/
import Derived.Test.YtjbebmealbnmgaaChecked
import GoSem.Claim
import GoSem.ClaimJoined
import GoSem.ClaimMapViews
import Derived.JoinedTies
import Derived.KernelRfl
namespace Go.Proofs.Ytjbebmealbnmgaa
/- THE CELL 'sum', in the pinned program and in every row, IS THE sha256 OF THE DUMP (.gsa) THAT YtjbebmealbnmgaaProg.lean LOADS. Nothing in Lean hashes anything: it is a label: what it is worth is what the hold of that sum in a sandbox is worth. -/
noncomputable def Try.pinned : Pinned := { name := "ytjbebmealbnmgaa", sum := "f7c27d577e4b3fa02868d394fde9e86beb106a193412b7ed34e5d81487c94f8e", checked := Try.checked }
namespace Rows
def none {H : Type} : Left H := { results := [], args := [] }

/-- 'mailboatlaw55.CertificateFlow': WHATEVER THE INPUT: true; the input reads as it did. -/
def certificateFlowSpec : ChangeSpec := { name := "certificateFlow", fn := fun _ => fun
  | [d1, d2, d3] => { results := [.lit (.bool true)], args := [d1, d2, d3] }
  | _ => none }
def certificateFlowRow : OpenClaim := { program := "ytjbebmealbnmgaa", sum := "f7c27d577e4b3fa02868d394fde9e86beb106a193412b7ed34e5d81487c94f8e", func := "mailboat/mailboatlaw55.CertificateFlow", spec := "certificateFlow", unfollowed := true, recurses := true, plainKeys := false, apart := false }
def CertificateFlowSaid : Prop := certificateFlowRow.holds Try.pinned (OpenSpec.ofChange certificateFlowSpec)

/-- ITS FALSE NEIGHBOUR: 'it returns false'. Refute it at one input. -/
def certificateFlowWrong : ChangeSpec := { name := "certificateFlow", fn := fun _ => fun
  | [d1, d2, d3] => { results := [.lit (.bool false)], args := [d1, d2, d3] }
  | _ => none }
def CertificateFlowWrongFalsely : Prop := certificateFlowRow.holds Try.pinned (OpenSpec.ofChange certificateFlowWrong)

/-- 'mailboatlaw55.CertificateCheck': WHATEVER THE INPUT: true; the input reads as it did. -/
def certificateCheckSpec : ChangeSpec := { name := "certificateCheck", fn := fun _ => fun
  | [d1, d2, d3] => { results := [.lit (.bool true)], args := [d1, d2, d3] }
  | _ => none }
def certificateCheckRow : OpenClaim := { program := "ytjbebmealbnmgaa", sum := "f7c27d577e4b3fa02868d394fde9e86beb106a193412b7ed34e5d81487c94f8e", func := "mailboat/mailboatlaw55.CertificateCheck", spec := "certificateCheck", unfollowed := true, recurses := true, plainKeys := false, apart := false }
def CertificateCheckSaid : Prop := certificateCheckRow.holds Try.pinned (OpenSpec.ofChange certificateCheckSpec)

/-- ITS FALSE NEIGHBOUR: 'it returns false'. Refute it at one input. -/
def certificateCheckWrong : ChangeSpec := { name := "certificateCheck", fn := fun _ => fun
  | [d1, d2, d3] => { results := [.lit (.bool false)], args := [d1, d2, d3] }
  | _ => none }
def CertificateCheckWrongFalsely : Prop := certificateCheckRow.holds Try.pinned (OpenSpec.ofChange certificateCheckWrong)

/-- 'mailboatlaw55.CertificateSubmodular': WHATEVER THE INPUT: true; the input reads as it did. -/
def certificateSubmodularSpec : ChangeSpec := { name := "certificateSubmodular", fn := fun _ => fun
  | [d1, d2, d3, d4] => { results := [.lit (.bool true)], args := [d1, d2, d3, d4] }
  | _ => none }
def certificateSubmodularRow : OpenClaim := { program := "ytjbebmealbnmgaa", sum := "f7c27d577e4b3fa02868d394fde9e86beb106a193412b7ed34e5d81487c94f8e", func := "mailboat/mailboatlaw55.CertificateSubmodular", spec := "certificateSubmodular", unfollowed := true, recurses := true, plainKeys := false, apart := false }
def CertificateSubmodularSaid : Prop := certificateSubmodularRow.holds Try.pinned (OpenSpec.ofChange certificateSubmodularSpec)

/-- ITS FALSE NEIGHBOUR: 'it returns false'. Refute it at one input. -/
def certificateSubmodularWrong : ChangeSpec := { name := "certificateSubmodular", fn := fun _ => fun
  | [d1, d2, d3, d4] => { results := [.lit (.bool false)], args := [d1, d2, d3, d4] }
  | _ => none }
def CertificateSubmodularWrongFalsely : Prop := certificateSubmodularRow.holds Try.pinned (OpenSpec.ofChange certificateSubmodularWrong)

/- THE SECOND FORM. 'bulk': how many values and letters a reading holds, each counted each time it is reached (what is shared counts as often as it is met; a slice's spare places count too). A statement '..UptoSaid' is the law's where the arguments, and the package variables that the reading takes, are together of bulk at most 1048576: NARROWER than '..Said'. Prove '..Said' where nothing that the law and all that it calls make is longer than what came in: it says more and counts as full. Else prove '..UptoSaid'. A law counts once. -/
mutual
def uptoBulk {H : Type} : DataW H → Nat
  | .lit (.string bytes) => bytes.length + 1
  | .lit _ => 1
  | .nil => 1
  | .ptr d => uptoBulk d + 1
  | .slice elems spare => uptoBulkAll elems + uptoBulkAll spare + 1
  | .agg parts => uptoBulkAll parts + 1
  | .iface _ d => uptoBulk d + 1
  | .map entries => uptoBulkEntries entries + 1
  | .held _ => 1
def uptoBulkAll {H : Type} : List (DataW H) → Nat
  | [] => 0
  | d :: r => uptoBulk d + uptoBulkAll r
def uptoBulkEntries {H : Type} : List (Lit × DataW H) → Nat
  | [] => 0
  | x :: r => uptoBulkEntry x + uptoBulkEntries r
def uptoBulkEntry {H : Type} : Lit × DataW H → Nat
  | (.string bytes, d) => bytes.length + uptoBulk d + 1
  | (_, d) => uptoBulk d + 1
 end
def uptoSmall : (H : Type) → List (DataW H) → Bool := fun _ ds => decide (uptoBulkAll ds ≤ 1048576)
def OpenSpec.upto (s : _root_.Go.ChangeSpec) : _root_.Go.OpenSpec := { _root_.Go.OpenSpec.ofChange s with cond := some uptoSmall }

/-- 'mailboatlaw55.CertificateFlow', WHERE WHAT IT READS IS OF BULK AT MOST 1048576: true; the input reads as it did. -/
def certificateFlowUptoRow : OpenClaim := { program := "ytjbebmealbnmgaa", sum := "f7c27d577e4b3fa02868d394fde9e86beb106a193412b7ed34e5d81487c94f8e", func := "mailboat/mailboatlaw55.CertificateFlow", spec := "certificateFlow", unfollowed := true, recurses := true, plainKeys := false, apart := false, narrowed := true }
def CertificateFlowUptoSaid : Prop := certificateFlowUptoRow.holds Try.pinned (OpenSpec.upto certificateFlowSpec)

/-- 'mailboatlaw55.CertificateCheck', WHERE WHAT IT READS IS OF BULK AT MOST 1048576: true; the input reads as it did. -/
def certificateCheckUptoRow : OpenClaim := { program := "ytjbebmealbnmgaa", sum := "f7c27d577e4b3fa02868d394fde9e86beb106a193412b7ed34e5d81487c94f8e", func := "mailboat/mailboatlaw55.CertificateCheck", spec := "certificateCheck", unfollowed := true, recurses := true, plainKeys := false, apart := false, narrowed := true }
def CertificateCheckUptoSaid : Prop := certificateCheckUptoRow.holds Try.pinned (OpenSpec.upto certificateCheckSpec)

/-- 'mailboatlaw55.CertificateSubmodular', WHERE WHAT IT READS IS OF BULK AT MOST 1048576: true; the input reads as it did. -/
def certificateSubmodularUptoRow : OpenClaim := { program := "ytjbebmealbnmgaa", sum := "f7c27d577e4b3fa02868d394fde9e86beb106a193412b7ed34e5d81487c94f8e", func := "mailboat/mailboatlaw55.CertificateSubmodular", spec := "certificateSubmodular", unfollowed := true, recurses := true, plainKeys := false, apart := false, narrowed := true }
def CertificateSubmodularUptoSaid : Prop := certificateSubmodularUptoRow.holds Try.pinned (OpenSpec.upto certificateSubmodularSpec)

end Rows
end Go.Proofs.Ytjbebmealbnmgaa
