/-
  No cell of these rows narrows 'for every input' (looked for: loops, veiled, ifaces, maps, wideKeys, modest, calm, conditions, laid).
  DERIVED. THE GIVEN ROWS OF THIS SEAT. 3 by the template 'for every input the law returns true; each argument reads behind the call as it read before'; 0 by the template 'total and deterministic' (their statements: YtknfhiolenobaaaGreatTotals.lean).
  GIVEN WITH THE SEED: the statements are not yours to turn. If you find one false, say at which input.
  Laid BY PROGRAM, IN A SANDBOX (cutbox-rows.mjs): the forced cells as the released guide's own fill.sh prints them over the translation 428f737483959352… (all of the seat's roots in one cut). By AI agents, Wed Nov 11 2026. No macro, syntax, notation, axiom, sorry.
-/
import Derived.Test.YtknfhiolenobaaaGreatChecked
import GoSem.Claim
import GoSem.ClaimJoined
import GoSem.ClaimMapViews
import Derived.JoinedTies
import Derived.KernelRfl
namespace Go.Proofs.YtknfhiolenobaaaGreat
/- THE CELL 'sum', in the pinned program and in every row, IS THE sha256 OF THE DUMP (.gsa) THAT YtknfhiolenobaaaGreatProg.lean LOADS. Nothing in Lean hashes anything: it is a label: what it is worth is what the hold of that sum in a sandbox is worth. -/
noncomputable def Tryz.pinned : Pinned := { name := "ytknfhiolenobaaagreat", sum := "428f73748395935299326f99ab2ed2a7285a7b3bfdbea40c4382a8a4baccfe98", checked := Tryz.checked }
namespace Rows
def none {H : Type} : Left H := { results := [], args := [] }

/-- 'mailboatlaw55.CertificateWeak': WHATEVER THE INPUT: true; the input reads as it did. -/
def certificateWeakSpec : ChangeSpec := { name := "certificateWeak", fn := fun _ => fun
  | [d1, d2, d3, d4, d5] => { results := [.lit (.bool true)], args := [d1, d2, d3, d4, d5] }
  | _ => none }
def certificateWeakRow : OpenClaim := { program := "ytknfhiolenobaaagreat", sum := "428f73748395935299326f99ab2ed2a7285a7b3bfdbea40c4382a8a4baccfe98", func := "mailboat/mailboatlaw55.CertificateWeak", spec := "certificateWeak", unfollowed := true, recurses := true, plainKeys := false, apart := false }
def CertificateWeakSaid : Prop := certificateWeakRow.holds Tryz.pinned (OpenSpec.ofChange certificateWeakSpec)

/-- ITS FALSE NEIGHBOUR: 'it returns false'. Refute it at one input. -/
def certificateWeakWrong : ChangeSpec := { name := "certificateWeak", fn := fun _ => fun
  | [d1, d2, d3, d4, d5] => { results := [.lit (.bool false)], args := [d1, d2, d3, d4, d5] }
  | _ => none }
def CertificateWeakWrongFalsely : Prop := certificateWeakRow.holds Tryz.pinned (OpenSpec.ofChange certificateWeakWrong)

/-- 'mailboatlaw55.CertificateNetworks': WHATEVER THE INPUT: true; the input reads as it did. -/
def certificateNetworksSpec : ChangeSpec := { name := "certificateNetworks", fn := fun _ => fun
  | [d1, d2, d3] => { results := [.lit (.bool true)], args := [d1, d2, d3] }
  | _ => none }
def certificateNetworksRow : OpenClaim := { program := "ytknfhiolenobaaagreat", sum := "428f73748395935299326f99ab2ed2a7285a7b3bfdbea40c4382a8a4baccfe98", func := "mailboat/mailboatlaw55.CertificateNetworks", spec := "certificateNetworks", unfollowed := true, recurses := true, plainKeys := false, apart := false }
def CertificateNetworksSaid : Prop := certificateNetworksRow.holds Tryz.pinned (OpenSpec.ofChange certificateNetworksSpec)

/-- ITS FALSE NEIGHBOUR: 'it returns false'. Refute it at one input. -/
def certificateNetworksWrong : ChangeSpec := { name := "certificateNetworks", fn := fun _ => fun
  | [d1, d2, d3] => { results := [.lit (.bool false)], args := [d1, d2, d3] }
  | _ => none }
def CertificateNetworksWrongFalsely : Prop := certificateNetworksRow.holds Tryz.pinned (OpenSpec.ofChange certificateNetworksWrong)

/-- 'mailboatlaw55.CertificateAnswers': WHATEVER THE INPUT: true; the input reads as it did. -/
def certificateAnswersSpec : ChangeSpec := { name := "certificateAnswers", fn := fun _ => fun
  | [d1, d2] => { results := [.lit (.bool true)], args := [d1, d2] }
  | _ => none }
def certificateAnswersRow : OpenClaim := { program := "ytknfhiolenobaaagreat", sum := "428f73748395935299326f99ab2ed2a7285a7b3bfdbea40c4382a8a4baccfe98", func := "mailboat/mailboatlaw55.CertificateAnswers", spec := "certificateAnswers", unfollowed := true, recurses := true, plainKeys := false, apart := false }
def CertificateAnswersSaid : Prop := certificateAnswersRow.holds Tryz.pinned (OpenSpec.ofChange certificateAnswersSpec)

/-- ITS FALSE NEIGHBOUR: 'it returns false'. Refute it at one input. -/
def certificateAnswersWrong : ChangeSpec := { name := "certificateAnswers", fn := fun _ => fun
  | [d1, d2] => { results := [.lit (.bool false)], args := [d1, d2] }
  | _ => none }
def CertificateAnswersWrongFalsely : Prop := certificateAnswersRow.holds Tryz.pinned (OpenSpec.ofChange certificateAnswersWrong)

/- THE SECOND FORM. 'bulk': how many values and letters a reading holds, each counted each time it is reached (what is shared counts as often as it is met; a slice's spare places count too). A statement '..UptoSaid' is the law's where the arguments, and the package variables that the reading takes, are together of bulk at most 1048576: NARROWER than '..Said'. Prove '..Said' where nothing that the law and all that it calls make is longer than what came in: it says more and counts as full. Else prove '..UptoSaid'. A law counts once. -/
mutual
def uptoBulk {H : Type} : DataW H → Nat
  | .lit (.string bytes) => bytes.length + 1
  | .lit _ => 1
  | .nil => 1
  | .ptr d => uptoBulk d + 1
  | .slice elems spare => uptoBulkAll elems + uptoBulkAll spare + 1
  | .agg parts => uptoBulkAll parts + 1
  | .iface _ d => uptoBulk d + 1
  | .map entries => uptoBulkEntries entries + 1
  | .held _ => 1
def uptoBulkAll {H : Type} : List (DataW H) → Nat
  | [] => 0
  | d :: r => uptoBulk d + uptoBulkAll r
def uptoBulkEntries {H : Type} : List (Lit × DataW H) → Nat
  | [] => 0
  | x :: r => uptoBulkEntry x + uptoBulkEntries r
def uptoBulkEntry {H : Type} : Lit × DataW H → Nat
  | (.string bytes, d) => bytes.length + uptoBulk d + 1
  | (_, d) => uptoBulk d + 1
 end
def uptoSmall : (H : Type) → List (DataW H) → Bool := fun _ ds => decide (uptoBulkAll ds ≤ 1048576)
def OpenSpec.upto (s : _root_.Go.ChangeSpec) : _root_.Go.OpenSpec := { _root_.Go.OpenSpec.ofChange s with cond := some uptoSmall }

/-- 'mailboatlaw55.CertificateWeak', WHERE WHAT IT READS IS OF BULK AT MOST 1048576: true; the input reads as it did. -/
def certificateWeakUptoRow : OpenClaim := { program := "ytknfhiolenobaaagreat", sum := "428f73748395935299326f99ab2ed2a7285a7b3bfdbea40c4382a8a4baccfe98", func := "mailboat/mailboatlaw55.CertificateWeak", spec := "certificateWeak", unfollowed := true, recurses := true, plainKeys := false, apart := false, narrowed := true }
def CertificateWeakUptoSaid : Prop := certificateWeakUptoRow.holds Tryz.pinned (OpenSpec.upto certificateWeakSpec)

/-- 'mailboatlaw55.CertificateNetworks', WHERE WHAT IT READS IS OF BULK AT MOST 1048576: true; the input reads as it did. -/
def certificateNetworksUptoRow : OpenClaim := { program := "ytknfhiolenobaaagreat", sum := "428f73748395935299326f99ab2ed2a7285a7b3bfdbea40c4382a8a4baccfe98", func := "mailboat/mailboatlaw55.CertificateNetworks", spec := "certificateNetworks", unfollowed := true, recurses := true, plainKeys := false, apart := false, narrowed := true }
def CertificateNetworksUptoSaid : Prop := certificateNetworksUptoRow.holds Tryz.pinned (OpenSpec.upto certificateNetworksSpec)

/-- 'mailboatlaw55.CertificateAnswers', WHERE WHAT IT READS IS OF BULK AT MOST 1048576: true; the input reads as it did. -/
def certificateAnswersUptoRow : OpenClaim := { program := "ytknfhiolenobaaagreat", sum := "428f73748395935299326f99ab2ed2a7285a7b3bfdbea40c4382a8a4baccfe98", func := "mailboat/mailboatlaw55.CertificateAnswers", spec := "certificateAnswers", unfollowed := true, recurses := true, plainKeys := false, apart := false, narrowed := true }
def CertificateAnswersUptoSaid : Prop := certificateAnswersUptoRow.holds Tryz.pinned (OpenSpec.upto certificateAnswersSpec)

end Rows
end Go.Proofs.YtknfhiolenobaaaGreat
