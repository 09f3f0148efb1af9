/-
  No cell of these rows narrows 'for every input' (looked for: loops, veiled, ifaces, maps, wideKeys, modest, calm, conditions, laid).
  DERIVED. THE GIVEN ROWS OF THIS SEAT. 6 by the template 'for every input the law returns true; each argument reads behind the call as it read before'; 0 by the template 'total and deterministic' (their statements: YtnbihndlbopmeaaTotals.lean).
  GIVEN WITH THE SEED: the statements are not yours to turn. If you find one false, say at which input.
  Laid BY PROGRAM, IN A SANDBOX (cutbox-rows.mjs): the forced cells as the released guide's own fill.sh prints them over the translation f51b67d9bb97563c… (all of the seat's roots in one cut). By AI agents, Wed Nov 11 2026. No macro, syntax, notation, axiom, sorry.
-/
import Derived.Test.YtnbihndlbopmeaaChecked
import GoSem.Claim
import GoSem.ClaimJoined
import GoSem.ClaimMapViews
import Derived.JoinedTies
import Derived.KernelRfl
namespace Go.Proofs.Ytnbihndlbopmeaa
/- THE CELL 'sum', in the pinned program and in every row, IS THE sha256 OF THE DUMP (.gsa) THAT YtnbihndlbopmeaaProg.lean LOADS. Nothing in Lean hashes anything: it is a label: what it is worth is what the hold of that sum in a sandbox is worth. -/
noncomputable def Try.pinned : Pinned := { name := "ytnbihndlbopmeaa", sum := "f51b67d9bb97563ca224ec9fe6b8e3bb88173398b7db1e2204f80f7632f53c12", checked := Try.checked }
namespace Rows
def none {H : Type} : Left H := { results := [], args := [] }

/-- 'mailboatlaw28.StorageFree': WHATEVER THE INPUT: true; the input reads as it did. -/
def storageFreeSpec : ChangeSpec := { name := "storageFree", fn := fun _ => fun
  | [d1, d2, d3, d4] => { results := [.lit (.bool true)], args := [d1, d2, d3, d4] }
  | _ => none }
def storageFreeRow : OpenClaim := { program := "ytnbihndlbopmeaa", sum := "f51b67d9bb97563ca224ec9fe6b8e3bb88173398b7db1e2204f80f7632f53c12", func := "mailboat/mailboatlaw28.StorageFree", spec := "storageFree", unfollowed := true, recurses := true, apart := false }
def StorageFreeSaid : Prop := storageFreeRow.holds Try.pinned (OpenSpec.ofChange storageFreeSpec)

/-- ITS FALSE NEIGHBOUR: 'it returns false'. Refute it at one input. -/
def storageFreeWrong : ChangeSpec := { name := "storageFree", fn := fun _ => fun
  | [d1, d2, d3, d4] => { results := [.lit (.bool false)], args := [d1, d2, d3, d4] }
  | _ => none }
def StorageFreeWrongFalsely : Prop := storageFreeRow.holds Try.pinned (OpenSpec.ofChange storageFreeWrong)

/-- 'mailboatlaw28.StorageProfiles': WHATEVER THE INPUT: true; the input reads as it did. -/
def storageProfilesSpec : ChangeSpec := { name := "storageProfiles", fn := fun _ => fun
  | [d1, d2, d3] => { results := [.lit (.bool true)], args := [d1, d2, d3] }
  | _ => none }
def storageProfilesRow : OpenClaim := { program := "ytnbihndlbopmeaa", sum := "f51b67d9bb97563ca224ec9fe6b8e3bb88173398b7db1e2204f80f7632f53c12", func := "mailboat/mailboatlaw28.StorageProfiles", spec := "storageProfiles", inPlace := ["math/bits.Sub64", "math/bits.Add64"], unfollowed := true, recurses := true, apart := false }
def StorageProfilesSaid : Prop := storageProfilesRow.holds Try.pinned (OpenSpec.ofChange storageProfilesSpec)

/-- ITS FALSE NEIGHBOUR: 'it returns false'. Refute it at one input. -/
def storageProfilesWrong : ChangeSpec := { name := "storageProfiles", fn := fun _ => fun
  | [d1, d2, d3] => { results := [.lit (.bool false)], args := [d1, d2, d3] }
  | _ => none }
def StorageProfilesWrongFalsely : Prop := storageProfilesRow.holds Try.pinned (OpenSpec.ofChange storageProfilesWrong)

/-- 'mailboatlaw28.StorageExact': WHATEVER THE INPUT: true; the input reads as it did. -/
def storageExactSpec : ChangeSpec := { name := "storageExact", fn := fun _ => fun
  | [d1, d2, d3, d4, d5] => { results := [.lit (.bool true)], args := [d1, d2, d3, d4, d5] }
  | _ => none }
def storageExactRow : OpenClaim := { program := "ytnbihndlbopmeaa", sum := "f51b67d9bb97563ca224ec9fe6b8e3bb88173398b7db1e2204f80f7632f53c12", func := "mailboat/mailboatlaw28.StorageExact", spec := "storageExact", inPlace := ["slices.overlaps[mailboat/api.Hold]"], unfollowed := true, recurses := true, apart := false }
def StorageExactSaid : Prop := storageExactRow.holds Try.pinned (OpenSpec.ofChange storageExactSpec)

/-- ITS FALSE NEIGHBOUR: 'it returns false'. Refute it at one input. -/
def storageExactWrong : ChangeSpec := { name := "storageExact", fn := fun _ => fun
  | [d1, d2, d3, d4, d5] => { results := [.lit (.bool false)], args := [d1, d2, d3, d4, d5] }
  | _ => none }
def StorageExactWrongFalsely : Prop := storageExactRow.holds Try.pinned (OpenSpec.ofChange storageExactWrong)

/-- 'mailboatlaw28.StorageAdds': WHATEVER THE INPUT: true; the input reads as it did. -/
def storageAddsSpec : ChangeSpec := { name := "storageAdds", fn := fun _ => fun
  | [d1, d2, d3, d4] => { results := [.lit (.bool true)], args := [d1, d2, d3, d4] }
  | _ => none }
def storageAddsRow : OpenClaim := { program := "ytnbihndlbopmeaa", sum := "f51b67d9bb97563ca224ec9fe6b8e3bb88173398b7db1e2204f80f7632f53c12", func := "mailboat/mailboatlaw28.StorageAdds", spec := "storageAdds", inPlace := ["slices.overlaps[mailboat/api.Hold]"], unfollowed := true, recurses := true, apart := false }
def StorageAddsSaid : Prop := storageAddsRow.holds Try.pinned (OpenSpec.ofChange storageAddsSpec)

/-- ITS FALSE NEIGHBOUR: 'it returns false'. Refute it at one input. -/
def storageAddsWrong : ChangeSpec := { name := "storageAdds", fn := fun _ => fun
  | [d1, d2, d3, d4] => { results := [.lit (.bool false)], args := [d1, d2, d3, d4] }
  | _ => none }
def StorageAddsWrongFalsely : Prop := storageAddsRow.holds Try.pinned (OpenSpec.ofChange storageAddsWrong)

/-- 'mailboatlaw28.StorageHolds': WHATEVER THE INPUT: true; the input reads as it did. -/
def storageHoldsSpec : ChangeSpec := { name := "storageHolds", fn := fun _ => fun
  | [d1, d2, d3] => { results := [.lit (.bool true)], args := [d1, d2, d3] }
  | _ => none }
def storageHoldsRow : OpenClaim := { program := "ytnbihndlbopmeaa", sum := "f51b67d9bb97563ca224ec9fe6b8e3bb88173398b7db1e2204f80f7632f53c12", func := "mailboat/mailboatlaw28.StorageHolds", spec := "storageHolds", inPlace := ["slices.overlaps[mailboat/api.Hold]"], unfollowed := true, recurses := true, apart := false }
def StorageHoldsSaid : Prop := storageHoldsRow.holds Try.pinned (OpenSpec.ofChange storageHoldsSpec)

/-- ITS FALSE NEIGHBOUR: 'it returns false'. Refute it at one input. -/
def storageHoldsWrong : ChangeSpec := { name := "storageHolds", fn := fun _ => fun
  | [d1, d2, d3] => { results := [.lit (.bool false)], args := [d1, d2, d3] }
  | _ => none }
def StorageHoldsWrongFalsely : Prop := storageHoldsRow.holds Try.pinned (OpenSpec.ofChange storageHoldsWrong)

/-- 'mailboatlaw28.StorageReleases': WHATEVER THE INPUT: true; the input reads as it did. -/
def storageReleasesSpec : ChangeSpec := { name := "storageReleases", fn := fun _ => fun
  | [d1, d2, d3] => { results := [.lit (.bool true)], args := [d1, d2, d3] }
  | _ => none }
def storageReleasesRow : OpenClaim := { program := "ytnbihndlbopmeaa", sum := "f51b67d9bb97563ca224ec9fe6b8e3bb88173398b7db1e2204f80f7632f53c12", func := "mailboat/mailboatlaw28.StorageReleases", spec := "storageReleases", inPlace := ["slices.overlaps[mailboat/api.Hold]"], unfollowed := true, recurses := true, apart := false }
def StorageReleasesSaid : Prop := storageReleasesRow.holds Try.pinned (OpenSpec.ofChange storageReleasesSpec)

/-- ITS FALSE NEIGHBOUR: 'it returns false'. Refute it at one input. -/
def storageReleasesWrong : ChangeSpec := { name := "storageReleases", fn := fun _ => fun
  | [d1, d2, d3] => { results := [.lit (.bool false)], args := [d1, d2, d3] }
  | _ => none }
def StorageReleasesWrongFalsely : Prop := storageReleasesRow.holds Try.pinned (OpenSpec.ofChange storageReleasesWrong)

/- THE SECOND FORM. 'bulk': how many values and letters a reading holds, each counted each time it is reached (what is shared counts as often as it is met; a slice's spare places count too). A statement '..UptoSaid' is the law's where the arguments, and the package variables that the reading takes, are together of bulk at most 1048576: NARROWER than '..Said'. Prove '..Said' where nothing that the law and all that it calls make is longer than what came in: it says more and counts as full. Else prove '..UptoSaid'. A law counts once. -/
mutual
def uptoBulk {H : Type} : DataW H → Nat
  | .lit (.string bytes) => bytes.length + 1
  | .lit _ => 1
  | .nil => 1
  | .ptr d => uptoBulk d + 1
  | .slice elems spare => uptoBulkAll elems + uptoBulkAll spare + 1
  | .agg parts => uptoBulkAll parts + 1
  | .iface _ d => uptoBulk d + 1
  | .map entries => uptoBulkEntries entries + 1
  | .held _ => 1
def uptoBulkAll {H : Type} : List (DataW H) → Nat
  | [] => 0
  | d :: r => uptoBulk d + uptoBulkAll r
def uptoBulkEntries {H : Type} : List (Lit × DataW H) → Nat
  | [] => 0
  | x :: r => uptoBulkEntry x + uptoBulkEntries r
def uptoBulkEntry {H : Type} : Lit × DataW H → Nat
  | (.string bytes, d) => bytes.length + uptoBulk d + 1
  | (_, d) => uptoBulk d + 1
 end
def uptoSmall : (H : Type) → List (DataW H) → Bool := fun _ ds => decide (uptoBulkAll ds ≤ 1048576)
def OpenSpec.upto (s : _root_.Go.ChangeSpec) : _root_.Go.OpenSpec := { _root_.Go.OpenSpec.ofChange s with cond := some uptoSmall }

/-- 'mailboatlaw28.StorageFree', WHERE WHAT IT READS IS OF BULK AT MOST 1048576: true; the input reads as it did. -/
def storageFreeUptoRow : OpenClaim := { program := "ytnbihndlbopmeaa", sum := "f51b67d9bb97563ca224ec9fe6b8e3bb88173398b7db1e2204f80f7632f53c12", func := "mailboat/mailboatlaw28.StorageFree", spec := "storageFree", unfollowed := true, recurses := true, apart := false, narrowed := true }
def StorageFreeUptoSaid : Prop := storageFreeUptoRow.holds Try.pinned (OpenSpec.upto storageFreeSpec)

/-- 'mailboatlaw28.StorageProfiles', WHERE WHAT IT READS IS OF BULK AT MOST 1048576: true; the input reads as it did. -/
def storageProfilesUptoRow : OpenClaim := { program := "ytnbihndlbopmeaa", sum := "f51b67d9bb97563ca224ec9fe6b8e3bb88173398b7db1e2204f80f7632f53c12", func := "mailboat/mailboatlaw28.StorageProfiles", spec := "storageProfiles", inPlace := ["math/bits.Sub64", "math/bits.Add64"], unfollowed := true, recurses := true, apart := false, narrowed := true }
def StorageProfilesUptoSaid : Prop := storageProfilesUptoRow.holds Try.pinned (OpenSpec.upto storageProfilesSpec)

/-- 'mailboatlaw28.StorageExact', WHERE WHAT IT READS IS OF BULK AT MOST 1048576: true; the input reads as it did. -/
def storageExactUptoRow : OpenClaim := { program := "ytnbihndlbopmeaa", sum := "f51b67d9bb97563ca224ec9fe6b8e3bb88173398b7db1e2204f80f7632f53c12", func := "mailboat/mailboatlaw28.StorageExact", spec := "storageExact", inPlace := ["slices.overlaps[mailboat/api.Hold]"], unfollowed := true, recurses := true, apart := false, narrowed := true }
def StorageExactUptoSaid : Prop := storageExactUptoRow.holds Try.pinned (OpenSpec.upto storageExactSpec)

/-- 'mailboatlaw28.StorageAdds', WHERE WHAT IT READS IS OF BULK AT MOST 1048576: true; the input reads as it did. -/
def storageAddsUptoRow : OpenClaim := { program := "ytnbihndlbopmeaa", sum := "f51b67d9bb97563ca224ec9fe6b8e3bb88173398b7db1e2204f80f7632f53c12", func := "mailboat/mailboatlaw28.StorageAdds", spec := "storageAdds", inPlace := ["slices.overlaps[mailboat/api.Hold]"], unfollowed := true, recurses := true, apart := false, narrowed := true }
def StorageAddsUptoSaid : Prop := storageAddsUptoRow.holds Try.pinned (OpenSpec.upto storageAddsSpec)

/-- 'mailboatlaw28.StorageHolds', WHERE WHAT IT READS IS OF BULK AT MOST 1048576: true; the input reads as it did. -/
def storageHoldsUptoRow : OpenClaim := { program := "ytnbihndlbopmeaa", sum := "f51b67d9bb97563ca224ec9fe6b8e3bb88173398b7db1e2204f80f7632f53c12", func := "mailboat/mailboatlaw28.StorageHolds", spec := "storageHolds", inPlace := ["slices.overlaps[mailboat/api.Hold]"], unfollowed := true, recurses := true, apart := false, narrowed := true }
def StorageHoldsUptoSaid : Prop := storageHoldsUptoRow.holds Try.pinned (OpenSpec.upto storageHoldsSpec)

/-- 'mailboatlaw28.StorageReleases', WHERE WHAT IT READS IS OF BULK AT MOST 1048576: true; the input reads as it did. -/
def storageReleasesUptoRow : OpenClaim := { program := "ytnbihndlbopmeaa", sum := "f51b67d9bb97563ca224ec9fe6b8e3bb88173398b7db1e2204f80f7632f53c12", func := "mailboat/mailboatlaw28.StorageReleases", spec := "storageReleases", inPlace := ["slices.overlaps[mailboat/api.Hold]"], unfollowed := true, recurses := true, apart := false, narrowed := true }
def StorageReleasesUptoSaid : Prop := storageReleasesUptoRow.holds Try.pinned (OpenSpec.upto storageReleasesSpec)

end Rows
end Go.Proofs.Ytnbihndlbopmeaa
