/-
  DERIVED. GIVEN WITH THE SEED: THE CARDS: each row of YtcmggofkjcejgaaGreatDoorRows.lean that lists a variable, with what it lists TIED to the program's text (the seventh form; the later family's looks); each row that meets fmt, with fmt's text TOLD by the authors' own Lean function (tested against real Go, not proved from fmt's source: count such statements apart). THE CARD IS WHAT COUNTS. Prove the row's statement (the work); the ties are given (YtcmggofkjcejgaaGreatDoorTie.lean); close each card by the builder's one call (the guide's Derived/Test/ToyasCard.lean, 'card_holds'). Laid BY PROGRAM, IN A SANDBOX (cutbox-door.mjs). By AI agents, Wed Nov 11 2026. No macro, syntax, notation, axiom, sorry.
-/
import Derived.Test.YtcmggofkjcejgaaGreatDoorRows
import GoSem.ClaimSeven
namespace Go.Proofs.YtcmggofkjcejgaaGreatDoor
namespace Rows

/-- THE TIED CARD OF 'mailboattop.TopSenderLearns'. -/
def topSenderLearnsCard : Claim7 := { stood := { row := topSenderLearnsRow, standIns := [], harness := (true, "bd66cbfe6d30a658ae689c8754871e770b56dc608ce4eba1275a23e24282acfd"), looks := false }, kinds := [], alts := [], laidByText := true, laidKinds := [.data, .pinned], laidTests := true, laidLooks := .later }
def TopSenderLearnsCardSaid : Prop := Claim7.holds Tryz.pinned (.plain (OpenSpec.ofChange topSenderLearnsSpec)) topSenderLearnsCard

/-- THE SECOND FORM's CARD OF 'mailboattop.TopSenderLearns'. -/
def topSenderLearnsUptoCard : Claim7 := { stood := { row := topSenderLearnsUptoRow, standIns := [], harness := (true, "bd66cbfe6d30a658ae689c8754871e770b56dc608ce4eba1275a23e24282acfd"), looks := false }, kinds := [], alts := [], laidByText := true, laidKinds := [.data, .pinned], laidTests := true, laidLooks := .later }
def TopSenderLearnsUptoCardSaid : Prop := Claim7.holds Tryz.pinned (.plain (OpenSpec.upto topSenderLearnsSpec)) topSenderLearnsUptoCard
end Rows
end Go.Proofs.YtcmggofkjcejgaaGreatDoor
