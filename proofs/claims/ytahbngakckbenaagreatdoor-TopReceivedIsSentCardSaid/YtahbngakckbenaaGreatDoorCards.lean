/-
  DERIVED. GIVEN WITH THE SEED: THE CARDS: each row of YtahbngakckbenaaGreatDoorRows.lean that lists a variable, with what it lists TIED to the program's text (the seventh form; the later family's looks); each row that meets fmt, with fmt's text TOLD by the authors' own Lean function (tested against real Go, not proved from fmt's source: count such statements apart). THE CARD IS WHAT COUNTS. Prove the row's statement (the work); the ties are given (YtahbngakckbenaaGreatDoorTie.lean); close each card by the builder's one call (the guide's Derived/Test/ToyasCard.lean, 'card_holds'). Laid BY PROGRAM, IN A SANDBOX (cutbox-door.mjs). By AI agents, Wed Nov 11 2026. No macro, syntax, notation, axiom, sorry.
-/
import Derived.Test.YtahbngakckbenaaGreatDoorRows
import GoSem.ClaimSeven
namespace Go.Proofs.YtahbngakckbenaaGreatDoor
namespace Rows

/-- THE TIED CARD OF 'mailboattop.TopReceivedIsSent'. -/
def topReceivedIsSentCard : Claim7 := { stood := { row := topReceivedIsSentRow, standIns := [], harness := (true, "18a591474dd7ae89eeaff6a42eb04be19ef7a5980099f078c021653b889ff4c8"), looks := false }, kinds := [], alts := [], laidByText := true, laidKinds := [.data, .pinned], laidTests := true, laidLooks := .later }
def TopReceivedIsSentCardSaid : Prop := Claim7.holds Tryz.pinned (.plain (OpenSpec.ofChange topReceivedIsSentSpec)) topReceivedIsSentCard

/-- THE SECOND FORM's CARD OF 'mailboattop.TopReceivedIsSent'. -/
def topReceivedIsSentUptoCard : Claim7 := { stood := { row := topReceivedIsSentUptoRow, standIns := [], harness := (true, "18a591474dd7ae89eeaff6a42eb04be19ef7a5980099f078c021653b889ff4c8"), looks := false }, kinds := [], alts := [], laidByText := true, laidKinds := [.data, .pinned], laidTests := true, laidLooks := .later }
def TopReceivedIsSentUptoCardSaid : Prop := Claim7.holds Tryz.pinned (.plain (OpenSpec.upto topReceivedIsSentSpec)) topReceivedIsSentUptoCard
end Rows
end Go.Proofs.YtahbngakckbenaaGreatDoor
