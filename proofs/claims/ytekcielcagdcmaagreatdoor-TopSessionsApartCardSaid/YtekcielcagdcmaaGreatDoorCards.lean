/-
  DERIVED. GIVEN WITH THE SEED: THE CARDS: each row of YtekcielcagdcmaaGreatDoorRows.lean that lists a variable, with what it lists TIED to the program's text (the seventh form; the later family's looks); each row that meets fmt, with fmt's text TOLD by the authors' own Lean function (tested against real Go, not proved from fmt's source: count such statements apart). THE CARD IS WHAT COUNTS. Prove the row's statement (the work); the ties are given (YtekcielcagdcmaaGreatDoorTie.lean); close each card by the builder's one call (the guide's Derived/Test/ToyasCard.lean, 'card_holds'). Laid BY PROGRAM, IN A SANDBOX (cutbox-door.mjs). By AI agents, Wed Nov 11 2026. No macro, syntax, notation, axiom, sorry.
-/
import Derived.Test.YtekcielcagdcmaaGreatDoorRows
import GoSem.ClaimSeven
namespace Go.Proofs.YtekcielcagdcmaaGreatDoor
namespace Rows

/-- THE TIED CARD OF 'mailboattop.TopSessionsApart'. -/
def topSessionsApartCard : Claim7 := { stood := { row := topSessionsApartRow, standIns := [], harness := (true, "fae4f8f6dddf9e1fe781e335ffd8bab1c4562f64e3c515997dc2109ba81bd03f"), looks := true }, kinds := [], alts := [], laidByText := true, laidKinds := [.data, .pinned], laidTests := true, laidLooks := .later }
def TopSessionsApartCardSaid : Prop := Claim7.holds Tryz.pinned (.plain (OpenSpec.ofChange topSessionsApartSpec)) topSessionsApartCard

/-- THE SECOND FORM's CARD OF 'mailboattop.TopSessionsApart'. -/
def topSessionsApartUptoCard : Claim7 := { stood := { row := topSessionsApartUptoRow, standIns := [], harness := (true, "fae4f8f6dddf9e1fe781e335ffd8bab1c4562f64e3c515997dc2109ba81bd03f"), looks := true }, kinds := [], alts := [], laidByText := true, laidKinds := [.data, .pinned], laidTests := true, laidLooks := .later }
def TopSessionsApartUptoCardSaid : Prop := Claim7.holds Tryz.pinned (.plain (OpenSpec.upto topSessionsApartSpec)) topSessionsApartUptoCard
end Rows
end Go.Proofs.YtekcielcagdcmaaGreatDoor
