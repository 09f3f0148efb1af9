/-
  DERIVED. GIVEN WITH THE SEED: THE CARDS: each row of YtijheemiknkleaaGreatDoorRows.lean that lists a variable, with what it lists TIED to the program's text (the seventh form; the later family's looks); each row that meets fmt, with fmt's text TOLD by the authors' own Lean function (tested against real Go, not proved from fmt's source: count such statements apart). THE CARD IS WHAT COUNTS. Prove the row's statement (the work); the ties are given (YtijheemiknkleaaGreatDoorTie.lean); close each card by the builder's one call (the guide's Derived/Test/ToyasCard.lean, 'card_holds'). Laid BY PROGRAM, IN A SANDBOX (cutbox-door.mjs). By AI agents, Wed Nov 11 2026. No macro, syntax, notation, axiom, sorry.
-/
import Derived.Test.YtijheemiknkleaaGreatDoorRows
import GoSem.ClaimSeven
namespace Go.Proofs.YtijheemiknkleaaGreatDoor
namespace Rows

/-- THE TIED CARD OF 'mailboattop.TopMoreContacts'. -/
def topMoreContactsCard : Claim7 := { stood := { row := topMoreContactsRow, standIns := [], harness := (true, "0ae5a82850d660a5dfe4f65ca92727cbc591d81053d155bc1f566b270b5e2602"), looks := false }, kinds := [], alts := [], laidByText := true, laidKinds := [.data, .pinned], laidTests := true, laidLooks := .later }
def TopMoreContactsCardSaid : Prop := Claim7.holds Tryz.pinned (.plain (OpenSpec.ofChange topMoreContactsSpec)) topMoreContactsCard

/-- THE SECOND FORM's CARD OF 'mailboattop.TopMoreContacts'. -/
def topMoreContactsUptoCard : Claim7 := { stood := { row := topMoreContactsUptoRow, standIns := [], harness := (true, "0ae5a82850d660a5dfe4f65ca92727cbc591d81053d155bc1f566b270b5e2602"), looks := false }, kinds := [], alts := [], laidByText := true, laidKinds := [.data, .pinned], laidTests := true, laidLooks := .later }
def TopMoreContactsUptoCardSaid : Prop := Claim7.holds Tryz.pinned (.plain (OpenSpec.upto topMoreContactsSpec)) topMoreContactsUptoCard
end Rows
end Go.Proofs.YtijheemiknkleaaGreatDoor
