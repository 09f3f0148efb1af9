/-
  DERIVED. GIVEN WITH THE SEED: THE CARDS: each row of YtjopknnkcnehmaaGreatDoorRows.lean that lists a variable, with what it lists TIED to the program's text (the seventh form; the later family's looks); each row that meets fmt, with fmt's text TOLD by the authors' own Lean function (tested against real Go, not proved from fmt's source: count such statements apart). THE CARD IS WHAT COUNTS. Prove the row's statement (the work); the ties are given (YtjopknnkcnehmaaGreatDoorTie.lean); close each card by the builder's one call (the guide's Derived/Test/ToyasCard.lean, 'card_holds'). Laid BY PROGRAM, IN A SANDBOX (cutbox-door.mjs). By AI agents, Wed Nov 11 2026. No macro, syntax, notation, axiom, sorry.
-/
import Derived.Test.YtjopknnkcnehmaaGreatDoorRows
import GoSem.ClaimSeven
namespace Go.Proofs.YtjopknnkcnehmaaGreatDoor
namespace Rows

/-- THE TIED CARD OF 'mailboattop.TopReported'. -/
def topReportedCard : Claim7 := { stood := { row := topReportedRow, standIns := [], harness := (true, "0665ea51c808aab136ceb71a67e8fe85095133da563ad547a39e4e5f03c23f9d"), looks := false }, kinds := [], alts := [], laidByText := true, laidKinds := [.data, .pinned], laidTests := true, laidLooks := .later }
def TopReportedCardSaid : Prop := Claim7.holds Tryz.pinned (.plain (OpenSpec.ofChange topReportedSpec)) topReportedCard

/-- THE SECOND FORM's CARD OF 'mailboattop.TopReported'. -/
def topReportedUptoCard : Claim7 := { stood := { row := topReportedUptoRow, standIns := [], harness := (true, "0665ea51c808aab136ceb71a67e8fe85095133da563ad547a39e4e5f03c23f9d"), looks := false }, kinds := [], alts := [], laidByText := true, laidKinds := [.data, .pinned], laidTests := true, laidLooks := .later }
def TopReportedUptoCardSaid : Prop := Claim7.holds Tryz.pinned (.plain (OpenSpec.upto topReportedSpec)) topReportedUptoCard
end Rows
end Go.Proofs.YtjopknnkcnehmaaGreatDoor
