/-
  DERIVED. GIVEN WITH THE SEED: THE CARDS: each row of YtfjhiiaahbjaiaaGreatDoorRows.lean that lists a variable, with what it lists TIED to the program's text (the seventh form; the later family's looks); each row that meets fmt, with fmt's text TOLD by the authors' own Lean function (tested against real Go, not proved from fmt's source: count such statements apart). THE CARD IS WHAT COUNTS. Prove the row's statement (the work); the ties are given (YtfjhiiaahbjaiaaGreatDoorTie.lean); close each card by the builder's one call (the guide's Derived/Test/ToyasCard.lean, 'card_holds'). Laid BY PROGRAM, IN A SANDBOX (cutbox-door.mjs). By AI agents, Wed Nov 11 2026. No macro, syntax, notation, axiom, sorry.
-/
import Derived.Test.YtfjhiiaahbjaiaaGreatDoorRows
import GoSem.ClaimSeven
namespace Go.Proofs.YtfjhiiaahbjaiaaGreatDoor
namespace Rows

/-- THE TIED CARD OF 'decklelaw17.SystemTells'. -/
def systemTellsCard : Claim7 := { stood := { row := systemTellsRow, standIns := [], harness := (true, "cab9f60d10ece7855aa47376232454e00045f43fd80b6bdceec46308d0e2cd29"), looks := false }, kinds := [], alts := [], laidByText := true, laidKinds := [.data, .data, .data], laidTests := true, laidLooks := .later }
def SystemTellsCardSaid : Prop := Claim7.holds Tryz.pinned (.plain (OpenSpec.ofChange systemTellsSpec)) systemTellsCard

/-- THE SECOND FORM's CARD OF 'decklelaw17.SystemTells'. -/
def systemTellsUptoCard : Claim7 := { stood := { row := systemTellsUptoRow, standIns := [], harness := (true, "cab9f60d10ece7855aa47376232454e00045f43fd80b6bdceec46308d0e2cd29"), looks := false }, kinds := [], alts := [], laidByText := true, laidKinds := [.data, .data, .data], laidTests := true, laidLooks := .later }
def SystemTellsUptoCardSaid : Prop := Claim7.holds Tryz.pinned (.plain (OpenSpec.upto systemTellsSpec)) systemTellsUptoCard
end Rows
end Go.Proofs.YtfjhiiaahbjaiaaGreatDoor
