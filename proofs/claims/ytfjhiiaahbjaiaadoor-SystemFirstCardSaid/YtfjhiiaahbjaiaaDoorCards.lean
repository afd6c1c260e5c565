/-
  DERIVED. GIVEN WITH THE SEED: THE CARDS: each row of YtfjhiiaahbjaiaaDoorRows.lean that lists a variable, with what it lists TIED to the program's text (the seventh form; the later family's looks); each row that meets fmt, with fmt's text TOLD by the authors' own Lean function (tested against real Go, not proved from fmt's source: count such statements apart). THE CARD IS WHAT COUNTS. Prove the row's statement (the work); the ties are given (YtfjhiiaahbjaiaaDoorTie.lean); close each card by the builder's one call (the guide's Derived/Test/ToyasCard.lean, 'card_holds'). Laid BY PROGRAM, IN A SANDBOX (cutbox-door.mjs). By AI agents, Wed Nov 11 2026. No macro, syntax, notation, axiom, sorry.
-/
import Derived.Test.YtfjhiiaahbjaiaaDoorRows
import GoSem.ClaimSeven
namespace Go.Proofs.YtfjhiiaahbjaiaaDoor
namespace Rows

/-- THE TIED CARD OF 'decklelaw17.SystemNumbers'. -/
def systemNumbersCard : Claim7 := { stood := { row := systemNumbersRow, standIns := [], harness := (true, "cd39a71e68c769a153bd2a2a4a87a7e04f5ee3351a3d4cf3dd71f589c3379e23"), looks := false }, kinds := [], alts := [], laidByText := true, laidKinds := [.data, .data, .data], laidTests := true, laidLooks := .later }
def SystemNumbersCardSaid : Prop := Claim7.holds Tryd.pinned (.plain (OpenSpec.ofChange systemNumbersSpec)) systemNumbersCard

/-- THE TIED CARD OF 'decklelaw17.SystemSigns'. -/
def systemSignsCard : Claim7 := { stood := { row := systemSignsRow, standIns := [], harness := (true, "cd39a71e68c769a153bd2a2a4a87a7e04f5ee3351a3d4cf3dd71f589c3379e23"), looks := false }, kinds := [], alts := [], laidByText := true, laidKinds := [.data, .data, .data], laidTests := true, laidLooks := .later }
def SystemSignsCardSaid : Prop := Claim7.holds Tryd.pinned (.plain (OpenSpec.ofChange systemSignsSpec)) systemSignsCard

/-- THE TIED CARD OF 'decklelaw17.SystemFirst'. -/
def systemFirstCard : Claim7 := { stood := { row := systemFirstRow, standIns := [], harness := (true, "cd39a71e68c769a153bd2a2a4a87a7e04f5ee3351a3d4cf3dd71f589c3379e23"), looks := false }, kinds := [], alts := [], laidByText := true, laidKinds := [.data, .data, .data], laidTests := true, laidLooks := .later }
def SystemFirstCardSaid : Prop := Claim7.holds Tryd.pinned (.plain (OpenSpec.ofChange systemFirstSpec)) systemFirstCard

/-- THE SECOND FORM's CARD OF 'decklelaw17.SystemNumbers'. -/
def systemNumbersUptoCard : Claim7 := { stood := { row := systemNumbersUptoRow, standIns := [], harness := (true, "cd39a71e68c769a153bd2a2a4a87a7e04f5ee3351a3d4cf3dd71f589c3379e23"), looks := false }, kinds := [], alts := [], laidByText := true, laidKinds := [.data, .data, .data], laidTests := true, laidLooks := .later }
def SystemNumbersUptoCardSaid : Prop := Claim7.holds Tryd.pinned (.plain (OpenSpec.upto systemNumbersSpec)) systemNumbersUptoCard

/-- THE SECOND FORM's CARD OF 'decklelaw17.SystemSigns'. -/
def systemSignsUptoCard : Claim7 := { stood := { row := systemSignsUptoRow, standIns := [], harness := (true, "cd39a71e68c769a153bd2a2a4a87a7e04f5ee3351a3d4cf3dd71f589c3379e23"), looks := false }, kinds := [], alts := [], laidByText := true, laidKinds := [.data, .data, .data], laidTests := true, laidLooks := .later }
def SystemSignsUptoCardSaid : Prop := Claim7.holds Tryd.pinned (.plain (OpenSpec.upto systemSignsSpec)) systemSignsUptoCard

/-- THE SECOND FORM's CARD OF 'decklelaw17.SystemFirst'. -/
def systemFirstUptoCard : Claim7 := { stood := { row := systemFirstUptoRow, standIns := [], harness := (true, "cd39a71e68c769a153bd2a2a4a87a7e04f5ee3351a3d4cf3dd71f589c3379e23"), looks := false }, kinds := [], alts := [], laidByText := true, laidKinds := [.data, .data, .data], laidTests := true, laidLooks := .later }
def SystemFirstUptoCardSaid : Prop := Claim7.holds Tryd.pinned (.plain (OpenSpec.upto systemFirstSpec)) systemFirstUptoCard
end Rows
end Go.Proofs.YtfjhiiaahbjaiaaDoor
