/-
  DERIVED. GIVEN WITH THE SEED: THE CARDS: each row of YtjomfjihopegmaaGreatDoorRows.lean that lists a variable, with what it lists TIED to the program's text (the seventh form; the later family's looks); each row that meets fmt, with fmt's text TOLD by the authors' own Lean function (tested against real Go, not proved from fmt's source: count such statements apart). THE CARD IS WHAT COUNTS. Prove the row's statement (the work); the ties are given (YtjomfjihopegmaaGreatDoorTie.lean); close each card by the builder's one call (the guide's Derived/Test/ToyasCard.lean, 'card_holds'). Laid BY PROGRAM, IN A SANDBOX (cutbox-door.mjs). By AI agents, Wed Nov 11 2026. No macro, syntax, notation, axiom, sorry.
-/
import Derived.Test.YtjomfjihopegmaaGreatDoorRows
import GoSem.ClaimSeven
namespace Go.Proofs.YtjomfjihopegmaaGreatDoor
namespace Rows

/-- THE TIED CARD OF 'pintlelaw10.SuiteCopies'. -/
def suiteCopiesCard : Claim7 := { stood := { row := suiteCopiesRow, standIns := [], harness := (true, "f0d1aef613889421b2e7d52555bd649d422b50fba68666ed719599b9e4e438b4"), looks := true }, kinds := [], alts := [], laidByText := true, laidKinds := [.data, .data, .sentinel, .data, .data, .data, .data, .data, .widerDeep, .data, .data, .widerDeep], laidTests := true, laidLooks := .later }
def SuiteCopiesCardSaid : Prop := Claim7.holds Tryz.pinned (.plain (OpenSpec.ofChange suiteCopiesSpec)) suiteCopiesCard

/-- THE SECOND FORM's CARD OF 'pintlelaw10.SuiteCopies'. -/
def suiteCopiesUptoCard : Claim7 := { stood := { row := suiteCopiesUptoRow, standIns := [], harness := (true, "f0d1aef613889421b2e7d52555bd649d422b50fba68666ed719599b9e4e438b4"), looks := true }, kinds := [], alts := [], laidByText := true, laidKinds := [.data, .data, .sentinel, .data, .data, .data, .data, .data, .widerDeep, .data, .data, .widerDeep], laidTests := true, laidLooks := .later }
def SuiteCopiesUptoCardSaid : Prop := Claim7.holds Tryz.pinned (.plain (OpenSpec.upto suiteCopiesSpec)) suiteCopiesUptoCard
end Rows
end Go.Proofs.YtjomfjihopegmaaGreatDoor
