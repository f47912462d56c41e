/-
  DERIVED. GIVEN WITH THE SEED: THE CARDS: each row of YtaibhjpgbckbkaaGreatDoorRows.lean that lists a variable, with what it lists TIED to the program's text (the seventh form; the later family's looks); each row that meets fmt, with fmt's text TOLD by the authors' own Lean function (tested against real Go, not proved from fmt's source: count such statements apart). THE CARD IS WHAT COUNTS. Prove the row's statement (the work); the ties are given (YtaibhjpgbckbkaaGreatDoorTie.lean); close each card by the builder's one call (the guide's Derived/Test/ToyasCard.lean, 'card_holds'). Laid BY PROGRAM, IN A SANDBOX (cutbox-door.mjs). By AI agents, Wed Nov 11 2026. No macro, syntax, notation, axiom, sorry.
-/
import Derived.Test.YtaibhjpgbckbkaaGreatDoorRows
import GoSem.ClaimSeven
namespace Go.Proofs.YtaibhjpgbckbkaaGreatDoor
namespace Rows

/-- THE TIED CARD OF 'pintlelaw13.CipherOfNothing'. -/
def cipherOfNothingCard : Claim7 := { stood := { row := cipherOfNothingRow, standIns := [], harness := (true, "eae28efe0b95497c64a7d497004cc0393751c598c89cbe90977311be9882f086"), looks := true }, kinds := [], alts := [], laidByText := true, laidKinds := [.data, .data, .sentinel, .sentinel, .sentinel, .sentinel, .sentinel, .sentinel, .data, .data, .data, .data, .data, .widerDeep, .data, .data, .widerDeep], laidTests := true, laidLooks := .later }
def CipherOfNothingCardSaid : Prop := Claim7.holds Tryz.pinned (.plain (OpenSpec.ofChange cipherOfNothingSpec)) cipherOfNothingCard

/-- THE TIED CARD OF 'pintlelaw25.GramOfNothing'. -/
def gramOfNothingCard : Claim7 := { stood := { row := gramOfNothingRow, standIns := [], harness := (true, "eae28efe0b95497c64a7d497004cc0393751c598c89cbe90977311be9882f086"), looks := true }, kinds := [], alts := [], laidByText := true, laidKinds := [.data, .data, .sentinel, .sentinel, .sentinel, .sentinel, .sentinel, .sentinel, .sentinel, .sentinel, .data, .data, .data, .data, .data, .widerDeep, .data, .data, .widerDeep], laidTests := true, laidLooks := .later }
def GramOfNothingCardSaid : Prop := Claim7.holds Tryz.pinned (.plain (OpenSpec.ofChange gramOfNothingSpec)) gramOfNothingCard

/-- THE SECOND FORM's CARD OF 'pintlelaw13.CipherOfNothing'. -/
def cipherOfNothingUptoCard : Claim7 := { stood := { row := cipherOfNothingUptoRow, standIns := [], harness := (true, "eae28efe0b95497c64a7d497004cc0393751c598c89cbe90977311be9882f086"), looks := true }, kinds := [], alts := [], laidByText := true, laidKinds := [.data, .data, .sentinel, .sentinel, .sentinel, .sentinel, .sentinel, .sentinel, .data, .data, .data, .data, .data, .widerDeep, .data, .data, .widerDeep], laidTests := true, laidLooks := .later }
def CipherOfNothingUptoCardSaid : Prop := Claim7.holds Tryz.pinned (.plain (OpenSpec.upto cipherOfNothingSpec)) cipherOfNothingUptoCard

/-- THE SECOND FORM's CARD OF 'pintlelaw25.GramOfNothing'. -/
def gramOfNothingUptoCard : Claim7 := { stood := { row := gramOfNothingUptoRow, standIns := [], harness := (true, "eae28efe0b95497c64a7d497004cc0393751c598c89cbe90977311be9882f086"), looks := true }, kinds := [], alts := [], laidByText := true, laidKinds := [.data, .data, .sentinel, .sentinel, .sentinel, .sentinel, .sentinel, .sentinel, .sentinel, .sentinel, .data, .data, .data, .data, .data, .widerDeep, .data, .data, .widerDeep], laidTests := true, laidLooks := .later }
def GramOfNothingUptoCardSaid : Prop := Claim7.holds Tryz.pinned (.plain (OpenSpec.upto gramOfNothingSpec)) gramOfNothingUptoCard
end Rows
end Go.Proofs.YtaibhjpgbckbkaaGreatDoor
