/-
  DERIVED. GIVEN WITH THE SEED: THE CARDS: each row of YtdhombdiakjdhaaGreatDoorRows.lean that lists a variable, with what it lists TIED to the program's text (the seventh form; the later family's looks); each row that meets fmt, with fmt's text TOLD by the authors' own Lean function (tested against real Go, not proved from fmt's source: count such statements apart). THE CARD IS WHAT COUNTS. Prove the row's statement (the work); the ties are given (YtdhombdiakjdhaaGreatDoorTie.lean); close each card by the builder's one call (the guide's Derived/Test/ToyasCard.lean, 'card_holds'). Laid BY PROGRAM, IN A SANDBOX (cutbox-door.mjs). By AI agents, Wed Nov 11 2026. No macro, syntax, notation, axiom, sorry.
-/
import Derived.Test.YtdhombdiakjdhaaGreatDoorRows
import GoSem.ClaimSeven
namespace Go.Proofs.YtdhombdiakjdhaaGreatDoor
namespace Rows

/-- THE TIED CARD OF 'pintlelaw12.KdfAgain'. -/
def kdfAgainCard : Claim7 := { stood := { row := kdfAgainRow, standIns := [], harness := (true, "ae9998f9417cc60eb77eedd291e0a292fd4891a9941099b4b29956f56149dd59"), looks := true }, kinds := [], alts := [], laidByText := true, laidKinds := [.data, .data, .sentinel, .data, .data, .data, .data, .data, .widerDeep, .data, .data, .widerDeep], laidTests := true, laidLooks := .later }
def KdfAgainCardSaid : Prop := Claim7.holds Tryz.pinned (.plain (OpenSpec.ofChange kdfAgainSpec)) kdfAgainCard

/-- THE TIED CARD OF 'pintlelaw12.KdfPieces'. -/
def kdfPiecesCard : Claim7 := { stood := { row := kdfPiecesRow, standIns := [], harness := (true, "ae9998f9417cc60eb77eedd291e0a292fd4891a9941099b4b29956f56149dd59"), looks := true }, kinds := [], alts := [], laidByText := true, laidKinds := [.data, .data, .sentinel, .data, .data, .data, .data, .data, .widerDeep, .data, .data, .widerDeep], laidTests := true, laidLooks := .later }
def KdfPiecesCardSaid : Prop := Claim7.holds Tryz.pinned (.plain (OpenSpec.ofChange kdfPiecesSpec)) kdfPiecesCard

/-- THE TIED CARD OF 'pintlelaw12.KdfMacs'. -/
def kdfMacsCard : Claim7 := { stood := { row := kdfMacsRow, standIns := [], harness := (true, "ae9998f9417cc60eb77eedd291e0a292fd4891a9941099b4b29956f56149dd59"), looks := true }, kinds := [], alts := [], laidByText := true, laidKinds := [.data, .data, .sentinel, .data, .data, .data, .data, .data, .widerDeep, .data, .data, .widerDeep], laidTests := true, laidLooks := .later }
def KdfMacsCardSaid : Prop := Claim7.holds Tryz.pinned (.plain (OpenSpec.ofChange kdfMacsSpec)) kdfMacsCard

/-- THE TIED CARD OF 'pintlelaw12.KdfKeys'. -/
def kdfKeysCard : Claim7 := { stood := { row := kdfKeysRow, standIns := [], harness := (true, "ae9998f9417cc60eb77eedd291e0a292fd4891a9941099b4b29956f56149dd59"), looks := true }, kinds := [], alts := [], laidByText := true, laidKinds := [.data, .data, .sentinel, .data, .data, .data, .data, .data, .widerDeep, .data, .data, .widerDeep], laidTests := true, laidLooks := .later }
def KdfKeysCardSaid : Prop := Claim7.holds Tryz.pinned (.plain (OpenSpec.ofChange kdfKeysSpec)) kdfKeysCard

/-- THE SECOND FORM's CARD OF 'pintlelaw12.KdfAgain'. -/
def kdfAgainUptoCard : Claim7 := { stood := { row := kdfAgainUptoRow, standIns := [], harness := (true, "ae9998f9417cc60eb77eedd291e0a292fd4891a9941099b4b29956f56149dd59"), looks := true }, kinds := [], alts := [], laidByText := true, laidKinds := [.data, .data, .sentinel, .data, .data, .data, .data, .data, .widerDeep, .data, .data, .widerDeep], laidTests := true, laidLooks := .later }
def KdfAgainUptoCardSaid : Prop := Claim7.holds Tryz.pinned (.plain (OpenSpec.upto kdfAgainSpec)) kdfAgainUptoCard

/-- THE SECOND FORM's CARD OF 'pintlelaw12.KdfPieces'. -/
def kdfPiecesUptoCard : Claim7 := { stood := { row := kdfPiecesUptoRow, standIns := [], harness := (true, "ae9998f9417cc60eb77eedd291e0a292fd4891a9941099b4b29956f56149dd59"), looks := true }, kinds := [], alts := [], laidByText := true, laidKinds := [.data, .data, .sentinel, .data, .data, .data, .data, .data, .widerDeep, .data, .data, .widerDeep], laidTests := true, laidLooks := .later }
def KdfPiecesUptoCardSaid : Prop := Claim7.holds Tryz.pinned (.plain (OpenSpec.upto kdfPiecesSpec)) kdfPiecesUptoCard

/-- THE SECOND FORM's CARD OF 'pintlelaw12.KdfMacs'. -/
def kdfMacsUptoCard : Claim7 := { stood := { row := kdfMacsUptoRow, standIns := [], harness := (true, "ae9998f9417cc60eb77eedd291e0a292fd4891a9941099b4b29956f56149dd59"), looks := true }, kinds := [], alts := [], laidByText := true, laidKinds := [.data, .data, .sentinel, .data, .data, .data, .data, .data, .widerDeep, .data, .data, .widerDeep], laidTests := true, laidLooks := .later }
def KdfMacsUptoCardSaid : Prop := Claim7.holds Tryz.pinned (.plain (OpenSpec.upto kdfMacsSpec)) kdfMacsUptoCard

/-- THE SECOND FORM's CARD OF 'pintlelaw12.KdfKeys'. -/
def kdfKeysUptoCard : Claim7 := { stood := { row := kdfKeysUptoRow, standIns := [], harness := (true, "ae9998f9417cc60eb77eedd291e0a292fd4891a9941099b4b29956f56149dd59"), looks := true }, kinds := [], alts := [], laidByText := true, laidKinds := [.data, .data, .sentinel, .data, .data, .data, .data, .data, .widerDeep, .data, .data, .widerDeep], laidTests := true, laidLooks := .later }
def KdfKeysUptoCardSaid : Prop := Claim7.holds Tryz.pinned (.plain (OpenSpec.upto kdfKeysSpec)) kdfKeysUptoCard
end Rows
end Go.Proofs.YtdhombdiakjdhaaGreatDoor
