/-
  DERIVED. GIVEN WITH THE SEED: THE CARDS: each row of YtnodfocobmghiaaGreatDoorRows.lean that lists a variable, with what it lists TIED to the program's text (the seventh form; the later family's looks); each row that meets fmt, with fmt's text TOLD by the authors' own Lean function (tested against real Go, not proved from fmt's source: count such statements apart). THE CARD IS WHAT COUNTS. Prove the row's statement (the work); the ties are given (YtnodfocobmghiaaGreatDoorTie.lean); close each card by the builder's one call (the guide's Derived/Test/ToyasCard.lean, 'card_holds'). Laid BY PROGRAM, IN A SANDBOX (cutbox-door.mjs). By AI agents, Wed Nov 11 2026. No macro, syntax, notation, axiom, sorry.
-/
import Derived.Test.YtnodfocobmghiaaGreatDoorRows
import GoSem.ClaimSeven
namespace Go.Proofs.YtnodfocobmghiaaGreatDoor
namespace Rows

/-- THE TIED CARD OF 'pintlelaw13.CipherRekeys'. -/
def cipherRekeysCard : Claim7 := { stood := { row := cipherRekeysRow, standIns := [], harness := (true, "4116b30fb823007d39397b537b909f3690404c68d628c6f1186f1ed6a251cdfc"), looks := true }, kinds := [], alts := [], laidByText := true, laidKinds := [.data, .data, .sentinel, .sentinel, .sentinel, .sentinel, .data, .data, .data, .data, .data, .widerDeep, .data, .data, .widerDeep], laidTests := true, laidLooks := .later }
def CipherRekeysCardSaid : Prop := Claim7.holds Tryz.pinned (.plain (OpenSpec.ofChange cipherRekeysSpec)) cipherRekeysCard

/-- THE TIED CARD OF 'pintlelaw13.CipherTwo'. -/
def cipherTwoCard : Claim7 := { stood := { row := cipherTwoRow, standIns := [], harness := (true, "4116b30fb823007d39397b537b909f3690404c68d628c6f1186f1ed6a251cdfc"), looks := true }, kinds := [], alts := [], laidByText := true, laidKinds := [.data, .data, .sentinel, .sentinel, .sentinel, .sentinel, .data, .data, .data, .data, .data, .widerDeep, .data, .data, .widerDeep], laidTests := true, laidLooks := .later }
def CipherTwoCardSaid : Prop := Claim7.holds Tryz.pinned (.plain (OpenSpec.ofChange cipherTwoSpec)) cipherTwoCard

/-- THE TIED CARD OF 'pintlelaw13.CipherLate'. -/
def cipherLateCard : Claim7 := { stood := { row := cipherLateRow, standIns := [], harness := (true, "4116b30fb823007d39397b537b909f3690404c68d628c6f1186f1ed6a251cdfc"), looks := true }, kinds := [], alts := [], laidByText := true, laidKinds := [.data, .data, .sentinel, .sentinel, .sentinel, .sentinel, .sentinel, .data, .data, .data, .data, .data, .widerDeep, .data, .data, .widerDeep], laidTests := true, laidLooks := .later }
def CipherLateCardSaid : Prop := Claim7.holds Tryz.pinned (.plain (OpenSpec.ofChange cipherLateSpec)) cipherLateCard

/-- THE TIED CARD OF 'pintlelaw13.CipherBack'. -/
def cipherBackCard : Claim7 := { stood := { row := cipherBackRow, standIns := [], harness := (true, "4116b30fb823007d39397b537b909f3690404c68d628c6f1186f1ed6a251cdfc"), looks := true }, kinds := [], alts := [], laidByText := true, laidKinds := [.data, .data, .sentinel, .sentinel, .sentinel, .sentinel, .sentinel, .sentinel, .data, .data, .data, .data, .data, .widerDeep, .data, .data, .widerDeep], laidTests := true, laidLooks := .later }
def CipherBackCardSaid : Prop := Claim7.holds Tryz.pinned (.plain (OpenSpec.ofChange cipherBackSpec)) cipherBackCard

/-- THE TIED CARD OF 'pintlelaw13.CipherEnds'. -/
def cipherEndsCard : Claim7 := { stood := { row := cipherEndsRow, standIns := [], harness := (true, "4116b30fb823007d39397b537b909f3690404c68d628c6f1186f1ed6a251cdfc"), looks := true }, kinds := [], alts := [], laidByText := true, laidKinds := [.data, .data, .sentinel, .sentinel, .sentinel, .sentinel, .sentinel, .sentinel, .data, .data, .data, .data, .data, .widerDeep, .data, .data, .widerDeep], laidTests := true, laidLooks := .later }
def CipherEndsCardSaid : Prop := Claim7.holds Tryz.pinned (.plain (OpenSpec.ofChange cipherEndsSpec)) cipherEndsCard

/-- THE SECOND FORM's CARD OF 'pintlelaw13.CipherRekeys'. -/
def cipherRekeysUptoCard : Claim7 := { stood := { row := cipherRekeysUptoRow, standIns := [], harness := (true, "4116b30fb823007d39397b537b909f3690404c68d628c6f1186f1ed6a251cdfc"), looks := true }, kinds := [], alts := [], laidByText := true, laidKinds := [.data, .data, .sentinel, .sentinel, .sentinel, .sentinel, .data, .data, .data, .data, .data, .widerDeep, .data, .data, .widerDeep], laidTests := true, laidLooks := .later }
def CipherRekeysUptoCardSaid : Prop := Claim7.holds Tryz.pinned (.plain (OpenSpec.upto cipherRekeysSpec)) cipherRekeysUptoCard

/-- THE SECOND FORM's CARD OF 'pintlelaw13.CipherTwo'. -/
def cipherTwoUptoCard : Claim7 := { stood := { row := cipherTwoUptoRow, standIns := [], harness := (true, "4116b30fb823007d39397b537b909f3690404c68d628c6f1186f1ed6a251cdfc"), looks := true }, kinds := [], alts := [], laidByText := true, laidKinds := [.data, .data, .sentinel, .sentinel, .sentinel, .sentinel, .data, .data, .data, .data, .data, .widerDeep, .data, .data, .widerDeep], laidTests := true, laidLooks := .later }
def CipherTwoUptoCardSaid : Prop := Claim7.holds Tryz.pinned (.plain (OpenSpec.upto cipherTwoSpec)) cipherTwoUptoCard

/-- THE SECOND FORM's CARD OF 'pintlelaw13.CipherLate'. -/
def cipherLateUptoCard : Claim7 := { stood := { row := cipherLateUptoRow, standIns := [], harness := (true, "4116b30fb823007d39397b537b909f3690404c68d628c6f1186f1ed6a251cdfc"), looks := true }, kinds := [], alts := [], laidByText := true, laidKinds := [.data, .data, .sentinel, .sentinel, .sentinel, .sentinel, .sentinel, .data, .data, .data, .data, .data, .widerDeep, .data, .data, .widerDeep], laidTests := true, laidLooks := .later }
def CipherLateUptoCardSaid : Prop := Claim7.holds Tryz.pinned (.plain (OpenSpec.upto cipherLateSpec)) cipherLateUptoCard

/-- THE SECOND FORM's CARD OF 'pintlelaw13.CipherBack'. -/
def cipherBackUptoCard : Claim7 := { stood := { row := cipherBackUptoRow, standIns := [], harness := (true, "4116b30fb823007d39397b537b909f3690404c68d628c6f1186f1ed6a251cdfc"), looks := true }, kinds := [], alts := [], laidByText := true, laidKinds := [.data, .data, .sentinel, .sentinel, .sentinel, .sentinel, .sentinel, .sentinel, .data, .data, .data, .data, .data, .widerDeep, .data, .data, .widerDeep], laidTests := true, laidLooks := .later }
def CipherBackUptoCardSaid : Prop := Claim7.holds Tryz.pinned (.plain (OpenSpec.upto cipherBackSpec)) cipherBackUptoCard

/-- THE SECOND FORM's CARD OF 'pintlelaw13.CipherEnds'. -/
def cipherEndsUptoCard : Claim7 := { stood := { row := cipherEndsUptoRow, standIns := [], harness := (true, "4116b30fb823007d39397b537b909f3690404c68d628c6f1186f1ed6a251cdfc"), looks := true }, kinds := [], alts := [], laidByText := true, laidKinds := [.data, .data, .sentinel, .sentinel, .sentinel, .sentinel, .sentinel, .sentinel, .data, .data, .data, .data, .data, .widerDeep, .data, .data, .widerDeep], laidTests := true, laidLooks := .later }
def CipherEndsUptoCardSaid : Prop := Claim7.holds Tryz.pinned (.plain (OpenSpec.upto cipherEndsSpec)) cipherEndsUptoCard
end Rows
end Go.Proofs.YtnodfocobmghiaaGreatDoor
