/-
  DERIVED. GIVEN WITH THE SEED: THE CARDS: each row of YticicdfijghigaaGreatDoorRows.lean that lists a variable, with what it lists TIED to the program's text (the seventh form; the later family's looks); each row that meets fmt, with fmt's text TOLD by the authors' own Lean function (tested against real Go, not proved from fmt's source: count such statements apart). THE CARD IS WHAT COUNTS. Prove the row's statement (the work); the ties are given (YticicdfijghigaaGreatDoorTie.lean); close each card by the builder's one call (the guide's Derived/Test/ToyasCard.lean, 'card_holds'). Laid BY PROGRAM, IN A SANDBOX (cutbox-door.mjs). By AI agents, Wed Nov 11 2026. No macro, syntax, notation, axiom, sorry.
-/
import Derived.Test.YticicdfijghigaaGreatDoorRows
import GoSem.ClaimSeven
namespace Go.Proofs.YticicdfijghigaaGreatDoor
namespace Rows

/-- THE TIED CARD OF 'pintlelaw11.AeadBack'. -/
def aeadBackCard : Claim7 := { stood := { row := aeadBackRow, standIns := [], harness := (true, "033f18d3db4e31063b0d6bbf359980d9cfceea9715b5cd2acb7891eef10a5393"), looks := true }, kinds := [], alts := [], laidByText := true, laidKinds := [.data, .data, .sentinel, .sentinel, .sentinel, .sentinel, .data, .data, .data, .data, .data, .widerDeep, .data, .data, .widerDeep], laidTests := true, laidLooks := .later }
def AeadBackCardSaid : Prop := Claim7.holds Tryz.pinned (.plain (OpenSpec.ofChange aeadBackSpec)) aeadBackCard

/-- THE TIED CARD OF 'pintlelaw11.AeadTwins'. -/
def aeadTwinsCard : Claim7 := { stood := { row := aeadTwinsRow, standIns := [], harness := (true, "033f18d3db4e31063b0d6bbf359980d9cfceea9715b5cd2acb7891eef10a5393"), looks := true }, kinds := [], alts := [], laidByText := true, laidKinds := [.data, .data, .sentinel, .sentinel, .sentinel, .sentinel, .data, .data, .data, .data, .data, .widerDeep, .data, .data, .widerDeep], laidTests := true, laidLooks := .later }
def AeadTwinsCardSaid : Prop := Claim7.holds Tryz.pinned (.plain (OpenSpec.ofChange aeadTwinsSpec)) aeadTwinsCard

/-- THE TIED CARD OF 'pintlelaw11.AeadTurned'. -/
def aeadTurnedCard : Claim7 := { stood := { row := aeadTurnedRow, standIns := [], harness := (true, "033f18d3db4e31063b0d6bbf359980d9cfceea9715b5cd2acb7891eef10a5393"), looks := true }, kinds := [], alts := [], laidByText := true, laidKinds := [.data, .data, .sentinel, .sentinel, .sentinel, .sentinel, .data, .data, .data, .data, .data, .widerDeep, .data, .data, .widerDeep], laidTests := true, laidLooks := .later }
def AeadTurnedCardSaid : Prop := Claim7.holds Tryz.pinned (.plain (OpenSpec.ofChange aeadTurnedSpec)) aeadTurnedCard

/-- THE TIED CARD OF 'pintlelaw11.AeadSeals'. -/
def aeadSealsCard : Claim7 := { stood := { row := aeadSealsRow, standIns := [], harness := (true, "033f18d3db4e31063b0d6bbf359980d9cfceea9715b5cd2acb7891eef10a5393"), looks := true }, kinds := [], alts := [], laidByText := true, laidKinds := [.data, .data, .sentinel, .sentinel, .sentinel, .sentinel, .data, .data, .data, .data, .data, .widerDeep, .data, .data, .widerDeep], laidTests := true, laidLooks := .later }
def AeadSealsCardSaid : Prop := Claim7.holds Tryz.pinned (.plain (OpenSpec.ofChange aeadSealsSpec)) aeadSealsCard

/-- THE TIED CARD OF 'pintlelaw11.AeadOpens'. -/
def aeadOpensCard : Claim7 := { stood := { row := aeadOpensRow, standIns := [], harness := (true, "033f18d3db4e31063b0d6bbf359980d9cfceea9715b5cd2acb7891eef10a5393"), looks := true }, kinds := [], alts := [], laidByText := true, laidKinds := [.data, .data, .sentinel, .sentinel, .sentinel, .sentinel, .data, .data, .data, .data, .data, .widerDeep, .data, .data, .widerDeep], laidTests := true, laidLooks := .later }
def AeadOpensCardSaid : Prop := Claim7.holds Tryz.pinned (.plain (OpenSpec.ofChange aeadOpensSpec)) aeadOpensCard

/-- THE SECOND FORM's CARD OF 'pintlelaw11.AeadBack'. -/
def aeadBackUptoCard : Claim7 := { stood := { row := aeadBackUptoRow, standIns := [], harness := (true, "033f18d3db4e31063b0d6bbf359980d9cfceea9715b5cd2acb7891eef10a5393"), looks := true }, kinds := [], alts := [], laidByText := true, laidKinds := [.data, .data, .sentinel, .sentinel, .sentinel, .sentinel, .data, .data, .data, .data, .data, .widerDeep, .data, .data, .widerDeep], laidTests := true, laidLooks := .later }
def AeadBackUptoCardSaid : Prop := Claim7.holds Tryz.pinned (.plain (OpenSpec.upto aeadBackSpec)) aeadBackUptoCard

/-- THE SECOND FORM's CARD OF 'pintlelaw11.AeadTwins'. -/
def aeadTwinsUptoCard : Claim7 := { stood := { row := aeadTwinsUptoRow, standIns := [], harness := (true, "033f18d3db4e31063b0d6bbf359980d9cfceea9715b5cd2acb7891eef10a5393"), looks := true }, kinds := [], alts := [], laidByText := true, laidKinds := [.data, .data, .sentinel, .sentinel, .sentinel, .sentinel, .data, .data, .data, .data, .data, .widerDeep, .data, .data, .widerDeep], laidTests := true, laidLooks := .later }
def AeadTwinsUptoCardSaid : Prop := Claim7.holds Tryz.pinned (.plain (OpenSpec.upto aeadTwinsSpec)) aeadTwinsUptoCard

/-- THE SECOND FORM's CARD OF 'pintlelaw11.AeadTurned'. -/
def aeadTurnedUptoCard : Claim7 := { stood := { row := aeadTurnedUptoRow, standIns := [], harness := (true, "033f18d3db4e31063b0d6bbf359980d9cfceea9715b5cd2acb7891eef10a5393"), looks := true }, kinds := [], alts := [], laidByText := true, laidKinds := [.data, .data, .sentinel, .sentinel, .sentinel, .sentinel, .data, .data, .data, .data, .data, .widerDeep, .data, .data, .widerDeep], laidTests := true, laidLooks := .later }
def AeadTurnedUptoCardSaid : Prop := Claim7.holds Tryz.pinned (.plain (OpenSpec.upto aeadTurnedSpec)) aeadTurnedUptoCard

/-- THE SECOND FORM's CARD OF 'pintlelaw11.AeadSeals'. -/
def aeadSealsUptoCard : Claim7 := { stood := { row := aeadSealsUptoRow, standIns := [], harness := (true, "033f18d3db4e31063b0d6bbf359980d9cfceea9715b5cd2acb7891eef10a5393"), looks := true }, kinds := [], alts := [], laidByText := true, laidKinds := [.data, .data, .sentinel, .sentinel, .sentinel, .sentinel, .data, .data, .data, .data, .data, .widerDeep, .data, .data, .widerDeep], laidTests := true, laidLooks := .later }
def AeadSealsUptoCardSaid : Prop := Claim7.holds Tryz.pinned (.plain (OpenSpec.upto aeadSealsSpec)) aeadSealsUptoCard

/-- THE SECOND FORM's CARD OF 'pintlelaw11.AeadOpens'. -/
def aeadOpensUptoCard : Claim7 := { stood := { row := aeadOpensUptoRow, standIns := [], harness := (true, "033f18d3db4e31063b0d6bbf359980d9cfceea9715b5cd2acb7891eef10a5393"), looks := true }, kinds := [], alts := [], laidByText := true, laidKinds := [.data, .data, .sentinel, .sentinel, .sentinel, .sentinel, .data, .data, .data, .data, .data, .widerDeep, .data, .data, .widerDeep], laidTests := true, laidLooks := .later }
def AeadOpensUptoCardSaid : Prop := Claim7.holds Tryz.pinned (.plain (OpenSpec.upto aeadOpensSpec)) aeadOpensUptoCard
end Rows
end Go.Proofs.YticicdfijghigaaGreatDoor
