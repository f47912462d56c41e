/-
  DERIVED. GIVEN WITH THE SEED: THE PROGRAM's TIES (one call each: nine closed facts by the kernel) AND EACH ROW's TIE, after the 31st guide's Derived/Test/Toyas{Tie, Card}.lean. No idea stands in it: it is a product of the set-up. Laid BY PROGRAM, IN A SANDBOX (cutbox-door.mjs). By AI agents, Wed Nov 11 2026. No macro, syntax, notation, axiom, sorry.
-/
import Derived.Test.YticicdfijghigaaGreatDoorRows
import Derived.LaidByTextLater
import Derived.SevenTiedAt
import Derived.LaidSub
import Derived.LaidOnce
namespace Go.Proofs.YticicdfijghigaaGreatDoor
open Go
set_option maxRecDepth 100000
theorem seatTie1 : Tryz.prog.laidByTextLater [("math/bits.deBruijn32tab", Rows.laid_math_bits_deBruijn32tab), ("math/bits.deBruijn64tab", Rows.laid_math_bits_deBruijn64tab), ("pintle/api.ErrArg", Rows.laid_pintle_api_ErrArg), ("pintle/api.ErrRoom", Rows.laid_pintle_api_ErrRoom), ("pintle/api.ErrShort", Rows.laid_pintle_api_ErrShort), ("pintle/api.ErrAuth", Rows.laid_pintle_api_ErrAuth), ("math/big.leafSize", Rows.laid_math_big_leafSize), ("math/big.divRecursiveThreshold", Rows.laid_math_big_divRecursiveThreshold), ("math/big.karatsubaThreshold", Rows.laid_math_big_karatsubaThreshold), ("math/big.basicSqrThreshold", Rows.laid_math_big_basicSqrThreshold), ("math/big.karatsubaSqrThreshold", Rows.laid_math_big_karatsubaSqrThreshold), ("pintle/slow.begin", Rows.laid_pintle_slow_begin), ("pintle/slow.rows", Rows.laid_pintle_slow_rows), ("pintle/slow.orders", Rows.laid_pintle_slow_orders), ("pintle/slow.initial", Rows.laid_pintle_slow_initial)] [.data, .data, .sentinel, .sentinel, .sentinel, .sentinel, .data, .data, .data, .data, .data, .widerDeep, .data, .data, .widerDeep] true :=
  Program.laidByTextLater_by_one 153 8 161 (by kernel_rfl) (by kernel_rfl) (by kernel_rfl) (by kernel_rfl) (by kernel_rfl) (by kernel_rfl) (fun _ _ => by kernel_rfl)
theorem noOwnUnsafe : Tryz.pinned.checked.prog.headLifts.contains "ownunsafe" = false := by kernel_rfl
theorem tie : Tryz.prog.laidByTextLater [("math/bits.deBruijn32tab", Rows.laid_math_bits_deBruijn32tab), ("math/bits.deBruijn64tab", Rows.laid_math_bits_deBruijn64tab), ("pintle/api.ErrArg", Rows.laid_pintle_api_ErrArg), ("pintle/api.ErrRoom", Rows.laid_pintle_api_ErrRoom), ("pintle/api.ErrShort", Rows.laid_pintle_api_ErrShort), ("pintle/api.ErrAuth", Rows.laid_pintle_api_ErrAuth), ("math/big.leafSize", Rows.laid_math_big_leafSize), ("math/big.divRecursiveThreshold", Rows.laid_math_big_divRecursiveThreshold), ("math/big.karatsubaThreshold", Rows.laid_math_big_karatsubaThreshold), ("math/big.basicSqrThreshold", Rows.laid_math_big_basicSqrThreshold), ("math/big.karatsubaSqrThreshold", Rows.laid_math_big_karatsubaSqrThreshold), ("pintle/slow.begin", Rows.laid_pintle_slow_begin), ("pintle/slow.rows", Rows.laid_pintle_slow_rows), ("pintle/slow.orders", Rows.laid_pintle_slow_orders), ("pintle/slow.initial", Rows.laid_pintle_slow_initial)] [.data, .data, .sentinel, .sentinel, .sentinel, .sentinel, .data, .data, .data, .data, .data, .widerDeep, .data, .data, .widerDeep] true :=
  Program.laidByTextLater.sub seatTie1 ["math/bits.deBruijn32tab", "math/bits.deBruijn64tab", "pintle/api.ErrArg", "pintle/api.ErrRoom", "pintle/api.ErrShort", "pintle/api.ErrAuth", "math/big.leafSize", "math/big.divRecursiveThreshold", "math/big.karatsubaThreshold", "math/big.basicSqrThreshold", "math/big.karatsubaSqrThreshold", "pintle/slow.begin", "pintle/slow.rows", "pintle/slow.orders", "pintle/slow.initial"] (by kernel_rfl) (by kernel_rfl)
theorem aeadBack_row_tie : Rows.aeadBackRow.laidByTextAt .later Tryz.pinned [.data, .data, .sentinel, .sentinel, .sentinel, .sentinel, .data, .data, .data, .data, .data, .widerDeep, .data, .data, .widerDeep] true :=
  OpenClaim.laidByTextAt_later rfl rfl tie noOwnUnsafe
theorem aeadTwins_row_tie : Rows.aeadTwinsRow.laidByTextAt .later Tryz.pinned [.data, .data, .sentinel, .sentinel, .sentinel, .sentinel, .data, .data, .data, .data, .data, .widerDeep, .data, .data, .widerDeep] true :=
  OpenClaim.laidByTextAt_later rfl rfl tie noOwnUnsafe
theorem aeadTurned_row_tie : Rows.aeadTurnedRow.laidByTextAt .later Tryz.pinned [.data, .data, .sentinel, .sentinel, .sentinel, .sentinel, .data, .data, .data, .data, .data, .widerDeep, .data, .data, .widerDeep] true :=
  OpenClaim.laidByTextAt_later rfl rfl tie noOwnUnsafe
theorem aeadSeals_row_tie : Rows.aeadSealsRow.laidByTextAt .later Tryz.pinned [.data, .data, .sentinel, .sentinel, .sentinel, .sentinel, .data, .data, .data, .data, .data, .widerDeep, .data, .data, .widerDeep] true :=
  OpenClaim.laidByTextAt_later rfl rfl tie noOwnUnsafe
theorem aeadOpens_row_tie : Rows.aeadOpensRow.laidByTextAt .later Tryz.pinned [.data, .data, .sentinel, .sentinel, .sentinel, .sentinel, .data, .data, .data, .data, .data, .widerDeep, .data, .data, .widerDeep] true :=
  OpenClaim.laidByTextAt_later rfl rfl tie noOwnUnsafe
theorem aeadBackUpto_row_tie : Rows.aeadBackUptoRow.laidByTextAt .later Tryz.pinned [.data, .data, .sentinel, .sentinel, .sentinel, .sentinel, .data, .data, .data, .data, .data, .widerDeep, .data, .data, .widerDeep] true :=
  OpenClaim.laidByTextAt_later rfl rfl tie noOwnUnsafe
theorem aeadTwinsUpto_row_tie : Rows.aeadTwinsUptoRow.laidByTextAt .later Tryz.pinned [.data, .data, .sentinel, .sentinel, .sentinel, .sentinel, .data, .data, .data, .data, .data, .widerDeep, .data, .data, .widerDeep] true :=
  OpenClaim.laidByTextAt_later rfl rfl tie noOwnUnsafe
theorem aeadTurnedUpto_row_tie : Rows.aeadTurnedUptoRow.laidByTextAt .later Tryz.pinned [.data, .data, .sentinel, .sentinel, .sentinel, .sentinel, .data, .data, .data, .data, .data, .widerDeep, .data, .data, .widerDeep] true :=
  OpenClaim.laidByTextAt_later rfl rfl tie noOwnUnsafe
theorem aeadSealsUpto_row_tie : Rows.aeadSealsUptoRow.laidByTextAt .later Tryz.pinned [.data, .data, .sentinel, .sentinel, .sentinel, .sentinel, .data, .data, .data, .data, .data, .widerDeep, .data, .data, .widerDeep] true :=
  OpenClaim.laidByTextAt_later rfl rfl tie noOwnUnsafe
theorem aeadOpensUpto_row_tie : Rows.aeadOpensUptoRow.laidByTextAt .later Tryz.pinned [.data, .data, .sentinel, .sentinel, .sentinel, .sentinel, .data, .data, .data, .data, .data, .widerDeep, .data, .data, .widerDeep] true :=
  OpenClaim.laidByTextAt_later rfl rfl tie noOwnUnsafe
end Go.Proofs.YticicdfijghigaaGreatDoor
