/-
  DERIVED. GIVEN WITH THE SEED: THE PROGRAM's TIES (one call each: nine closed facts by the kernel) AND EACH ROW's TIE, after the 31st guide's Derived/Test/Toyas{Tie, Card}.lean. No idea stands in it: it is a product of the set-up. Laid BY PROGRAM, IN A SANDBOX (cutbox-door.mjs). By AI agents, Wed Nov 11 2026. No macro, syntax, notation, axiom, sorry.
-/
import Derived.Test.YtkjnkkmokojnpaaGreatDoorRows
import Derived.LaidByTextLater
import Derived.SevenTiedAt
import Derived.LaidSub
import Derived.LaidOnce
namespace Go.Proofs.YtkjnkkmokojnpaaGreatDoor
open Go
set_option maxRecDepth 100000
theorem seatTie1 : Tryz.prog.laidByTextLater [("math/bits.deBruijn32tab", Rows.laid_math_bits_deBruijn32tab), ("math/bits.deBruijn64tab", Rows.laid_math_bits_deBruijn64tab), ("internal/strconv.uint64pow10", Rows.laid_internal_strconv_uint64pow10), ("errors.errorType", Rows.laid_errors_errorType), ("trammel/scan.keys", Rows.laid_trammel_scan_keys), ("trammel/scan.operations", Rows.laid_trammel_scan_operations)] [.data, .data, .data, .handle, .widerDeep, .data] true :=
  Program.laidByTextLater_by_one 41 8 65 (by kernel_rfl) (by kernel_rfl) (by kernel_rfl) (by kernel_rfl) (by kernel_rfl) (by kernel_rfl) (fun _ _ => by kernel_rfl)
theorem noOwnUnsafe : Tryz.pinned.checked.prog.headLifts.contains "ownunsafe" = false := by kernel_rfl
theorem tie : Tryz.prog.laidByTextLater [("errors.errorType", Rows.laid_errors_errorType), ("trammel/scan.keys", Rows.laid_trammel_scan_keys)] [.handle, .widerDeep] true :=
  Program.laidByTextLater.sub seatTie1 ["errors.errorType", "trammel/scan.keys"] (by kernel_rfl) (by kernel_rfl)
theorem namesCheck_row_tie : Rows.namesCheckRow.laidByTextAt .later Tryz.pinned [.handle, .widerDeep] true :=
  OpenClaim.laidByTextAt_later rfl rfl tie noOwnUnsafe
theorem namesStays_row_tie : Rows.namesStaysRow.laidByTextAt .later Tryz.pinned [.handle, .widerDeep] true :=
  OpenClaim.laidByTextAt_later rfl rfl tie noOwnUnsafe
theorem tie2 : Tryz.prog.laidByTextLater [("math/bits.deBruijn32tab", Rows.laid_math_bits_deBruijn32tab), ("math/bits.deBruijn64tab", Rows.laid_math_bits_deBruijn64tab), ("internal/strconv.uint64pow10", Rows.laid_internal_strconv_uint64pow10), ("trammel/scan.keys", Rows.laid_trammel_scan_keys), ("trammel/scan.operations", Rows.laid_trammel_scan_operations)] [.data, .data, .data, .widerDeep, .data] true :=
  Program.laidByTextLater.sub seatTie1 ["math/bits.deBruijn32tab", "math/bits.deBruijn64tab", "internal/strconv.uint64pow10", "trammel/scan.keys", "trammel/scan.operations"] (by kernel_rfl) (by kernel_rfl)
theorem showTexts_row_tie : Rows.showTextsRow.laidByTextAt .later Tryz.pinned [.data, .data, .data, .widerDeep, .data] true :=
  OpenClaim.laidByTextAt_later rfl rfl tie2 noOwnUnsafe
theorem showBack_row_tie : Rows.showBackRow.laidByTextAt .later Tryz.pinned [.data, .data, .data, .widerDeep, .data] true :=
  OpenClaim.laidByTextAt_later rfl rfl tie2 noOwnUnsafe
theorem showStays_row_tie : Rows.showStaysRow.laidByTextAt .later Tryz.pinned [.data, .data, .data, .widerDeep, .data] true :=
  OpenClaim.laidByTextAt_later rfl rfl tie2 noOwnUnsafe
theorem namesCheckUpto_row_tie : Rows.namesCheckUptoRow.laidByTextAt .later Tryz.pinned [.handle, .widerDeep] true :=
  OpenClaim.laidByTextAt_later rfl rfl tie noOwnUnsafe
theorem namesStaysUpto_row_tie : Rows.namesStaysUptoRow.laidByTextAt .later Tryz.pinned [.handle, .widerDeep] true :=
  OpenClaim.laidByTextAt_later rfl rfl tie noOwnUnsafe
theorem showTextsUpto_row_tie : Rows.showTextsUptoRow.laidByTextAt .later Tryz.pinned [.data, .data, .data, .widerDeep, .data] true :=
  OpenClaim.laidByTextAt_later rfl rfl tie2 noOwnUnsafe
theorem showBackUpto_row_tie : Rows.showBackUptoRow.laidByTextAt .later Tryz.pinned [.data, .data, .data, .widerDeep, .data] true :=
  OpenClaim.laidByTextAt_later rfl rfl tie2 noOwnUnsafe
theorem showStaysUpto_row_tie : Rows.showStaysUptoRow.laidByTextAt .later Tryz.pinned [.data, .data, .data, .widerDeep, .data] true :=
  OpenClaim.laidByTextAt_later rfl rfl tie2 noOwnUnsafe
end Go.Proofs.YtkjnkkmokojnpaaGreatDoor
