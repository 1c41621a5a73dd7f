/-
  DERIVED. GIVEN WITH THE SEED: THE PROGRAM's TIES (one call each: nine closed facts by the kernel) AND EACH ROW's TIE, after the 31st guide's Derived/Test/Toyas{Tie, Card}.lean. No idea stands in it: it is a product of the set-up. Laid BY PROGRAM, IN A SANDBOX (cutbox-door.mjs). By AI agents, Wed Nov 11 2026. No macro, syntax, notation, axiom, sorry.
-/
import Derived.Test.YtmmonhgfnmeieaaGreatDoorRows
import Derived.LaidByTextLater
import Derived.SevenTiedAt
import Derived.LaidSub
import Derived.LaidOnce
namespace Go.Proofs.YtmmonhgfnmeieaaGreatDoor
open Go
set_option maxRecDepth 100000
theorem seatTie1 : Tryz.prog.laidByTextLater [("errors.errorType", Rows.laid_errors_errorType), ("tapewright/rat.errForm", Rows.laid_tapewright_rat_errForm), ("tapewright/rat.errZero", Rows.laid_tapewright_rat_errZero)] [.handle, .sentinel, .sentinel] true :=
  Program.laidByTextLater_by_one 54 8 2 (by kernel_rfl) (by kernel_rfl) (by kernel_rfl) (by kernel_rfl) (by kernel_rfl) (by kernel_rfl) (fun _ _ => by kernel_rfl)
theorem noOwnUnsafe : Tryz.pinned.checked.prog.headLifts.contains "ownunsafe" = false := by kernel_rfl
theorem tie : Tryz.prog.laidByTextLater [("errors.errorType", Rows.laid_errors_errorType), ("tapewright/rat.errForm", Rows.laid_tapewright_rat_errForm), ("tapewright/rat.errZero", Rows.laid_tapewright_rat_errZero)] [.handle, .sentinel, .sentinel] true :=
  Program.laidByTextLater.sub seatTie1 ["errors.errorType", "tapewright/rat.errForm", "tapewright/rat.errZero"] (by kernel_rfl) (by kernel_rfl)
theorem arrayBack_row_tie : Rows.arrayBackRow.laidByTextAt .later Tryz.pinned [.handle, .sentinel, .sentinel] true :=
  OpenClaim.laidByTextAt_later rfl rfl tie noOwnUnsafe
theorem arrayProducts_row_tie : Rows.arrayProductsRow.laidByTextAt .later Tryz.pinned [.handle, .sentinel, .sentinel] true :=
  OpenClaim.laidByTextAt_later rfl rfl tie noOwnUnsafe
theorem arrayTurns_row_tie : Rows.arrayTurnsRow.laidByTextAt .later Tryz.pinned [.handle, .sentinel, .sentinel] true :=
  OpenClaim.laidByTextAt_later rfl rfl tie noOwnUnsafe
theorem arrayUnits_row_tie : Rows.arrayUnitsRow.laidByTextAt .later Tryz.pinned [.handle, .sentinel, .sentinel] true :=
  OpenClaim.laidByTextAt_later rfl rfl tie noOwnUnsafe
theorem arrayRows_row_tie : Rows.arrayRowsRow.laidByTextAt .later Tryz.pinned [.handle, .sentinel, .sentinel] true :=
  OpenClaim.laidByTextAt_later rfl rfl tie noOwnUnsafe
theorem arrayTotals_row_tie : Rows.arrayTotalsRow.laidByTextAt .later Tryz.pinned [.handle, .sentinel, .sentinel] true :=
  OpenClaim.laidByTextAt_later rfl rfl tie noOwnUnsafe
theorem arrayLinear_row_tie : Rows.arrayLinearRow.laidByTextAt .later Tryz.pinned [.handle, .sentinel, .sentinel] true :=
  OpenClaim.laidByTextAt_later rfl rfl tie noOwnUnsafe
theorem arrayScalars_row_tie : Rows.arrayScalarsRow.laidByTextAt .later Tryz.pinned [.handle, .sentinel, .sentinel] true :=
  OpenClaim.laidByTextAt_later rfl rfl tie noOwnUnsafe
theorem arrayShapes_row_tie : Rows.arrayShapesRow.laidByTextAt .later Tryz.pinned [.handle, .sentinel, .sentinel] true :=
  OpenClaim.laidByTextAt_later rfl rfl tie noOwnUnsafe
theorem arrayBackUpto_row_tie : Rows.arrayBackUptoRow.laidByTextAt .later Tryz.pinned [.handle, .sentinel, .sentinel] true :=
  OpenClaim.laidByTextAt_later rfl rfl tie noOwnUnsafe
theorem arrayProductsUpto_row_tie : Rows.arrayProductsUptoRow.laidByTextAt .later Tryz.pinned [.handle, .sentinel, .sentinel] true :=
  OpenClaim.laidByTextAt_later rfl rfl tie noOwnUnsafe
theorem arrayTurnsUpto_row_tie : Rows.arrayTurnsUptoRow.laidByTextAt .later Tryz.pinned [.handle, .sentinel, .sentinel] true :=
  OpenClaim.laidByTextAt_later rfl rfl tie noOwnUnsafe
theorem arrayUnitsUpto_row_tie : Rows.arrayUnitsUptoRow.laidByTextAt .later Tryz.pinned [.handle, .sentinel, .sentinel] true :=
  OpenClaim.laidByTextAt_later rfl rfl tie noOwnUnsafe
theorem arrayRowsUpto_row_tie : Rows.arrayRowsUptoRow.laidByTextAt .later Tryz.pinned [.handle, .sentinel, .sentinel] true :=
  OpenClaim.laidByTextAt_later rfl rfl tie noOwnUnsafe
theorem arrayTotalsUpto_row_tie : Rows.arrayTotalsUptoRow.laidByTextAt .later Tryz.pinned [.handle, .sentinel, .sentinel] true :=
  OpenClaim.laidByTextAt_later rfl rfl tie noOwnUnsafe
theorem arrayLinearUpto_row_tie : Rows.arrayLinearUptoRow.laidByTextAt .later Tryz.pinned [.handle, .sentinel, .sentinel] true :=
  OpenClaim.laidByTextAt_later rfl rfl tie noOwnUnsafe
theorem arrayScalarsUpto_row_tie : Rows.arrayScalarsUptoRow.laidByTextAt .later Tryz.pinned [.handle, .sentinel, .sentinel] true :=
  OpenClaim.laidByTextAt_later rfl rfl tie noOwnUnsafe
theorem arrayShapesUpto_row_tie : Rows.arrayShapesUptoRow.laidByTextAt .later Tryz.pinned [.handle, .sentinel, .sentinel] true :=
  OpenClaim.laidByTextAt_later rfl rfl tie noOwnUnsafe
end Go.Proofs.YtmmonhgfnmeieaaGreatDoor
