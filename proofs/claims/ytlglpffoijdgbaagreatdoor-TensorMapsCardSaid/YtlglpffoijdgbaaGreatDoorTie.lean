/-
  DERIVED. GIVEN WITH THE SEED: THE PROGRAM's TIES (one call each: nine closed facts by the kernel) AND EACH ROW's TIE, after the 31st guide's Derived/Test/Toyas{Tie, Card}.lean. No idea stands in it: it is a product of the set-up. Laid BY PROGRAM, IN A SANDBOX (cutbox-door.mjs). By AI agents, Wed Nov 11 2026. No macro, syntax, notation, axiom, sorry.
-/
import Derived.Test.YtlglpffoijdgbaaGreatDoorRows
import Derived.LaidByTextLater
import Derived.SevenTiedAt
import Derived.LaidSub
import Derived.LaidOnce
namespace Go.Proofs.YtlglpffoijdgbaaGreatDoor
open Go
set_option maxRecDepth 100000
theorem seatTie1 : Tryz.prog.laidByTextLater [("errors.errorType", Rows.laid_errors_errorType), ("tapewright/rat.errForm", Rows.laid_tapewright_rat_errForm), ("tapewright/rat.errZero", Rows.laid_tapewright_rat_errZero)] [.handle, .sentinel, .sentinel] true :=
  Program.laidByTextLater_by_one 54 8 2 (by kernel_rfl) (by kernel_rfl) (by kernel_rfl) (by kernel_rfl) (by kernel_rfl) (by kernel_rfl) (fun _ _ => by kernel_rfl)
theorem noOwnUnsafe : Tryz.pinned.checked.prog.headLifts.contains "ownunsafe" = false := by kernel_rfl
theorem tie : Tryz.prog.laidByTextLater [("errors.errorType", Rows.laid_errors_errorType), ("tapewright/rat.errForm", Rows.laid_tapewright_rat_errForm), ("tapewright/rat.errZero", Rows.laid_tapewright_rat_errZero)] [.handle, .sentinel, .sentinel] true :=
  Program.laidByTextLater.sub seatTie1 ["errors.errorType", "tapewright/rat.errForm", "tapewright/rat.errZero"] (by kernel_rfl) (by kernel_rfl)
theorem tensorZips_row_tie : Rows.tensorZipsRow.laidByTextAt .later Tryz.pinned [.handle, .sentinel, .sentinel] true :=
  OpenClaim.laidByTextAt_later rfl rfl tie noOwnUnsafe
theorem tensorTimes_row_tie : Rows.tensorTimesRow.laidByTextAt .later Tryz.pinned [.handle, .sentinel, .sentinel] true :=
  OpenClaim.laidByTextAt_later rfl rfl tie noOwnUnsafe
theorem tensorScales_row_tie : Rows.tensorScalesRow.laidByTextAt .later Tryz.pinned [.handle, .sentinel, .sentinel] true :=
  OpenClaim.laidByTextAt_later rfl rfl tie noOwnUnsafe
theorem tensorNone_row_tie : Rows.tensorNoneRow.laidByTextAt .later Tryz.pinned [.handle, .sentinel, .sentinel] true :=
  OpenClaim.laidByTextAt_later rfl rfl tie noOwnUnsafe
theorem tensorLaws_row_tie : Rows.tensorLawsRow.laidByTextAt .later Tryz.pinned [.handle, .sentinel, .sentinel] true :=
  OpenClaim.laidByTextAt_later rfl rfl tie noOwnUnsafe
theorem tensorSums_row_tie : Rows.tensorSumsRow.laidByTextAt .later Tryz.pinned [.handle, .sentinel, .sentinel] true :=
  OpenClaim.laidByTextAt_later rfl rfl tie noOwnUnsafe
theorem tensorShapes_row_tie : Rows.tensorShapesRow.laidByTextAt .later Tryz.pinned [.handle, .sentinel, .sentinel] true :=
  OpenClaim.laidByTextAt_later rfl rfl tie noOwnUnsafe
theorem tensorPowers_row_tie : Rows.tensorPowersRow.laidByTextAt .later Tryz.pinned [.handle, .sentinel, .sentinel] true :=
  OpenClaim.laidByTextAt_later rfl rfl tie noOwnUnsafe
theorem tensorMaps_row_tie : Rows.tensorMapsRow.laidByTextAt .later Tryz.pinned [.handle, .sentinel, .sentinel] true :=
  OpenClaim.laidByTextAt_later rfl rfl tie noOwnUnsafe
theorem tensorZipsUpto_row_tie : Rows.tensorZipsUptoRow.laidByTextAt .later Tryz.pinned [.handle, .sentinel, .sentinel] true :=
  OpenClaim.laidByTextAt_later rfl rfl tie noOwnUnsafe
theorem tensorTimesUpto_row_tie : Rows.tensorTimesUptoRow.laidByTextAt .later Tryz.pinned [.handle, .sentinel, .sentinel] true :=
  OpenClaim.laidByTextAt_later rfl rfl tie noOwnUnsafe
theorem tensorScalesUpto_row_tie : Rows.tensorScalesUptoRow.laidByTextAt .later Tryz.pinned [.handle, .sentinel, .sentinel] true :=
  OpenClaim.laidByTextAt_later rfl rfl tie noOwnUnsafe
theorem tensorNoneUpto_row_tie : Rows.tensorNoneUptoRow.laidByTextAt .later Tryz.pinned [.handle, .sentinel, .sentinel] true :=
  OpenClaim.laidByTextAt_later rfl rfl tie noOwnUnsafe
theorem tensorLawsUpto_row_tie : Rows.tensorLawsUptoRow.laidByTextAt .later Tryz.pinned [.handle, .sentinel, .sentinel] true :=
  OpenClaim.laidByTextAt_later rfl rfl tie noOwnUnsafe
theorem tensorSumsUpto_row_tie : Rows.tensorSumsUptoRow.laidByTextAt .later Tryz.pinned [.handle, .sentinel, .sentinel] true :=
  OpenClaim.laidByTextAt_later rfl rfl tie noOwnUnsafe
theorem tensorShapesUpto_row_tie : Rows.tensorShapesUptoRow.laidByTextAt .later Tryz.pinned [.handle, .sentinel, .sentinel] true :=
  OpenClaim.laidByTextAt_later rfl rfl tie noOwnUnsafe
theorem tensorPowersUpto_row_tie : Rows.tensorPowersUptoRow.laidByTextAt .later Tryz.pinned [.handle, .sentinel, .sentinel] true :=
  OpenClaim.laidByTextAt_later rfl rfl tie noOwnUnsafe
theorem tensorMapsUpto_row_tie : Rows.tensorMapsUptoRow.laidByTextAt .later Tryz.pinned [.handle, .sentinel, .sentinel] true :=
  OpenClaim.laidByTextAt_later rfl rfl tie noOwnUnsafe
end Go.Proofs.YtlglpffoijdgbaaGreatDoor
