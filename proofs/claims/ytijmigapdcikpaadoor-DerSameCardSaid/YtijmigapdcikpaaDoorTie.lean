/-
  DERIVED. GIVEN WITH THE SEED: THE PROGRAM's TIES (one call each: nine closed facts by the kernel) AND EACH ROW's TIE, after the 31st guide's Derived/Test/Toyas{Tie, Card}.lean. No idea stands in it: it is a product of the set-up. Laid BY PROGRAM, IN A SANDBOX (cutbox-door.mjs). By AI agents, Wed Nov 11 2026. No macro, syntax, notation, axiom, sorry.
-/
import Derived.Test.YtijmigapdcikpaaDoorRows
import Derived.LaidByTextLater
import Derived.SevenTiedAt
import Derived.LaidSub
import Derived.LaidOnce
namespace Go.Proofs.YtijmigapdcikpaaDoor
open Go
set_option maxRecDepth 100000
theorem seatTie1 : Tryd.prog.laidByTextLater [("errors.errorType", Rows.laid_errors_errorType), ("pyx/lms.heights", Rows.laid_pyx_lms_heights), ("pyx/lms.chains", Rows.laid_pyx_lms_chains)] [.handle, .data, .data] true :=
  Program.laidByTextLater_by_one 26 8 6 (by kernel_rfl) (by kernel_rfl) (by kernel_rfl) (by kernel_rfl) (by kernel_rfl) (by kernel_rfl) (fun _ _ => by kernel_rfl)
theorem noOwnUnsafe : Tryd.pinned.checked.prog.headLifts.contains "ownunsafe" = false := by kernel_rfl
theorem tie : Tryd.prog.laidByTextLater [("errors.errorType", Rows.laid_errors_errorType)] [.handle] true :=
  Program.laidByTextLater.sub seatTie1 ["errors.errorType"] (by kernel_rfl) (by kernel_rfl)
theorem derMatchesReference_row_tie : Rows.derMatchesReferenceRow.laidByTextAt .later Tryd.pinned [.handle] true :=
  OpenClaim.laidByTextAt_later rfl rfl tie noOwnUnsafe
theorem derSame_row_tie : Rows.derSameRow.laidByTextAt .later Tryd.pinned [.handle] true :=
  OpenClaim.laidByTextAt_later rfl rfl tie noOwnUnsafe
theorem derLimits_row_tie : Rows.derLimitsRow.laidByTextAt .later Tryd.pinned [.handle] true :=
  OpenClaim.laidByTextAt_later rfl rfl tie noOwnUnsafe
theorem derDeep_row_tie : Rows.derDeepRow.laidByTextAt .later Tryd.pinned [.handle] true :=
  OpenClaim.laidByTextAt_later rfl rfl tie noOwnUnsafe
theorem tie2 : Tryd.prog.laidByTextLater [("errors.errorType", Rows.laid_errors_errorType), ("pyx/lms.heights", Rows.laid_pyx_lms_heights), ("pyx/lms.chains", Rows.laid_pyx_lms_chains)] [.handle, .data, .data] true :=
  Program.laidByTextLater.sub seatTie1 ["errors.errorType", "pyx/lms.heights", "pyx/lms.chains"] (by kernel_rfl) (by kernel_rfl)
theorem lmsParts_row_tie : Rows.lmsPartsRow.laidByTextAt .later Tryd.pinned [.handle, .data, .data] true :=
  OpenClaim.laidByTextAt_later rfl rfl tie2 noOwnUnsafe
theorem lmsSizes_row_tie : Rows.lmsSizesRow.laidByTextAt .later Tryd.pinned [.handle, .data, .data] true :=
  OpenClaim.laidByTextAt_later rfl rfl tie2 noOwnUnsafe
theorem lmsMakes_row_tie : Rows.lmsMakesRow.laidByTextAt .later Tryd.pinned [.handle, .data, .data] true :=
  OpenClaim.laidByTextAt_later rfl rfl tie2 noOwnUnsafe
theorem lmsCuts_row_tie : Rows.lmsCutsRow.laidByTextAt .later Tryd.pinned [.handle, .data, .data] true :=
  OpenClaim.laidByTextAt_later rfl rfl tie2 noOwnUnsafe
theorem derMatchesReferenceUpto_row_tie : Rows.derMatchesReferenceUptoRow.laidByTextAt .later Tryd.pinned [.handle] true :=
  OpenClaim.laidByTextAt_later rfl rfl tie noOwnUnsafe
theorem derSameUpto_row_tie : Rows.derSameUptoRow.laidByTextAt .later Tryd.pinned [.handle] true :=
  OpenClaim.laidByTextAt_later rfl rfl tie noOwnUnsafe
theorem derLimitsUpto_row_tie : Rows.derLimitsUptoRow.laidByTextAt .later Tryd.pinned [.handle] true :=
  OpenClaim.laidByTextAt_later rfl rfl tie noOwnUnsafe
theorem derDeepUpto_row_tie : Rows.derDeepUptoRow.laidByTextAt .later Tryd.pinned [.handle] true :=
  OpenClaim.laidByTextAt_later rfl rfl tie noOwnUnsafe
theorem lmsPartsUpto_row_tie : Rows.lmsPartsUptoRow.laidByTextAt .later Tryd.pinned [.handle, .data, .data] true :=
  OpenClaim.laidByTextAt_later rfl rfl tie2 noOwnUnsafe
theorem lmsSizesUpto_row_tie : Rows.lmsSizesUptoRow.laidByTextAt .later Tryd.pinned [.handle, .data, .data] true :=
  OpenClaim.laidByTextAt_later rfl rfl tie2 noOwnUnsafe
theorem lmsMakesUpto_row_tie : Rows.lmsMakesUptoRow.laidByTextAt .later Tryd.pinned [.handle, .data, .data] true :=
  OpenClaim.laidByTextAt_later rfl rfl tie2 noOwnUnsafe
theorem lmsCutsUpto_row_tie : Rows.lmsCutsUptoRow.laidByTextAt .later Tryd.pinned [.handle, .data, .data] true :=
  OpenClaim.laidByTextAt_later rfl rfl tie2 noOwnUnsafe
end Go.Proofs.YtijmigapdcikpaaDoor
