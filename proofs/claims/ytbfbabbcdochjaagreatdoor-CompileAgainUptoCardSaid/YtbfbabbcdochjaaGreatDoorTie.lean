/-
  DERIVED. GIVEN WITH THE SEED: THE PROGRAM's TIES (one call each: nine closed facts by the kernel) AND EACH ROW's TIE, after the 31st guide's Derived/Test/Toyas{Tie, Card}.lean. No idea stands in it: it is a product of the set-up. Laid BY PROGRAM, IN A SANDBOX (cutbox-door.mjs). By AI agents, Wed Nov 11 2026. No macro, syntax, notation, axiom, sorry.
-/
import Derived.Test.YtbfbabbcdochjaaGreatDoorRows
import Derived.LaidByTextLater
import Derived.SevenTiedAt
import Derived.LaidSub
import Derived.LaidOnce
namespace Go.Proofs.YtbfbabbcdochjaaGreatDoor
open Go
set_option maxRecDepth 100000
theorem seatTie1 : Tryz.prog.laidByTextLater [("unicode.White_Space", Rows.laid_unicode_White_Space), ("strings.asciiSpace", Rows.laid_strings_asciiSpace), ("baize/code.operations", Rows.laid_baize_code_operations), ("baize/sorts.stmtParts", Rows.laid_baize_sorts_stmtParts), ("baize/sorts.exprParts", Rows.laid_baize_sorts_exprParts)] [.listed, .data, .data, .data, .data] true :=
  Program.laidByTextLater_by_one 70 8 257 (by kernel_rfl) (by kernel_rfl) (by kernel_rfl) (by kernel_rfl) (by kernel_rfl) (by kernel_rfl) (fun _ _ => by kernel_rfl)
theorem noOwnUnsafe : Tryz.pinned.checked.prog.headLifts.contains "ownunsafe" = false := by kernel_rfl
theorem tie : Tryz.prog.laidByTextLater [("unicode.White_Space", Rows.laid_unicode_White_Space), ("strings.asciiSpace", Rows.laid_strings_asciiSpace), ("baize/code.operations", Rows.laid_baize_code_operations), ("baize/sorts.stmtParts", Rows.laid_baize_sorts_stmtParts), ("baize/sorts.exprParts", Rows.laid_baize_sorts_exprParts)] [.listed, .data, .data, .data, .data] true :=
  Program.laidByTextLater.sub seatTie1 ["unicode.White_Space", "strings.asciiSpace", "baize/code.operations", "baize/sorts.stmtParts", "baize/sorts.exprParts"] (by kernel_rfl) (by kernel_rfl)
theorem compileMeans_row_tie : Rows.compileMeansRow.laidByTextAt .later Tryz.pinned [.listed, .data, .data, .data, .data] true :=
  OpenClaim.laidByTextAt_later rfl rfl tie noOwnUnsafe
theorem compileWrong_row_tie : Rows.compileWrongRow.laidByTextAt .later Tryz.pinned [.listed, .data, .data, .data, .data] true :=
  OpenClaim.laidByTextAt_later rfl rfl tie noOwnUnsafe
theorem compileWhich_row_tie : Rows.compileWhichRow.laidByTextAt .later Tryz.pinned [.listed, .data, .data, .data, .data] true :=
  OpenClaim.laidByTextAt_later rfl rfl tie noOwnUnsafe
theorem compileRanges_row_tie : Rows.compileRangesRow.laidByTextAt .later Tryz.pinned [.listed, .data, .data, .data, .data] true :=
  OpenClaim.laidByTextAt_later rfl rfl tie noOwnUnsafe
theorem compilePays_row_tie : Rows.compilePaysRow.laidByTextAt .later Tryz.pinned [.listed, .data, .data, .data, .data] true :=
  OpenClaim.laidByTextAt_later rfl rfl tie noOwnUnsafe
theorem compileSteps_row_tie : Rows.compileStepsRow.laidByTextAt .later Tryz.pinned [.listed, .data, .data, .data, .data] true :=
  OpenClaim.laidByTextAt_later rfl rfl tie noOwnUnsafe
theorem compileAgain_row_tie : Rows.compileAgainRow.laidByTextAt .later Tryz.pinned [.listed, .data, .data, .data, .data] true :=
  OpenClaim.laidByTextAt_later rfl rfl tie noOwnUnsafe
theorem compileStates_row_tie : Rows.compileStatesRow.laidByTextAt .later Tryz.pinned [.listed, .data, .data, .data, .data] true :=
  OpenClaim.laidByTextAt_later rfl rfl tie noOwnUnsafe
theorem compileMeansUpto_row_tie : Rows.compileMeansUptoRow.laidByTextAt .later Tryz.pinned [.listed, .data, .data, .data, .data] true :=
  OpenClaim.laidByTextAt_later rfl rfl tie noOwnUnsafe
theorem compileWrongUpto_row_tie : Rows.compileWrongUptoRow.laidByTextAt .later Tryz.pinned [.listed, .data, .data, .data, .data] true :=
  OpenClaim.laidByTextAt_later rfl rfl tie noOwnUnsafe
theorem compileWhichUpto_row_tie : Rows.compileWhichUptoRow.laidByTextAt .later Tryz.pinned [.listed, .data, .data, .data, .data] true :=
  OpenClaim.laidByTextAt_later rfl rfl tie noOwnUnsafe
theorem compileRangesUpto_row_tie : Rows.compileRangesUptoRow.laidByTextAt .later Tryz.pinned [.listed, .data, .data, .data, .data] true :=
  OpenClaim.laidByTextAt_later rfl rfl tie noOwnUnsafe
theorem compilePaysUpto_row_tie : Rows.compilePaysUptoRow.laidByTextAt .later Tryz.pinned [.listed, .data, .data, .data, .data] true :=
  OpenClaim.laidByTextAt_later rfl rfl tie noOwnUnsafe
theorem compileStepsUpto_row_tie : Rows.compileStepsUptoRow.laidByTextAt .later Tryz.pinned [.listed, .data, .data, .data, .data] true :=
  OpenClaim.laidByTextAt_later rfl rfl tie noOwnUnsafe
theorem compileAgainUpto_row_tie : Rows.compileAgainUptoRow.laidByTextAt .later Tryz.pinned [.listed, .data, .data, .data, .data] true :=
  OpenClaim.laidByTextAt_later rfl rfl tie noOwnUnsafe
theorem compileStatesUpto_row_tie : Rows.compileStatesUptoRow.laidByTextAt .later Tryz.pinned [.listed, .data, .data, .data, .data] true :=
  OpenClaim.laidByTextAt_later rfl rfl tie noOwnUnsafe
end Go.Proofs.YtbfbabbcdochjaaGreatDoor
