/-
  DERIVED. GIVEN WITH THE SEED: THE PROGRAM's TIES (one call each: nine closed facts by the kernel) AND EACH ROW's TIE, after the 31st guide's Derived/Test/Toyas{Tie, Card}.lean. No idea stands in it: it is a product of the set-up. Laid BY PROGRAM, IN A SANDBOX (cutbox-door.mjs). By AI agents, Wed Nov 11 2026. No macro, syntax, notation, axiom, sorry.
-/
import Derived.Test.YtnhelcmddjbafaaGreatDoorRows
import Derived.LaidByTextLater
import Derived.SevenTiedAt
import Derived.LaidSub
import Derived.LaidOnce
namespace Go.Proofs.YtnhelcmddjbafaaGreatDoor
open Go
set_option maxRecDepth 100000
theorem seatTie1 : Tryz.prog.laidByTextLater [("math/bits.deBruijn32tab", Rows.laid_math_bits_deBruijn32tab), ("math/bits.deBruijn64tab", Rows.laid_math_bits_deBruijn64tab), ("internal/strconv.uint64pow10", Rows.laid_internal_strconv_uint64pow10), ("unicode.White_Space", Rows.laid_unicode_White_Space), ("strings.asciiSpace", Rows.laid_strings_asciiSpace), ("baize/code.operations", Rows.laid_baize_code_operations), ("baize/sorts.stmtParts", Rows.laid_baize_sorts_stmtParts), ("baize/sorts.exprParts", Rows.laid_baize_sorts_exprParts)] [.data, .data, .data, .listed, .data, .data, .data, .data] true :=
  Program.laidByTextLater_by_one 85 8 257 (by kernel_rfl) (by kernel_rfl) (by kernel_rfl) (by kernel_rfl) (by kernel_rfl) (by kernel_rfl) (fun _ _ => by kernel_rfl)
theorem noOwnUnsafe : Tryz.pinned.checked.prog.headLifts.contains "ownunsafe" = false := by kernel_rfl
theorem tie : Tryz.prog.laidByTextLater [("math/bits.deBruijn32tab", Rows.laid_math_bits_deBruijn32tab), ("math/bits.deBruijn64tab", Rows.laid_math_bits_deBruijn64tab), ("internal/strconv.uint64pow10", Rows.laid_internal_strconv_uint64pow10), ("unicode.White_Space", Rows.laid_unicode_White_Space), ("strings.asciiSpace", Rows.laid_strings_asciiSpace), ("baize/code.operations", Rows.laid_baize_code_operations), ("baize/sorts.stmtParts", Rows.laid_baize_sorts_stmtParts), ("baize/sorts.exprParts", Rows.laid_baize_sorts_exprParts)] [.data, .data, .data, .listed, .data, .data, .data, .data] true :=
  Program.laidByTextLater.sub seatTie1 ["math/bits.deBruijn32tab", "math/bits.deBruijn64tab", "internal/strconv.uint64pow10", "unicode.White_Space", "strings.asciiSpace", "baize/code.operations", "baize/sorts.stmtParts", "baize/sorts.exprParts"] (by kernel_rfl) (by kernel_rfl)
theorem trialMiddles_row_tie : Rows.trialMiddlesRow.laidByTextAt .later Tryz.pinned [.data, .data, .data, .listed, .data, .data, .data, .data] true :=
  OpenClaim.laidByTextAt_later rfl rfl tie noOwnUnsafe
theorem trialHonest_row_tie : Rows.trialHonestRow.laidByTextAt .later Tryz.pinned [.data, .data, .data, .listed, .data, .data, .data, .data] true :=
  OpenClaim.laidByTextAt_later rfl rfl tie noOwnUnsafe
theorem trialSilent_row_tie : Rows.trialSilentRow.laidByTextAt .later Tryz.pinned [.data, .data, .data, .listed, .data, .data, .data, .data] true :=
  OpenClaim.laidByTextAt_later rfl rfl tie noOwnUnsafe
theorem trialNews_row_tie : Rows.trialNewsRow.laidByTextAt .later Tryz.pinned [.data, .data, .data, .listed, .data, .data, .data, .data] true :=
  OpenClaim.laidByTextAt_later rfl rfl tie noOwnUnsafe
theorem trialClones_row_tie : Rows.trialClonesRow.laidByTextAt .later Tryz.pinned [.data, .data, .data, .listed, .data, .data, .data, .data] true :=
  OpenClaim.laidByTextAt_later rfl rfl tie noOwnUnsafe
theorem trialPacks_row_tie : Rows.trialPacksRow.laidByTextAt .later Tryz.pinned [.data, .data, .data, .listed, .data, .data, .data, .data] true :=
  OpenClaim.laidByTextAt_later rfl rfl tie noOwnUnsafe
theorem trialMiddlesUpto_row_tie : Rows.trialMiddlesUptoRow.laidByTextAt .later Tryz.pinned [.data, .data, .data, .listed, .data, .data, .data, .data] true :=
  OpenClaim.laidByTextAt_later rfl rfl tie noOwnUnsafe
theorem trialHonestUpto_row_tie : Rows.trialHonestUptoRow.laidByTextAt .later Tryz.pinned [.data, .data, .data, .listed, .data, .data, .data, .data] true :=
  OpenClaim.laidByTextAt_later rfl rfl tie noOwnUnsafe
theorem trialSilentUpto_row_tie : Rows.trialSilentUptoRow.laidByTextAt .later Tryz.pinned [.data, .data, .data, .listed, .data, .data, .data, .data] true :=
  OpenClaim.laidByTextAt_later rfl rfl tie noOwnUnsafe
theorem trialNewsUpto_row_tie : Rows.trialNewsUptoRow.laidByTextAt .later Tryz.pinned [.data, .data, .data, .listed, .data, .data, .data, .data] true :=
  OpenClaim.laidByTextAt_later rfl rfl tie noOwnUnsafe
theorem trialClonesUpto_row_tie : Rows.trialClonesUptoRow.laidByTextAt .later Tryz.pinned [.data, .data, .data, .listed, .data, .data, .data, .data] true :=
  OpenClaim.laidByTextAt_later rfl rfl tie noOwnUnsafe
theorem trialPacksUpto_row_tie : Rows.trialPacksUptoRow.laidByTextAt .later Tryz.pinned [.data, .data, .data, .listed, .data, .data, .data, .data] true :=
  OpenClaim.laidByTextAt_later rfl rfl tie noOwnUnsafe
end Go.Proofs.YtnhelcmddjbafaaGreatDoor
