/-
  DERIVED. GIVEN WITH THE SEED: THE PROGRAM's TIES (one call each: nine closed facts by the kernel) AND EACH ROW's TIE, after the 31st guide's Derived/Test/Toyas{Tie, Card}.lean. No idea stands in it: it is a product of the set-up. Laid BY PROGRAM, IN A SANDBOX (cutbox-door.mjs). By AI agents, Wed Nov 11 2026. No macro, syntax, notation, axiom, sorry.
-/
import Derived.Test.YtfamkemdgbnegaaDoorRows
import Derived.LaidByTextLater
import Derived.SevenTiedAt
import Derived.LaidSub
import Derived.LaidOnce
namespace Go.Proofs.YtfamkemdgbnegaaDoor
open Go
set_option maxRecDepth 100000
theorem seatTie1 : Tryd.prog.laidByTextLater [("unicode.White_Space", Rows.laid_unicode_White_Space), ("strings.asciiSpace", Rows.laid_strings_asciiSpace), ("baize/sorts.stmtParts", Rows.laid_baize_sorts_stmtParts), ("baize/sorts.exprParts", Rows.laid_baize_sorts_exprParts)] [.listed, .data, .data, .data] true :=
  Program.laidByTextLater_by_one 43 8 257 (by kernel_rfl) (by kernel_rfl) (by kernel_rfl) (by kernel_rfl) (by kernel_rfl) (by kernel_rfl) (fun _ _ => by kernel_rfl)
theorem noOwnUnsafe : Tryd.pinned.checked.prog.headLifts.contains "ownunsafe" = false := by kernel_rfl
theorem tie : Tryd.prog.laidByTextLater [("unicode.White_Space", Rows.laid_unicode_White_Space), ("strings.asciiSpace", Rows.laid_strings_asciiSpace), ("baize/sorts.stmtParts", Rows.laid_baize_sorts_stmtParts), ("baize/sorts.exprParts", Rows.laid_baize_sorts_exprParts)] [.listed, .data, .data, .data] true :=
  Program.laidByTextLater.sub seatTie1 ["unicode.White_Space", "strings.asciiSpace", "baize/sorts.stmtParts", "baize/sorts.exprParts"] (by kernel_rfl) (by kernel_rfl)
theorem sortsPlaces_row_tie : Rows.sortsPlacesRow.laidByTextAt .later Tryd.pinned [.listed, .data, .data, .data] true :=
  OpenClaim.laidByTextAt_later rfl rfl tie noOwnUnsafe
theorem sortsUnknown_row_tie : Rows.sortsUnknownRow.laidByTextAt .later Tryd.pinned [.listed, .data, .data, .data] true :=
  OpenClaim.laidByTextAt_later rfl rfl tie noOwnUnsafe
theorem sortsFirst_row_tie : Rows.sortsFirstRow.laidByTextAt .later Tryd.pinned [.listed, .data, .data, .data] true :=
  OpenClaim.laidByTextAt_later rfl rfl tie noOwnUnsafe
theorem sortsEnds_row_tie : Rows.sortsEndsRow.laidByTextAt .later Tryd.pinned [.listed, .data, .data, .data] true :=
  OpenClaim.laidByTextAt_later rfl rfl tie noOwnUnsafe
theorem sortsScopes_row_tie : Rows.sortsScopesRow.laidByTextAt .later Tryd.pinned [.listed, .data, .data, .data] true :=
  OpenClaim.laidByTextAt_later rfl rfl tie noOwnUnsafe
theorem sortsCells_row_tie : Rows.sortsCellsRow.laidByTextAt .later Tryd.pinned [.listed, .data, .data, .data] true :=
  OpenClaim.laidByTextAt_later rfl rfl tie noOwnUnsafe
theorem sortsOwn_row_tie : Rows.sortsOwnRow.laidByTextAt .later Tryd.pinned [.listed, .data, .data, .data] true :=
  OpenClaim.laidByTextAt_later rfl rfl tie noOwnUnsafe
theorem sortsPlacesUpto_row_tie : Rows.sortsPlacesUptoRow.laidByTextAt .later Tryd.pinned [.listed, .data, .data, .data] true :=
  OpenClaim.laidByTextAt_later rfl rfl tie noOwnUnsafe
theorem sortsUnknownUpto_row_tie : Rows.sortsUnknownUptoRow.laidByTextAt .later Tryd.pinned [.listed, .data, .data, .data] true :=
  OpenClaim.laidByTextAt_later rfl rfl tie noOwnUnsafe
theorem sortsFirstUpto_row_tie : Rows.sortsFirstUptoRow.laidByTextAt .later Tryd.pinned [.listed, .data, .data, .data] true :=
  OpenClaim.laidByTextAt_later rfl rfl tie noOwnUnsafe
theorem sortsEndsUpto_row_tie : Rows.sortsEndsUptoRow.laidByTextAt .later Tryd.pinned [.listed, .data, .data, .data] true :=
  OpenClaim.laidByTextAt_later rfl rfl tie noOwnUnsafe
theorem sortsScopesUpto_row_tie : Rows.sortsScopesUptoRow.laidByTextAt .later Tryd.pinned [.listed, .data, .data, .data] true :=
  OpenClaim.laidByTextAt_later rfl rfl tie noOwnUnsafe
theorem sortsCellsUpto_row_tie : Rows.sortsCellsUptoRow.laidByTextAt .later Tryd.pinned [.listed, .data, .data, .data] true :=
  OpenClaim.laidByTextAt_later rfl rfl tie noOwnUnsafe
theorem sortsOwnUpto_row_tie : Rows.sortsOwnUptoRow.laidByTextAt .later Tryd.pinned [.listed, .data, .data, .data] true :=
  OpenClaim.laidByTextAt_later rfl rfl tie noOwnUnsafe
end Go.Proofs.YtfamkemdgbnegaaDoor
