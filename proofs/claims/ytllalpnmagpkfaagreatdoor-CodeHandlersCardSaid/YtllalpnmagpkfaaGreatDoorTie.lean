/-
  DERIVED. GIVEN WITH THE SEED: THE PROGRAM's TIES (one call each: nine closed facts by the kernel) AND EACH ROW's TIE, after the 31st guide's Derived/Test/Toyas{Tie, Card}.lean. No idea stands in it: it is a product of the set-up. Laid BY PROGRAM, IN A SANDBOX (cutbox-door.mjs). By AI agents, Wed Nov 11 2026. No macro, syntax, notation, axiom, sorry.
-/
import Derived.Test.YtllalpnmagpkfaaGreatDoorRows
import Derived.LaidByTextLater
import Derived.SevenTiedAt
import Derived.LaidSub
import Derived.LaidOnce
namespace Go.Proofs.YtllalpnmagpkfaaGreatDoor
open Go
set_option maxRecDepth 100000
theorem seatTie1 : Tryz.prog.laidByTextLater [("math/bits.deBruijn32tab", Rows.laid_math_bits_deBruijn32tab), ("math/bits.deBruijn64tab", Rows.laid_math_bits_deBruijn64tab), ("internal/strconv.uint64pow10", Rows.laid_internal_strconv_uint64pow10), ("rootcause/lexer.words", Rows.laid_rootcause_lexer_words), ("rootcause/lexer.symbols", Rows.laid_rootcause_lexer_symbols), ("rootcause/syntax.shapes", Rows.laid_rootcause_syntax_shapes), ("rootcause/syntax.forms", Rows.laid_rootcause_syntax_forms), ("rootcause/code.rows", Rows.laid_rootcause_code_rows)] [.data, .data, .data, .data, .data, .data, .data, .data] true :=
  Program.laidByTextLater_by_one 119 8 141 (by kernel_rfl) (by kernel_rfl) (by kernel_rfl) (by kernel_rfl) (by kernel_rfl) (by kernel_rfl) (fun _ _ => by kernel_rfl)
theorem noOwnUnsafe : Tryz.pinned.checked.prog.headLifts.contains "ownunsafe" = false := by kernel_rfl
theorem tie : Tryz.prog.laidByTextLater [("math/bits.deBruijn32tab", Rows.laid_math_bits_deBruijn32tab), ("math/bits.deBruijn64tab", Rows.laid_math_bits_deBruijn64tab), ("internal/strconv.uint64pow10", Rows.laid_internal_strconv_uint64pow10), ("rootcause/lexer.words", Rows.laid_rootcause_lexer_words), ("rootcause/lexer.symbols", Rows.laid_rootcause_lexer_symbols), ("rootcause/syntax.shapes", Rows.laid_rootcause_syntax_shapes), ("rootcause/syntax.forms", Rows.laid_rootcause_syntax_forms), ("rootcause/code.rows", Rows.laid_rootcause_code_rows)] [.data, .data, .data, .data, .data, .data, .data, .data] true :=
  Program.laidByTextLater.sub seatTie1 ["math/bits.deBruijn32tab", "math/bits.deBruijn64tab", "internal/strconv.uint64pow10", "rootcause/lexer.words", "rootcause/lexer.symbols", "rootcause/syntax.shapes", "rootcause/syntax.forms", "rootcause/code.rows"] (by kernel_rfl) (by kernel_rfl)
theorem codeCompiles_row_tie : Rows.codeCompilesRow.laidByTextAt .later Tryz.pinned [.data, .data, .data, .data, .data, .data, .data, .data] true :=
  OpenClaim.laidByTextAt_later rfl rfl tie noOwnUnsafe
theorem codeTexts_row_tie : Rows.codeTextsRow.laidByTextAt .later Tryz.pinned [.data, .data, .data, .data, .data, .data, .data, .data] true :=
  OpenClaim.laidByTextAt_later rfl rfl tie noOwnUnsafe
theorem codeErrors_row_tie : Rows.codeErrorsRow.laidByTextAt .later Tryz.pinned [.data, .data, .data, .data, .data, .data, .data, .data] true :=
  OpenClaim.laidByTextAt_later rfl rfl tie noOwnUnsafe
theorem codeHandlers_row_tie : Rows.codeHandlersRow.laidByTextAt .later Tryz.pinned [.data, .data, .data, .data, .data, .data, .data, .data] true :=
  OpenClaim.laidByTextAt_later rfl rfl tie noOwnUnsafe
theorem codeCosts_row_tie : Rows.codeCostsRow.laidByTextAt .later Tryz.pinned [.data, .data, .data, .data, .data, .data, .data, .data] true :=
  OpenClaim.laidByTextAt_later rfl rfl tie noOwnUnsafe
theorem codeSpoils_row_tie : Rows.codeSpoilsRow.laidByTextAt .later Tryz.pinned [.data, .data, .data, .data, .data, .data, .data, .data] true :=
  OpenClaim.laidByTextAt_later rfl rfl tie noOwnUnsafe
theorem codeVerifies_row_tie : Rows.codeVerifiesRow.laidByTextAt .later Tryz.pinned [.data, .data, .data, .data, .data, .data, .data, .data] true :=
  OpenClaim.laidByTextAt_later rfl rfl tie noOwnUnsafe
theorem codeBytes_row_tie : Rows.codeBytesRow.laidByTextAt .later Tryz.pinned [.data, .data, .data, .data, .data, .data, .data, .data] true :=
  OpenClaim.laidByTextAt_later rfl rfl tie noOwnUnsafe
theorem codeValues_row_tie : Rows.codeValuesRow.laidByTextAt .later Tryz.pinned [.data, .data, .data, .data, .data, .data, .data, .data] true :=
  OpenClaim.laidByTextAt_later rfl rfl tie noOwnUnsafe
theorem codeCompilesUpto_row_tie : Rows.codeCompilesUptoRow.laidByTextAt .later Tryz.pinned [.data, .data, .data, .data, .data, .data, .data, .data] true :=
  OpenClaim.laidByTextAt_later rfl rfl tie noOwnUnsafe
theorem codeTextsUpto_row_tie : Rows.codeTextsUptoRow.laidByTextAt .later Tryz.pinned [.data, .data, .data, .data, .data, .data, .data, .data] true :=
  OpenClaim.laidByTextAt_later rfl rfl tie noOwnUnsafe
theorem codeErrorsUpto_row_tie : Rows.codeErrorsUptoRow.laidByTextAt .later Tryz.pinned [.data, .data, .data, .data, .data, .data, .data, .data] true :=
  OpenClaim.laidByTextAt_later rfl rfl tie noOwnUnsafe
theorem codeHandlersUpto_row_tie : Rows.codeHandlersUptoRow.laidByTextAt .later Tryz.pinned [.data, .data, .data, .data, .data, .data, .data, .data] true :=
  OpenClaim.laidByTextAt_later rfl rfl tie noOwnUnsafe
theorem codeCostsUpto_row_tie : Rows.codeCostsUptoRow.laidByTextAt .later Tryz.pinned [.data, .data, .data, .data, .data, .data, .data, .data] true :=
  OpenClaim.laidByTextAt_later rfl rfl tie noOwnUnsafe
theorem codeSpoilsUpto_row_tie : Rows.codeSpoilsUptoRow.laidByTextAt .later Tryz.pinned [.data, .data, .data, .data, .data, .data, .data, .data] true :=
  OpenClaim.laidByTextAt_later rfl rfl tie noOwnUnsafe
theorem codeVerifiesUpto_row_tie : Rows.codeVerifiesUptoRow.laidByTextAt .later Tryz.pinned [.data, .data, .data, .data, .data, .data, .data, .data] true :=
  OpenClaim.laidByTextAt_later rfl rfl tie noOwnUnsafe
theorem codeBytesUpto_row_tie : Rows.codeBytesUptoRow.laidByTextAt .later Tryz.pinned [.data, .data, .data, .data, .data, .data, .data, .data] true :=
  OpenClaim.laidByTextAt_later rfl rfl tie noOwnUnsafe
theorem codeValuesUpto_row_tie : Rows.codeValuesUptoRow.laidByTextAt .later Tryz.pinned [.data, .data, .data, .data, .data, .data, .data, .data] true :=
  OpenClaim.laidByTextAt_later rfl rfl tie noOwnUnsafe
end Go.Proofs.YtllalpnmagpkfaaGreatDoor
