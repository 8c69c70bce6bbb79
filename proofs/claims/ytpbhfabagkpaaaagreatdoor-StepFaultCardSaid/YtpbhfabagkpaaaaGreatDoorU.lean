/- Part of the proof: the evaluator, its soundness, its runs. -/
import Derived.Test.YtpbhfabagkpaaaaGreatDoorRows
import Derived.LaidOnce
import Derived.KernelRfl

namespace Go.Proofs.YtpbhfabagkpaaaaGreatDoor
open Go
set_option maxRecDepth 100000
def laid13 : List (String × DataW Unit) := [("math/bits.deBruijn32tab", Rows.laid_math_bits_deBruijn32tab), ("math/bits.deBruijn64tab", Rows.laid_math_bits_deBruijn64tab), ("internal/strconv.uint64pow10", Rows.laid_internal_strconv_uint64pow10), ("unicode/utf8.acceptRanges", Rows.laid_unicode_utf8_acceptRanges), ("strconv.ErrRange", Rows.laid_strconv_ErrRange), ("strconv.ErrSyntax", Rows.laid_strconv_ErrSyntax), ("kinetoscope/lexer.signs", Rows.laid_kinetoscope_lexer_signs), ("kinetoscope/arith.signs", Rows.laid_kinetoscope_arith_signs), ("kinetoscope/arith.rows", Rows.laid_kinetoscope_arith_rows), ("kinetoscope/syntax.reserved", Rows.laid_kinetoscope_syntax_reserved), ("kinetoscope/word.ops", Rows.laid_kinetoscope_word_ops), ("kinetoscope/step.specials", Rows.laid_kinetoscope_step_specials), ("kinetoscope/step.signalNames", Rows.laid_kinetoscope_step_signalNames)]
def kinds13 : List LaidKind := [.data, .data, .data, .data, .sentinel, .sentinel, .data, .data, .data, .widerDeep, .data, .widerDeep, .data]
end Go.Proofs.YtpbhfabagkpaaaaGreatDoor
