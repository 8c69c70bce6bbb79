/- Part of the proof: the evaluator, its soundness, its runs. -/
import Derived.Test.YtpbhfabagkpaaaaGreatDoorU0
import Derived.Test.YtpbhfabagkpaaaaGreatDoorU1
import Derived.Test.YtpbhfabagkpaaaaGreatDoorU2
import Derived.Test.YtpbhfabagkpaaaaGreatDoorU3
import Derived.LaidByTextLater
import Derived.SevenTiedAt
import Derived.LaidSub

namespace Go.Proofs.YtpbhfabagkpaaaaGreatDoor
open Go
set_option maxRecDepth 100000
theorem tie : Tryz.prog.laidByTextLater [("math/bits.deBruijn32tab", Rows.laid_math_bits_deBruijn32tab), ("math/bits.deBruijn64tab", Rows.laid_math_bits_deBruijn64tab), ("internal/strconv.uint64pow10", Rows.laid_internal_strconv_uint64pow10), ("unicode/utf8.acceptRanges", Rows.laid_unicode_utf8_acceptRanges), ("strconv.ErrRange", Rows.laid_strconv_ErrRange), ("strconv.ErrSyntax", Rows.laid_strconv_ErrSyntax), ("kinetoscope/lexer.signs", Rows.laid_kinetoscope_lexer_signs), ("kinetoscope/arith.signs", Rows.laid_kinetoscope_arith_signs), ("kinetoscope/arith.rows", Rows.laid_kinetoscope_arith_rows), ("kinetoscope/syntax.reserved", Rows.laid_kinetoscope_syntax_reserved), ("kinetoscope/word.ops", Rows.laid_kinetoscope_word_ops), ("kinetoscope/step.specials", Rows.laid_kinetoscope_step_specials), ("kinetoscope/step.signalNames", Rows.laid_kinetoscope_step_signalNames)] [.data, .data, .data, .data, .sentinel, .sentinel, .data, .data, .data, .widerDeep, .data, .widerDeep, .data] true :=
  Program.laidByTextLater_by_one (laid := laid13) (kinds := kinds13) 112 8 65 tieF0 tieF1 tieF2 tieF3 tieF4 tieF5 tieF6
theorem pin_laid_unicode_CaseRanges : Tryz.pinned.checked.prog.pinnedFits "unicode.CaseRanges" = true := by kernel_rfl
theorem pin_laid_unicode_utf8_first : Tryz.pinned.checked.prog.pinnedFits "unicode/utf8.first" = true := by kernel_rfl
theorem noOwnUnsafe : Tryz.pinned.checked.prog.headLifts.contains "ownunsafe" = false := by kernel_rfl
theorem fits1 : Tryz.pinned.checked.prog.listedFits [("math/bits.deBruijn32tab", Rows.laid_math_bits_deBruijn32tab), ("math/bits.deBruijn64tab", Rows.laid_math_bits_deBruijn64tab), ("internal/strconv.uint64pow10", Rows.laid_internal_strconv_uint64pow10), ("unicode/utf8.acceptRanges", Rows.laid_unicode_utf8_acceptRanges), ("strconv.ErrRange", Rows.laid_strconv_ErrRange), ("strconv.ErrSyntax", Rows.laid_strconv_ErrSyntax), ("kinetoscope/lexer.signs", Rows.laid_kinetoscope_lexer_signs), ("kinetoscope/arith.signs", Rows.laid_kinetoscope_arith_signs), ("kinetoscope/arith.rows", Rows.laid_kinetoscope_arith_rows), ("kinetoscope/syntax.reserved", Rows.laid_kinetoscope_syntax_reserved), ("kinetoscope/word.ops", Rows.laid_kinetoscope_word_ops), ("kinetoscope/step.specials", Rows.laid_kinetoscope_step_specials), ("kinetoscope/step.signalNames", Rows.laid_kinetoscope_step_signalNames), ("unicode.CaseRanges", Rows.laid_unicode_CaseRanges), ("unicode/utf8.first", Rows.laid_unicode_utf8_first)] = true := by
  unfold Program.listedFits
  rw [noOwnUnsafe]
  kernel_rfl
theorem stepFault_row_tie : Rows.stepFaultRow.laidByTextAt .later Tryz.pinned [.data, .data, .data, .data, .sentinel, .sentinel, .data, .data, .data, .widerDeep, .data, .widerDeep, .data, .pinned, .pinned] true :=
  OpenClaim.laidByTextAt_pinned rfl rfl tie rfl rfl rfl rfl (fun y hy _e => by
    simp only [Rows.stepFaultRow, List.zip_cons_cons, List.zip_nil_right, List.mem_cons, List.mem_nil_iff, or_false] at hy
    rcases hy with rfl | rfl | rfl | rfl | rfl | rfl | rfl | rfl | rfl | rfl | rfl | rfl | rfl | rfl | rfl
    · cases _e
    · cases _e
    · cases _e
    · cases _e
    · cases _e
    · cases _e
    · cases _e
    · cases _e
    · cases _e
    · cases _e
    · cases _e
    · cases _e
    · cases _e
    · exact ⟨pin_laid_unicode_CaseRanges, by kernel_rfl⟩
    · exact ⟨pin_laid_unicode_utf8_first, by kernel_rfl⟩) fits1
end Go.Proofs.YtpbhfabagkpaaaaGreatDoor
