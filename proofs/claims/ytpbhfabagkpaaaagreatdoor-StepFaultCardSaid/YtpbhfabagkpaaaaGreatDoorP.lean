/- Part of the proof: the evaluator, its soundness, its runs. -/
import Derived.Test.YtpbhfabagkpaaaaGreatDoorD
import Derived.Test.YtpbhfabagkpaaaaGreatDoorT
import Derived.Test.YtpbhfabagkpaaaaGreatDoorProg
import Derived.Test.YtpbhfabagkpaaaaGreatDoorRows
import Derived.Stop.LaidErr
import Derived.Shelf.Vars
import Derived.KernelRfl

namespace Go.Kn
open Go.Proofs Go.RowKit

abbrev laidL : List (String × DataW Unit) := Go.Proofs.YtpbhfabagkpaaaaGreatDoor.Rows.stepFaultRow.laid

theorem u9 : PT.underlying 9 = some .string := Tryz.underlying9
theorem c9 : PT.cellsOf 9 = 1 := by kernel_rfl
theorem c337 : PT.cellsOf 337 = 1 := by kernel_rfl
theorem c460 : PT.cellsOf 460 = 1 := by kernel_rfl
theorem gn0 : PT.globalNamed "kinetoscope/step.specials" = some 0 := by kernel_rfl
theorem gn1 : PT.globalNamed "kinetoscope/lexer.signs" = some 1 := by kernel_rfl
theorem gn2 : PT.globalNamed "kinetoscope/syntax.reserved" = some 2 := by kernel_rfl
theorem gn5 : PT.globalNamed "internal/strconv.uint64pow10" = some 5 := by kernel_rfl
theorem gn8 : PT.globalNamed "kinetoscope/word.ops" = some 8 := by kernel_rfl
theorem gn9 : PT.globalNamed "strconv.ErrSyntax" = some 9 := by kernel_rfl
theorem gn13 : PT.globalNamed "kinetoscope/arith.rows" = some 13 := by kernel_rfl
theorem gn15 : PT.globalNamed "kinetoscope/arith.signs" = some 15 := by kernel_rfl
theorem gt : (PT.globals.toList.map (·.type)) = [23, 191, 23, 308, 3, 400, 402, 405, 425, 210, 210, 478, 479, 482, 498, 502] := by kernel_rfl
theorem gtA {g t : Nat} (h : ([23, 191, 23, 308, 3, 400, 402, 405, 425, 210, 210, 478, 479, 482, 498, 502] : List Nat)[g]? = some t) : (PT.globals[g]?).map (·.type) = some t := by
  have e : PT.globals[g]? = PT.globals.toList[g]? := by simp
  rw [e, ← List.getElem?_map, gt]
  exact h
theorem starErr : "*" ++ "errors.errorString" = "*errors.errorString" := by decide
theorem rowErr (u : TypeId) (h : PT.typeName? 3 u = some "*errors.errorString") : u = 458 :=
  typeName_ptr_named (nm := "errors.errorString") (by rw [starErr]; kernel_rfl) (by kernel_rfl) (by decide) u (by rw [starErr]; exact h)
theorem maxLen0 : ((begin PT (fun _ _ => 0) default).world.heap[4]?).bind Obj.row? = some (#[.int .i64 0], 3) := by kernel_rfl
theorem build3 : PT.buildable 3 = true := by kernel_rfl
theorem cells3 : PT.cellTypes PT.depth 3 = some [3] := by kernel_rfl
theorem glob4 : 4 < PT.globals.size := of_decide_eq_true (by kernel_rfl)

theorem laidMet_vars {P : Program} {l : List (String × DataW Unit)} {w : World} (h : laidMet P l w) : ∃ ps, DataW.LaidVars P w l ps := h.imp fun _ x => x.1

theorem laidMet_drop {P : Program} {w : World} : ∀ (k : Nat) {l : List (String × DataW Unit)}, laidMet P l w → laidMet P (l.drop k) w
  | 0, _, h => h
  | k + 1, [], h => h
  | k + 1, _ :: l, h => laidMet_drop k (l := l) h.tail

/-- WHAT THE ROW'S LIST GIVES THE WALK. -/
theorem laidW_of {w : World} (h : laidMet PT laidL w) (hs : w.ShapedOpen PT) : ∃ k, LaidW k w := by
  obtain ⟨k, hk⟩ := cell_of_shapedOpen_int hs glob4 maxLen0 rfl build3 cells3 Tryz.underlying3
  obtain ⟨ps, hv⟩ := laidMet_vars h
  refine ⟨k, ?_, ?_, ?_, hk, ?_, ?_, ?_, ?_, ?_⟩
  · exact rowAt_of hv (List.mem_of_getElem? (i := 11) rfl) gn0 (gtA rfl) Tryz.underlying23 u9 c9 (by simp [specialsL])
  · exact strsAt_of hv (List.mem_of_getElem? (i := 6) rfl) gn1 (gtA rfl) Tryz.underlying191 u9 c9
  · exact rowAt_of hv (List.mem_of_getElem? (i := 9) rfl) gn2 (gtA rfl) Tryz.underlying23 u9 c9 (by simp [reservedL])
  · exact intsAt_of hv (List.mem_of_getElem? (i := 2) rfl) gn5 (gtA rfl) Tryz.underlying400 Tryz.underlying337 c337
  · obtain ⟨a, s, h1, h2, h3, _⟩ := laid_sentinel (laidMet_drop 5 h) gn9 (gtA rfl) Tryz.underlying210 rowErr Tryz.underlying458 Tryz.underlying460 rfl rfl u9 c460 c9
    have hs : s = ⟨⟨[105, 110, 118, 97, 108, 105, 100, 32, 115, 121, 110, 116, 97, 120]⟩⟩ := by
      obtain ⟨⟨l⟩⟩ := s
      simp only at h3
      rw [h3]
    have hq : a.spot = none := by
      cases hsp : a.spot with
      | none => rfl
      | some x =>
        unfold World.cell? at h2
        rw [hsp] at h2
        split at h2
        · simp at h2
        · cases h2
    obtain ⟨b, o, q⟩ := a
    simp only at hq
    subst hq
    exact ⟨b, o, by rw [var_cell gn9 h1 0]; rfl, by rw [h2, hs]⟩
  · exact strsAt_of hv (List.mem_of_getElem? (i := 10) rfl) gn8 (gtA rfl) Tryz.underlying425 u9 c9
  · exact strsAt_of hv (List.mem_of_getElem? (i := 8) rfl) gn13 (gtA rfl) Tryz.underlying482 u9 c9
  · exact strsAt_of hv (List.mem_of_getElem? (i := 7) rfl) gn15 (gtA rfl) Tryz.underlying502 u9 c9

end Go.Kn
