/- Part of the proof: the evaluator, its soundness, its runs. -/
import Derived.Test.YtpbhfabagkpaaaaGreatDoorU

namespace Go.Proofs.YtpbhfabagkpaaaaGreatDoor
open Go
set_option maxRecDepth 100000
theorem tieF0 : Tryz.prog.worded (varsWordLater true) = true := by kernel_rfl
theorem tieF1 : Tryz.prog.worded (varsWordLater !true) = false := by kernel_rfl
theorem tieF3 : laid13.map (fun x => Tryz.prog.kindOfLater x.1) = kinds13.map some := by kernel_rfl
end Go.Proofs.YtpbhfabagkpaaaaGreatDoor
