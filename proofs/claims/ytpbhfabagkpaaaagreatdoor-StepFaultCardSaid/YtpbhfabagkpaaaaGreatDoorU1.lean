/- Part of the proof: the evaluator, its soundness, its runs. -/
import Derived.Test.YtpbhfabagkpaaaaGreatDoorU

namespace Go.Proofs.YtpbhfabagkpaaaaGreatDoor
open Go
set_option maxRecDepth 100000
theorem tieF2 : Tryz.prog.worded rootWordLater = true := by kernel_rfl
theorem tieF4 : (Tryz.prog.funcNamed "gosem.cut.vars").isSome = true := by kernel_rfl
end Go.Proofs.YtpbhfabagkpaaaaGreatDoor
