/- Part of the proof: the evaluator, its soundness, its runs. -/
import Derived.Test.YtpbhfabagkpaaaaGreatDoorU

namespace Go.Proofs.YtpbhfabagkpaaaaGreatDoor
open Go
set_option maxRecDepth 100000
theorem tieF5 : varsNamedLaterB Tryz.prog (varsId Tryz.prog) laid13 = true := by kernel_rfl
end Go.Proofs.YtpbhfabagkpaaaaGreatDoor
