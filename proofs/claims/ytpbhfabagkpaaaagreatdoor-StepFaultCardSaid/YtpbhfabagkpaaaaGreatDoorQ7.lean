/- Part of the proof: the evaluator, its soundness, its runs. -/
import Derived.Test.YtpbhfabagkpaaaaGreatDoorRows
import Derived.KernelRfl
import Derived.ProofKit
import Derived.Stop.Joined
import Derived.Lay
import Derived.LaidMore
import Derived.SevenTiedAt
import Derived.MakeChecks

namespace Go.Proofs.YtpbhfabagkpaaaaGreatDoor
open Go
set_option maxRecDepth 100000
theorem rowLaidOut : laidOutB Tryz.prog = true := by kernel_rfl
end Go.Proofs.YtpbhfabagkpaaaaGreatDoor
