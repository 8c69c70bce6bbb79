/- Part of the proof: the evaluator, its soundness, its runs. -/
import Derived.Test.YtpbhfabagkpaaaaGreatDoorRows
import Derived.KernelRfl
import Derived.ProofKit
import Derived.Stop.Joined
import Derived.Lay
import Derived.LaidMore
import Derived.SevenTiedAt
import Derived.MakeChecks
import Derived.Test.YtpbhfabagkpaaaaGreatDoorG1

namespace Go.Proofs.YtpbhfabagkpaaaaGreatDoor
open Go
set_option maxRecDepth 100000
theorem vrs : Tryz.prog.varsNamed 3 = Rows.stepFaultRow.named := by
  unfold Program.varsNamed
  rw [closure3]
  kernel_rfl
end Go.Proofs.YtpbhfabagkpaaaaGreatDoor
