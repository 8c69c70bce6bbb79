/- Part of the proof: the evaluator, its soundness, its runs. -/
import Derived.Test.YtpbhfabagkpaaaaGreatDoorRows
import Derived.KernelRfl
import Derived.ProofKit
import Derived.Stop.Joined
import Derived.Lay
import Derived.LaidMore
import Derived.SevenTiedAt
import Derived.MakeChecks
import Derived.Test.YtpbhfabagkpaaaaGreatDoorG1

namespace Go.Proofs.YtpbhfabagkpaaaaGreatDoor
open Go
set_option maxRecDepth 100000
theorem inPl : Tryz.prog.inPlace 3 = Rows.stepFaultRow.inPlace := by
  unfold Program.inPlace
  rw [closure3]
  kernel_rfl
end Go.Proofs.YtpbhfabagkpaaaaGreatDoor

namespace Go.Proofs.YtpbhfabagkpaaaaGreatDoor
open Go
set_option maxRecDepth 100000
theorem wf : Rows.stepFaultRow.wfByText (OpenSpec.ofChange Rows.stepFaultSpec) = true := by kernel_rfl
end Go.Proofs.YtpbhfabagkpaaaaGreatDoor

namespace Go.Proofs.YtpbhfabagkpaaaaGreatDoor
open Go
set_option maxRecDepth 100000
theorem unf : Tryz.prog.unfollowed 3 = true := by
  unfold Program.unfollowed
  rw [closure3]
  kernel_rfl
theorem recs : Tryz.prog.recurses 3 = true := by
  unfold Program.recurses
  rw [unf]
  rfl
end Go.Proofs.YtpbhfabagkpaaaaGreatDoor
