/- Part of the proof: the evaluator, its soundness, its runs. -/
import Derived.Test.YtpbhfabagkpaaaaGreatDoorRows
import Derived.KernelRfl
import Derived.ProofKit
import Derived.Stop.Joined
import Derived.Lay
import Derived.LaidMore
import Derived.SevenTiedAt
import Derived.MakeChecks

namespace Go.Proofs.YtpbhfabagkpaaaaGreatDoor
open Go
set_option maxRecDepth 100000
theorem rowKeys : Tryz.prog.plainKeys = Rows.stepFaultRow.plainKeys := by kernel_rfl
theorem rowHeard : Tryz.prog.stopsHeard = true := by kernel_rfl
theorem rowEnter : Tryz.prog.mayEnter = true := by kernel_rfl
theorem rowLifts : Tryz.prog.liftsFinal = Rows.stepFaultRow.lifted := by kernel_rfl
theorem rowMake : Tryz.prog.make = some Rows.stepFaultRow.make := by kernel_rfl
end Go.Proofs.YtpbhfabagkpaaaaGreatDoor
