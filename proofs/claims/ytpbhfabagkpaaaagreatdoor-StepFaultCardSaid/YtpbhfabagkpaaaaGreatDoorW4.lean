/- Part of the proof: the evaluator, its soundness, its runs. -/
import Derived.Test.YtpbhfabagkpaaaaGreatDoorRows
import Derived.KernelRfl
import Derived.ProofKit
import Derived.Stop.Joined
import Derived.Lay
import Derived.LaidMore
import Derived.SevenTiedAt
import Derived.MakeChecks

namespace Go.Proofs.YtpbhfabagkpaaaaGreatDoor
open Go
set_option maxRecDepth 100000
theorem plain : (Rows.stepFaultRow.laid.all fun x => x.2.handleName?.isNone) = true := by kernel_rfl
theorem witFits (os : Os) : (World.holding Tryz.prog os ⟨#[], #[], []⟩).layFits Tryz.prog Rows.stepFaultRow.laid [] = true := by kernel_rfl
end Go.Proofs.YtpbhfabagkpaaaaGreatDoor
