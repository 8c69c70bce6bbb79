/- Part of the proof: the evaluator, its soundness, its runs. -/
import Derived.Test.YtpbhfabagkpaaaaGreatDoorRows
import Derived.KernelRfl
import Derived.ProofKit
import Derived.Stop.Joined
import Derived.Lay
import Derived.LaidMore
import Derived.SevenTiedAt
import Derived.MakeChecks
import Derived.Test.YtpbhfabagkpaaaaGreatDoorQ1
import Derived.Test.YtpbhfabagkpaaaaGreatDoorG

namespace Go.Proofs.YtpbhfabagkpaaaaGreatDoor
open Go
set_option maxRecDepth 100000
theorem noGoes : Tryz.prog.funcs.toList.any Func.goes = false := by kernel_rfl
theorem goes : false = Rows.stepFaultRow.goesBy Tryz.prog := Kn.goesBy_no (f := 3) rfl fnNamed noGoes
end Go.Proofs.YtpbhfabagkpaaaaGreatDoor
