/- Part of the proof: the evaluator, its soundness, its runs. -/
import Derived.Test.YtpbhfabagkpaaaaGreatDoorRows
import Derived.KernelRfl
import Derived.ProofKit
import Derived.Stop.Joined
import Derived.Lay
import Derived.LaidMore
import Derived.SevenTiedAt
import Derived.MakeChecks

namespace Go.Proofs.YtpbhfabagkpaaaaGreatDoor
open Go
set_option maxRecDepth 100000
theorem own : ownKnob Tryz.prog.godebug = none := by kernel_rfl
theorem noInit : Tryz.prog.inits.idxOf? 3 = none := by kernel_rfl
theorem fnNamed : Tryz.prog.funcNamed "kinetoscope/kinetoscopelaw19.StepFault" = some 3 := by kernel_rfl
theorem mainIs : Tryz.prog.mainIs = some (true, "fa66a0b57c56e39c8ed9f1aef38604f544683507cd2734c2ec6fd2240adfd0e3".toList) := by kernel_rfl
theorem looks : true = Tryz.prog.looks [] := by kernel_rfl
theorem stand : Tryz.prog.wantsStandIn 5 = false := by kernel_rfl
end Go.Proofs.YtpbhfabagkpaaaaGreatDoor
