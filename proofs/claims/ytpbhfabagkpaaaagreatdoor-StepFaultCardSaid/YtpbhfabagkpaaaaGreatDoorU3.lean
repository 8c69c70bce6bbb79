/- Part of the proof: the evaluator, its soundness, its runs. -/
import Derived.Test.YtpbhfabagkpaaaaGreatDoorU

namespace Go.Proofs.YtpbhfabagkpaaaaGreatDoor
open Go
set_option maxRecDepth 100000
theorem tieF6 : ∀ os tape, doorLeaves Tryz.prog 112 8 65 laid13 os tape = some (laid13.filter fun x => x.2.handleName?.isNone, (funcsListed laid13).map (·.2.funcsOut)) := fun _ _ => by kernel_rfl
end Go.Proofs.YtpbhfabagkpaaaaGreatDoor
