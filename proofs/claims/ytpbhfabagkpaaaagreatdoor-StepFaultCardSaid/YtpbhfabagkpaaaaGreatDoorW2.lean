/- Part of the proof: the evaluator, its soundness, its runs. -/
import Derived.Test.YtpbhfabagkpaaaaGreatDoorRows
import Derived.KernelRfl
import Derived.ProofKit
import Derived.Stop.Joined
import Derived.Lay
import Derived.LaidMore
import Derived.SevenTiedAt
import Derived.MakeChecks

namespace Go.Proofs.YtpbhfabagkpaaaaGreatDoor
open Go
set_option maxRecDepth 100000
theorem witOk (os : Os) : Input.okWideB Tryz.prog ((World.laidAll Tryz.prog os Rows.stepFaultRow.laid).forCall (fun _ _ => 0) ⟨#[], #[.int .u8 0], []⟩) 3 ⟨#[], #[.int .u8 0], []⟩ = true := by kernel_rfl
end Go.Proofs.YtpbhfabagkpaaaaGreatDoor

namespace Go.Proofs.YtpbhfabagkpaaaaGreatDoor
open Go
set_option maxRecDepth 100000
theorem witPre {H : Type} (enc : TypeId × Value → H) (os : Os) : Rows.stepFaultSpec.preB enc Tryz.prog Tryz.f3 [] false (((World.laidAll Tryz.prog os Rows.stepFaultRow.laid).forCall (fun _ _ => 0) ⟨#[], #[.int .u8 0], []⟩)).memory #[.int .u8 0] 8 = true := by kernel_rfl
theorem witSized {H : Type} (enc : TypeId × Value → H) (os : Os) : Rows.stepFaultSpec.sizedB enc Tryz.prog Tryz.f3 false (((World.laidAll Tryz.prog os Rows.stepFaultRow.laid).forCall (fun _ _ => 0) ⟨#[], #[.int .u8 0], []⟩)).memory #[.int .u8 0] 8 = true := by kernel_rfl
end Go.Proofs.YtpbhfabagkpaaaaGreatDoor
