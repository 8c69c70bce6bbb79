/- Part of the proof: the evaluator, its soundness, its runs. -/
import Derived.Test.YtpbhfabagkpaaaaGreatDoorT

namespace Go.Kn
open Go.Proofs
theorem runA0_chk (k : Int) : memoXChk runA0 (runF (TT k M1) 100 none 5 runA0.args ⟨runA0.bs, runA0.n, runA0.esc⟩) = true := by kernel_rfl
end Go.Kn
