/- Part of the proof: the evaluator, its soundness, its runs. -/
import Derived.Test.YtpbhfabagkpaaaaGreatDoorT

namespace Go.Kn
open Go.Proofs
theorem runA1_chk (k : Int) : memoXChk runA1 (runF (TT k M1) 100 none 5 runA1.args ⟨runA1.bs, runA1.n, runA1.esc⟩) = true := by kernel_rfl
end Go.Kn
