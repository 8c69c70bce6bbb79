/- Part of the proof: the evaluator, its soundness, its runs. -/
import Derived.Test.YtpbhfabagkpaaaaGreatDoorT

namespace Go.Kn
open Go.Proofs
theorem run0_chk (k : Int) : memoXChk run0 (runF (TT k M2) 100 none 5 run0.args ⟨run0.bs, run0.n, run0.esc⟩) = true := by kernel_rfl
theorem run1_chk (k : Int) : memoXChk run1 (runF (TT k M2) 100 none 5 run1.args ⟨run1.bs, run1.n, run1.esc⟩) = true := by kernel_rfl
end Go.Kn
