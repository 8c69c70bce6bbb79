/- Part of the proof: the evaluator, its soundness, its runs. -/
import Derived.Test.YtpbhfabagkpaaaaGreatDoorT

namespace Go.Kn
open Go.Proofs
theorem run4_chk (k : Int) : memoXChk run4 (runF (TT k M2) 100 none 5 run4.args ⟨run4.bs, run4.n, run4.esc⟩) = true := by kernel_rfl
theorem run5_chk (k : Int) : memoXChk run5 (runF (TT k M2) 100 none 5 run5.args ⟨run5.bs, run5.n, run5.esc⟩) = true := by kernel_rfl
end Go.Kn
