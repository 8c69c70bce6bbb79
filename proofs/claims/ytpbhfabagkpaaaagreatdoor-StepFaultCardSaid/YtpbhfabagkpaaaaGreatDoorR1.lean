/- Part of the proof: the evaluator, its soundness, its runs. -/
import Derived.Test.YtpbhfabagkpaaaaGreatDoorT

namespace Go.Kn
open Go.Proofs
theorem run2_chk (k : Int) : memoXChk run2 (runF (TT k M2) 100 none 5 run2.args ⟨run2.bs, run2.n, run2.esc⟩) = true := by kernel_rfl
theorem run3_chk (k : Int) : memoXChk run3 (runF (TT k M2) 100 none 5 run3.args ⟨run3.bs, run3.n, run3.esc⟩) = true := by kernel_rfl
end Go.Kn
