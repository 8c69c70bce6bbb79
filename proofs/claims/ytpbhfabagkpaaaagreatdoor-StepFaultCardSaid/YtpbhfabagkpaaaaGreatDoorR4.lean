/- Part of the proof: the evaluator, its soundness, its runs. -/
import Derived.Test.YtpbhfabagkpaaaaGreatDoorT

namespace Go.Kn
open Go.Proofs
theorem run8_chk (k : Int) : memoXChk run8 (runF (TT k M2) 100 none 5 run8.args ⟨run8.bs, run8.n, run8.esc⟩) = true := by kernel_rfl
theorem run9_chk (k : Int) : memoXChk run9 (runF (TT k M2) 100 none 5 run9.args ⟨run9.bs, run9.n, run9.esc⟩) = true := by kernel_rfl
end Go.Kn
