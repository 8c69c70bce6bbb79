/- Part of the proof: the evaluator, its soundness, its runs. -/
import Derived.Test.YtpbhfabagkpaaaaGreatDoorT

namespace Go.Kn
open Go.Proofs
theorem run6_chk (k : Int) : memoXChk run6 (runF (TT k M2) 100 none 5 run6.args ⟨run6.bs, run6.n, run6.esc⟩) = true := by kernel_rfl
theorem run7_chk (k : Int) : memoXChk run7 (runF (TT k M2) 100 none 5 run7.args ⟨run7.bs, run7.n, run7.esc⟩) = true := by kernel_rfl
end Go.Kn
