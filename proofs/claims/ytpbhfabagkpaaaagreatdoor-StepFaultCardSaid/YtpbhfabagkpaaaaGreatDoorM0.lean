/- Part of the proof: the evaluator, its soundness, its runs. -/
import Derived.Test.YtpbhfabagkpaaaaGreatDoorT

namespace Go.Kn
open Go.Proofs
theorem memo0_chk (k : Int) : memoChk memo0 (runF (TT k M0) 100 none 12 [.str script0] ⟨[], 0, []⟩) = true := by kernel_rfl
theorem memo1_chk (k : Int) : memoChk memo1 (runF (TT k M0) 100 none 12 [.str script1] ⟨[], 0, []⟩) = true := by kernel_rfl
theorem memo2_chk (k : Int) : memoChk memo2 (runF (TT k M0) 100 none 12 [.str script2] ⟨[], 0, []⟩) = true := by kernel_rfl
end Go.Kn
