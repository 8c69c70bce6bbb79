/- Part of the proof: the evaluator, its soundness, its runs. -/
import Derived.Test.YtpbhfabagkpaaaaGreatDoorT

namespace Go.Kn
open Go.Proofs
theorem memo3_chk (k : Int) : memoChk memo3 (runF (TT k M0) 100 none 12 [.str script3] ⟨[], 0, []⟩) = true := by kernel_rfl
theorem memo4_chk (k : Int) : memoChk memo4 (runF (TT k M0) 100 none 12 [.str script4] ⟨[], 0, []⟩) = true := by kernel_rfl
theorem memo5_chk (k : Int) : memoChk memo5 (runF (TT k M0) 100 none 12 [.str script5] ⟨[], 0, []⟩) = true := by kernel_rfl
end Go.Kn
