/- Part of the proof: the evaluator, its soundness, its runs. -/
import Derived.Test.YtpbhfabagkpaaaaGreatDoorT

namespace Go.Kn
open Go.Proofs
theorem memo9_chk (k : Int) : memoChk memo9 (runF (TT k M0) 100 none 12 [.str script9] ⟨[], 0, []⟩) = true := by kernel_rfl
theorem memo10_chk (k : Int) : memoChk memo10 (runF (TT k M0) 100 none 12 [.str script10] ⟨[], 0, []⟩) = true := by kernel_rfl
theorem memo11_chk (k : Int) : memoChk memo11 (runF (TT k M0) 100 none 12 [.str script11] ⟨[], 0, []⟩) = true := by kernel_rfl
end Go.Kn
