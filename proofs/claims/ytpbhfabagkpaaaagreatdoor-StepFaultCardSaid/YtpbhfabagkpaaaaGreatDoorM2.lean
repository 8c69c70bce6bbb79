/- Part of the proof: the evaluator, its soundness, its runs. -/
import Derived.Test.YtpbhfabagkpaaaaGreatDoorT

namespace Go.Kn
open Go.Proofs
theorem memo6_chk (k : Int) : memoChk memo6 (runF (TT k M0) 100 none 12 [.str script6] ⟨[], 0, []⟩) = true := by kernel_rfl
theorem memo7_chk (k : Int) : memoChk memo7 (runF (TT k M0) 100 none 12 [.str script7] ⟨[], 0, []⟩) = true := by kernel_rfl
theorem memo8_chk (k : Int) : memoChk memo8 (runF (TT k M0) 100 none 12 [.str script8] ⟨[], 0, []⟩) = true := by kernel_rfl
end Go.Kn
