/- Part of the proof: the evaluator, its soundness, its runs. -/
import Derived.Test.YtpbhfabagkpaaaaGreatDoorT

namespace Go.Kn
open Go.Proofs
theorem awake_chk (k : Int) : memoChk awakeM (runF (TT k MA) 100 none 4 [] ⟨[], 0, []⟩) = true := by kernel_rfl
end Go.Kn
