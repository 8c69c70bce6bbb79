/- Part of the proof: the evaluator, its soundness, its runs. -/
import Derived.Test.YtpbhfabagkpaaaaGreatDoorRows
import Derived.KernelRfl
import Derived.ProofKit
import Derived.Stop.Joined
import Derived.Lay
import Derived.LaidMore
import Derived.SevenTiedAt
import Derived.MakeChecks
import Derived.Test.YtpbhfabagkpaaaaGreatDoorQ0
import Derived.Test.YtpbhfabagkpaaaaGreatDoorQ5
import Derived.Test.YtpbhfabagkpaaaaGreatDoorQ7
import Derived.Test.YtpbhfabagkpaaaaGreatDoorQ8
import Derived.Test.YtpbhfabagkpaaaaGreatDoorQ9

namespace Go.Proofs.YtpbhfabagkpaaaaGreatDoor
open Go
set_option maxRecDepth 100000
theorem rowClosed : joinedFacts Tryz.prog 3 Tryz.f3 Rows.stepFaultSpec Rows.stepFaultRow = true := by
  unfold joinedFacts
  rw [inPl, unf, recs, vrs, rowLaidOut, rowMaps, rowKeys, rowHeard, rowEnter, rowLifts, rowMake]
  kernel_rfl
end Go.Proofs.YtpbhfabagkpaaaaGreatDoor
