/- StepFault, called with any number from 0 to 255, in whatever memory, returns true, and what it was called with reads as it read before: the tied card of the row. Its conditions: the listed package-level variables hold, when the call begins, what the program lays in them (this the card ties to the text of the program, a pruned copy of the project). Nothing else is assumed. -/
import Derived.Test.YtpbhfabagkpaaaaGreatDoorV
import Derived.Test.YtpbhfabagkpaaaaGreatDoorU4
import Derived.Test.YtpbhfabagkpaaaaGreatDoorQ0
import Derived.Test.YtpbhfabagkpaaaaGreatDoorQ3
import Derived.Test.YtpbhfabagkpaaaaGreatDoorCards

namespace Go.Proofs.YtpbhfabagkpaaaaGreatDoor
open Go

/-- StepFault: the tied card. -/
theorem stepFault_holds : Rows.StepFaultCardSaid :=
  Claim7.holds_tied_plain_at .later [] [.data, .data, .data, .data, .sentinel, .sentinel, .data, .data, .data, .widerDeep, .data, .widerDeep, .data, .pinned, .pinned] true (true, "fa66a0b57c56e39c8ed9f1aef38604f544683507cd2734c2ec6fd2240adfd0e3") true f_holds (fun _ h => by cases h) wf (fun _ h => by cases h) stepFault_row_tie rfl ⟨rfl, rfl⟩ mainIs rfl
    (fun f fn hf hfn => by
      obtain rfl : f = 3 := Option.some.inj (fnNamed.symm.trans hf) |>.symm
      obtain rfl : fn = Tryz.f3 := (Option.some.inj (Tryz.func3.symm.trans hfn)).symm
      exact ⟨looks, fun j t ht => by
        rw [Tryz.params3] at ht
        have hm : t ∈ [5] := by simpa using Array.mem_of_getElem? ht
        obtain rfl := List.mem_singleton.1 hm
        exact stand⟩)
    goes
#print axioms stepFault_holds
end Go.Proofs.YtpbhfabagkpaaaaGreatDoor
