/-
  DERIVED. GIVEN WITH THE SEED: THE CARDS: each row of YtpbhfabagkpaaaaGreatDoorRows.lean that lists a variable, with what it lists TIED to the program's text (the seventh form; the later family's looks); each row that meets fmt, with fmt's text TOLD by the authors' own Lean function (tested against real Go, not proved from fmt's source: count such statements apart). THE CARD IS WHAT COUNTS. Prove the row's statement (the work); the ties are given (YtpbhfabagkpaaaaGreatDoorTie.lean); close each card by the builder's one call (the guide's Derived/Test/ToyasCard.lean, 'card_holds'). Laid BY PROGRAM, IN A SANDBOX (cutbox-door.mjs). By AI agents, Wed Nov 11 2026. No macro, syntax, notation, axiom, sorry.
-/
import Derived.Test.YtpbhfabagkpaaaaGreatDoorRows
import GoSem.ClaimSeven
namespace Go.Proofs.YtpbhfabagkpaaaaGreatDoor
namespace Rows

/-- THE TIED CARD OF 'kinetoscopelaw19.StepFault'. -/
def stepFaultCard : Claim7 := { stood := { row := stepFaultRow, standIns := [], harness := (true, "fa66a0b57c56e39c8ed9f1aef38604f544683507cd2734c2ec6fd2240adfd0e3"), looks := true }, kinds := [], alts := [], laidByText := true, laidKinds := [.data, .data, .data, .data, .sentinel, .sentinel, .data, .data, .data, .widerDeep, .data, .widerDeep, .data, .pinned, .pinned], laidTests := true, laidLooks := .later }
def StepFaultCardSaid : Prop := Claim7.holds Tryz.pinned (.plain (OpenSpec.ofChange stepFaultSpec)) stepFaultCard

/-- THE SECOND FORM's CARD OF 'kinetoscopelaw19.StepFault'. -/
def stepFaultUptoCard : Claim7 := { stood := { row := stepFaultUptoRow, standIns := [], harness := (true, "fa66a0b57c56e39c8ed9f1aef38604f544683507cd2734c2ec6fd2240adfd0e3"), looks := true }, kinds := [], alts := [], laidByText := true, laidKinds := [.data, .data, .data, .data, .sentinel, .sentinel, .data, .data, .data, .widerDeep, .data, .widerDeep, .data, .pinned, .pinned], laidTests := true, laidLooks := .later }
def StepFaultUptoCardSaid : Prop := Claim7.holds Tryz.pinned (.plain (OpenSpec.upto stepFaultSpec)) stepFaultUptoCard
end Rows
end Go.Proofs.YtpbhfabagkpaaaaGreatDoor
