/- Part of the proof: the evaluator, its soundness, its runs. -/
import Derived.Test.YtpbhfabagkpaaaaGreatDoorD
import Derived.Test.YtpbhfabagkpaaaaGreatDoorProg
import Derived.KernelRfl

namespace Go.Kn
open Go.Proofs
noncomputable abbrev PT : Program := Tryz.prog
/-- The table, over more that is kept. -/
noncomputable def TT (k : Int) (memo : List (Nat × (List NV → Mem → Option CallRes))) : Tab := tabOf (seatParts PT k memo)
def awakeM : MemoD := ⟨.bool true, [], []⟩
def runs : List MemoX := [run0, run1, run2, run3, run4, run5, run6, run7, run8, run9]
def memoXL : List MemoX → List NV → Mem → Option CallRes
  | [], _, _ => none
  | d :: l, args, m => match memoX d args m with
    | some r => some r
    | none => memoXL l args m
abbrev MK := List (Nat × (List NV → Mem → Option CallRes))
def M0 : MK := []
def M1 : MK := [(12, memoL memosP)]
def runsA : List MemoX := [runA0, runA1]
def MA : MK := [(12, memoL memosP), (5, memoXL runsA)]
def M2 : MK := [(12, memoL memosP), (4, memoG [] awakeM)]
def M3 : MK := [(12, memoL memosP), (4, memoG [] awakeM), (5, memoXL runs)]
end Go.Kn
