/- Part of the proof: the evaluator, its soundness, its runs. -/
import Derived.Test.YtpbhfabagkpaaaaGreatDoorL
import Derived.Test.YtpbhfabagkpaaaaGreatDoorT
import Derived.Test.YtpbhfabagkpaaaaGreatDoorD

namespace Go.Kn
open Go.Proofs Go.RowKit

theorem mixT : PT.follows .mixedOrders = true := by kernel_rfl

theorem joinT : JoinIs PT 116 := ⟨fun a c sep w => Any.strings_Join_none Tryz.lays156 Tryz.extra156 a c sep w, fun bk o c xs sep w h1 h2 h3 h4 h5 => Any.strings_Join Tryz.lays156 Tryz.extra156 bk o c xs sep w h1 h2 h3 h4 h5⟩
theorem repeatT : RepeatIs PT 422 := fun s c w h1 h2 => Any.strings_Repeat Tryz.lays105 Tryz.extra105 s c w h1 h2
theorem cloneT : CloneIs PT 408 := fun s w h => AnyPu.stringslite_Clone Tryz.lays25 s w h
theorem indexT : IndexIs PT 222 4 := fun s sub k w h1 h2 => Any.stringslite_Index Tryz.lays219 s sub k w h1 h2

theorem enter116 : EnterAt PT 116 := fun xs w => enters_of Tryz.func116 (by kernel_rfl) rfl xs w
theorem enter422 : EnterAt PT 422 := fun xs w => enters_of Tryz.func422 (by kernel_rfl) rfl xs w
theorem enter408 : EnterAt PT 408 := fun xs w => enters_of Tryz.func408 (by kernel_rfl) rfl xs w
theorem enter222 : EnterAt PT 222 := fun xs w => enters_of Tryz.func222 (by kernel_rfl) rfl xs w

theorem ext221 : ExtAt PT 221 Extern.BytealgCount.count := ⟨_, Tryz.func221, by kernel_rfl, by kernel_rfl, by kernel_rfl, by kernel_rfl⟩
theorem ext272 : ExtAt PT 272 Extern.BytealgCompare.compare := ⟨_, Tryz.func272, by kernel_rfl, by kernel_rfl, by kernel_rfl, by kernel_rfl⟩
theorem ext286 : ExtAt PT 286 Extern.BytealgIndexByte.indexByte := ⟨_, Tryz.func286, by kernel_rfl, by kernel_rfl, by kernel_rfl, by kernel_rfl⟩
theorem ext410 : ExtAt PT 410 (Extern.Atomic.loadT (.int .u32)) := ⟨_, Tryz.func410, by kernel_rfl, by kernel_rfl, by kernel_rfl, by kernel_rfl⟩
theorem ext436 : ExtAt PT 436 Extern.Atomic.storeT := ⟨_, Tryz.func436, by kernel_rfl, by kernel_rfl, by kernel_rfl, by kernel_rfl⟩
theorem ext464 : ExtAt PT 464 (Extern.Atomic.casT (.int .i32)) := ⟨_, Tryz.func464, by kernel_rfl, by kernel_rfl, by kernel_rfl, by kernel_rfl⟩
theorem ext469 : ExtAt PT 469 (Extern.Atomic.update (Op.intArith .add) .i32 true) := ⟨_, Tryz.func469, by kernel_rfl, by kernel_rfl, by kernel_rfl, by kernel_rfl⟩
theorem ext463 : ExtAt PT 463 (fun _ => do mark .disable; pure Extern.Race.none_) := ⟨_, Tryz.func463, by kernel_rfl, by kernel_rfl, by kernel_rfl, by kernel_rfl⟩
theorem ext465 : ExtAt PT 465 (fun _ => do mark .enable; pure Extern.Race.none_) := ⟨_, Tryz.func465, by kernel_rfl, by kernel_rfl, by kernel_rfl, by kernel_rfl⟩
theorem ext466 : ExtAt PT 466 (Extern.Race.marked .acquire) := ⟨_, Tryz.func466, by kernel_rfl, by kernel_rfl, by kernel_rfl, by kernel_rfl⟩
theorem ext468 : ExtAt PT 468 (Extern.Race.marked .releaseMerge) := ⟨_, Tryz.func468, by kernel_rfl, by kernel_rfl, by kernel_rfl, by kernel_rfl⟩

theorem maxLenT {k : Int} {memo : List (Nat × (List NV → Mem → Option CallRes))} : ∀ I, GlobOk (TT k memo) I → ∃ n, I 4 0 = some (.int .i64 n) := by
  intro I hG
  have := (hG 4 [.int .i64 k] rfl).2 (fun _ => default)
  simp only [VI, V] at this
  obtain ⟨⟨x, h1, h2⟩, _⟩ := this
  exact ⟨k, by rw [h1, h2]⟩

theorem intrT {k : Int} {memo : List (Nat × (List NV → Mem → Option CallRes))} (hm : ∀ p ∈ memo, FnIs (TT k memo) PT p.1 p.2) : IntrOk (TT k memo) PT := by
  intro f g hfg
  have hmem : (f, g) ∈ memo ++ seatIntrs := findN_mem (show findN f (memo ++ seatIntrs) = some g from hfg)
  rcases List.mem_append.1 hmem with h | h
  · exact hm (f, g) h
  · simp only [seatIntrs, List.mem_cons, Prod.mk.injEq, List.not_mem_nil, or_false] at h
    rcases h with ⟨rfl, rfl⟩ | ⟨rfl, rfl⟩ | ⟨rfl, rfl⟩ | ⟨rfl, rfl⟩ | ⟨rfl, rfl⟩ | ⟨rfl, rfl⟩ | ⟨rfl, rfl⟩ | ⟨rfl, rfl⟩ | ⟨rfl, rfl⟩ | ⟨rfl, rfl⟩ | ⟨rfl, rfl⟩ | ⟨rfl, rfl⟩ | ⟨rfl, rfl⟩ | ⟨rfl, rfl⟩ | ⟨rfl, rfl⟩
    · exact iCountS_ok ext221
    · exact iCmp_ok ext272
    · exact iIndexByteS_ok ext286
    · exact iJoin_ok enter116 joinT
    · exact iRepeat_ok enter422 repeatT
    · exact iClone_ok enter408 cloneT
    · exact iIndex_ok enter222 indexT maxLenT
    · exact iLoadA_ok ext410
    · exact iStoreA_ok ext436
    · exact iCasA_ok ext464
    · exact iAddA_ok ext469
    · exact iNop0_ok ext463
    · exact iNop0_ok ext465
    · exact iNop1_ok ext466
    · exact iNop1_ok ext468

theorem tnT : Nat.ble (PT.types.size + 1) 1048576 = true := by kernel_rfl
theorem fnnT : Nat.ble (PT.funcs.size + 1) 1048576 = true := by kernel_rfl
theorem tcT : PT.types.toList.all (tyChk PT) = true := by kernel_rfl
theorem fcT : PT.funcs.toList.all fnChk = true := by kernel_rfl
theorem ecT : [411].all (eqChk PT) = true := by kernel_rfl

theorem tabT0 (k : Int) (memo : List (Nat × (List NV → Mem → Option CallRes))) : TabOk (tabOf (seatParts PT k memo)) PT := @seatTab PT k memo tnT fnnT tcT fcT ecT
theorem tabT (k : Int) (memo : List (Nat × (List NV → Mem → Option CallRes))) : TabOk (TT k memo) PT := tabT0 k memo

end Go.Kn
