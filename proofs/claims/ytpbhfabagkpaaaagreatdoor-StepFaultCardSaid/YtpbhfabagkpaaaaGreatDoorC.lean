/- Part of the proof: the evaluator, its soundness, its runs. -/
import Derived.Test.YtpbhfabagkpaaaaGreatDoorI
import Derived.Test.YtpbhfabagkpaaaaGreatDoorM0
import Derived.Test.YtpbhfabagkpaaaaGreatDoorM1
import Derived.Test.YtpbhfabagkpaaaaGreatDoorM2
import Derived.Test.YtpbhfabagkpaaaaGreatDoorM3
import Derived.Test.YtpbhfabagkpaaaaGreatDoorA
import Derived.Test.YtpbhfabagkpaaaaGreatDoorA0
import Derived.Test.YtpbhfabagkpaaaaGreatDoorA1
import Derived.Test.YtpbhfabagkpaaaaGreatDoorR0
import Derived.Test.YtpbhfabagkpaaaaGreatDoorR1
import Derived.Test.YtpbhfabagkpaaaaGreatDoorR2
import Derived.Test.YtpbhfabagkpaaaaGreatDoorR3
import Derived.Test.YtpbhfabagkpaaaaGreatDoorR4
import Derived.Test.YtpbhfabagkpaaaaGreatDoorF0
import Derived.Test.YtpbhfabagkpaaaaGreatDoorF1
import Derived.Test.YtpbhfabagkpaaaaGreatDoorF2
import Derived.Test.YtpbhfabagkpaaaaGreatDoorF3

namespace Go.Kn
open Go.Proofs Go.RowKit

variable {T : Tab} {P : Program}

theorem memoXL_ok {f : FuncId} : ∀ {l : List MemoX}, (∀ d ∈ l, FnIs T P f (memoX d)) → FnIs T P f (memoXL l)
  | [], _ => fun args m r h => by cases h
  | d :: l, h => fun args m r hr ι I w xs hG hR hv hb => by
    simp only [memoXL] at hr
    split at hr
    · rename_i r' h1
      cases hr
      exact h d List.mem_cons_self args m r h1 ι I w xs hG hR hv hb
    · exact memoXL_ok (fun p hp => h p (List.mem_cons_of_mem _ hp)) args m r hr ι I w xs hG hR hv hb

theorem glob_parts (P : Program) (k : Int) (m m' : MK) : (tabOf (seatParts P k m)).glob = (tabOf (seatParts P k m')).glob := rfl
theorem globT (k : Int) (m m' : MK) : (TT k m).glob = (TT k m').glob := glob_parts PT k m m'

theorem i0T (k : Int) : IntrOk (TT k M0) PT := intrT (by intro p hp; cases hp)

theorem keep26 (k : Int) {a : List NV} {d : MemoD} (h : memoChk d (runF (TT k M0) 100 none 12 a ⟨[], 0, []⟩) = true) (hc : maxIds a = 0) : FnIs (TT k M1) PT 12 (memoG a d) :=
  (memo_ok (tabT k M0) mixT (i0T k) h hc).glob (globT k _ _)

theorem is26 (k : Int) : FnIs (TT k M1) PT 12 (memoL memosP) := by
  refine memoL_ok fun p hp => ?_
  simp only [memosP, List.mem_cons, List.not_mem_nil, or_false] at hp
  rcases hp with rfl | rfl | rfl | rfl | rfl | rfl | rfl | rfl | rfl | rfl | rfl | rfl
  · exact keep26 k (memo0_chk k) rfl
  · exact keep26 k (memo1_chk k) rfl
  · exact keep26 k (memo2_chk k) rfl
  · exact keep26 k (memo3_chk k) rfl
  · exact keep26 k (memo4_chk k) rfl
  · exact keep26 k (memo5_chk k) rfl
  · exact keep26 k (memo6_chk k) rfl
  · exact keep26 k (memo7_chk k) rfl
  · exact keep26 k (memo8_chk k) rfl
  · exact keep26 k (memo9_chk k) rfl
  · exact keep26 k (memo10_chk k) rfl
  · exact keep26 k (memo11_chk k) rfl

theorem m1T (k : Int) : ∀ p ∈ M1, FnIs (TT k M1) PT p.1 p.2 := by
  intro p hp
  simp only [M1, List.mem_cons, List.not_mem_nil, or_false] at hp
  subst hp
  exact is26 k

theorem isA (k : Int) : FnIs (TT k MA) PT 5 (memoXL runsA) := by
  refine memoXL_ok fun d hd => ?_
  simp only [runsA, List.mem_cons, List.not_mem_nil, or_false] at hd
  rcases hd with rfl | rfl
  · exact (memoX_ok (tabT k M1) mixT (intrT (m1T k)) (runA0_chk k)).glob (globT k _ _)
  · exact (memoX_ok (tabT k M1) mixT (intrT (m1T k)) (runA1_chk k)).glob (globT k _ _)

theorem mAT (k : Int) : ∀ p ∈ MA, FnIs (TT k MA) PT p.1 p.2 := by
  intro p hp
  simp only [MA, List.mem_cons, List.not_mem_nil, or_false] at hp
  rcases hp with rfl | rfl
  · exact (is26 k).glob (globT k _ _)
  · exact isA k

theorem is15 (k : Int) : FnIs (TT k M2) PT 4 (memoG [] awakeM) := (memo_ok (tabT k MA) mixT (intrT (mAT k)) (awake_chk k) rfl).glob (globT k _ _)

theorem m2T (k : Int) : ∀ p ∈ M2, FnIs (TT k M2) PT p.1 p.2 := by
  intro p hp
  simp only [M2, List.mem_cons, List.not_mem_nil, or_false] at hp
  rcases hp with rfl | rfl
  · exact (is26 k).glob (globT k _ _)
  · exact is15 k

theorem keep21 (k : Int) {d : MemoX} (h : memoXChk d (runF (TT k M2) 100 none 5 d.args ⟨d.bs, d.n, d.esc⟩) = true) : FnIs (TT k M3) PT 5 (memoX d) :=
  (memoX_ok (tabT k M2) mixT (intrT (m2T k)) h).glob (globT k _ _)

theorem is21 (k : Int) : FnIs (TT k M3) PT 5 (memoXL runs) := by
  refine memoXL_ok fun d hd => ?_
  simp only [runs, List.mem_cons, List.not_mem_nil, or_false] at hd
  rcases hd with rfl | rfl | rfl | rfl | rfl | rfl | rfl | rfl | rfl | rfl
  · exact keep21 k (run0_chk k)
  · exact keep21 k (run1_chk k)
  · exact keep21 k (run2_chk k)
  · exact keep21 k (run3_chk k)
  · exact keep21 k (run4_chk k)
  · exact keep21 k (run5_chk k)
  · exact keep21 k (run6_chk k)
  · exact keep21 k (run7_chk k)
  · exact keep21 k (run8_chk k)
  · exact keep21 k (run9_chk k)

theorem m3T (k : Int) : ∀ p ∈ M3, FnIs (TT k M3) PT p.1 p.2 := by
  intro p hp
  simp only [M3, List.mem_cons, List.not_mem_nil, or_false] at hp
  rcases hp with rfl | rfl | rfl
  · exact (is26 k).glob (globT k _ _)
  · exact (is15 k).glob (globT k _ _)
  · exact is21 k

theorem fault_all (k : Int) : ∀ h : Nat, h < 256 → memoChk awakeM (runF (TT k M3) 100 none 3 [.int .u8 (Int.ofNat h)] ⟨[], 0, []⟩) = true
  | 0, _ => fault0_chk k
  | 1, _ => fault1_chk k
  | 2, _ => fault2_chk k
  | 3, _ => fault3_chk k
  | 4, _ => fault4_chk k
  | 5, _ => fault5_chk k
  | 6, _ => fault6_chk k
  | 7, _ => fault7_chk k
  | 8, _ => fault8_chk k
  | 9, _ => fault9_chk k
  | 10, _ => fault10_chk k
  | 11, _ => fault11_chk k
  | 12, _ => fault12_chk k
  | 13, _ => fault13_chk k
  | 14, _ => fault14_chk k
  | 15, _ => fault15_chk k
  | 16, _ => fault16_chk k
  | 17, _ => fault17_chk k
  | 18, _ => fault18_chk k
  | 19, _ => fault19_chk k
  | 20, _ => fault20_chk k
  | 21, _ => fault21_chk k
  | 22, _ => fault22_chk k
  | 23, _ => fault23_chk k
  | 24, _ => fault24_chk k
  | 25, _ => fault25_chk k
  | 26, _ => fault26_chk k
  | 27, _ => fault27_chk k
  | 28, _ => fault28_chk k
  | 29, _ => fault29_chk k
  | 30, _ => fault30_chk k
  | 31, _ => fault31_chk k
  | 32, _ => fault32_chk k
  | 33, _ => fault33_chk k
  | 34, _ => fault34_chk k
  | 35, _ => fault35_chk k
  | 36, _ => fault36_chk k
  | 37, _ => fault37_chk k
  | 38, _ => fault38_chk k
  | 39, _ => fault39_chk k
  | 40, _ => fault40_chk k
  | 41, _ => fault41_chk k
  | 42, _ => fault42_chk k
  | 43, _ => fault43_chk k
  | 44, _ => fault44_chk k
  | 45, _ => fault45_chk k
  | 46, _ => fault46_chk k
  | 47, _ => fault47_chk k
  | 48, _ => fault48_chk k
  | 49, _ => fault49_chk k
  | 50, _ => fault50_chk k
  | 51, _ => fault51_chk k
  | 52, _ => fault52_chk k
  | 53, _ => fault53_chk k
  | 54, _ => fault54_chk k
  | 55, _ => fault55_chk k
  | 56, _ => fault56_chk k
  | 57, _ => fault57_chk k
  | 58, _ => fault58_chk k
  | 59, _ => fault59_chk k
  | 60, _ => fault60_chk k
  | 61, _ => fault61_chk k
  | 62, _ => fault62_chk k
  | 63, _ => fault63_chk k
  | 64, _ => fault64_chk k
  | 65, _ => fault65_chk k
  | 66, _ => fault66_chk k
  | 67, _ => fault67_chk k
  | 68, _ => fault68_chk k
  | 69, _ => fault69_chk k
  | 70, _ => fault70_chk k
  | 71, _ => fault71_chk k
  | 72, _ => fault72_chk k
  | 73, _ => fault73_chk k
  | 74, _ => fault74_chk k
  | 75, _ => fault75_chk k
  | 76, _ => fault76_chk k
  | 77, _ => fault77_chk k
  | 78, _ => fault78_chk k
  | 79, _ => fault79_chk k
  | 80, _ => fault80_chk k
  | 81, _ => fault81_chk k
  | 82, _ => fault82_chk k
  | 83, _ => fault83_chk k
  | 84, _ => fault84_chk k
  | 85, _ => fault85_chk k
  | 86, _ => fault86_chk k
  | 87, _ => fault87_chk k
  | 88, _ => fault88_chk k
  | 89, _ => fault89_chk k
  | 90, _ => fault90_chk k
  | 91, _ => fault91_chk k
  | 92, _ => fault92_chk k
  | 93, _ => fault93_chk k
  | 94, _ => fault94_chk k
  | 95, _ => fault95_chk k
  | 96, _ => fault96_chk k
  | 97, _ => fault97_chk k
  | 98, _ => fault98_chk k
  | 99, _ => fault99_chk k
  | 100, _ => fault100_chk k
  | 101, _ => fault101_chk k
  | 102, _ => fault102_chk k
  | 103, _ => fault103_chk k
  | 104, _ => fault104_chk k
  | 105, _ => fault105_chk k
  | 106, _ => fault106_chk k
  | 107, _ => fault107_chk k
  | 108, _ => fault108_chk k
  | 109, _ => fault109_chk k
  | 110, _ => fault110_chk k
  | 111, _ => fault111_chk k
  | 112, _ => fault112_chk k
  | 113, _ => fault113_chk k
  | 114, _ => fault114_chk k
  | 115, _ => fault115_chk k
  | 116, _ => fault116_chk k
  | 117, _ => fault117_chk k
  | 118, _ => fault118_chk k
  | 119, _ => fault119_chk k
  | 120, _ => fault120_chk k
  | 121, _ => fault121_chk k
  | 122, _ => fault122_chk k
  | 123, _ => fault123_chk k
  | 124, _ => fault124_chk k
  | 125, _ => fault125_chk k
  | 126, _ => fault126_chk k
  | 127, _ => fault127_chk k
  | 128, _ => fault128_chk k
  | 129, _ => fault129_chk k
  | 130, _ => fault130_chk k
  | 131, _ => fault131_chk k
  | 132, _ => fault132_chk k
  | 133, _ => fault133_chk k
  | 134, _ => fault134_chk k
  | 135, _ => fault135_chk k
  | 136, _ => fault136_chk k
  | 137, _ => fault137_chk k
  | 138, _ => fault138_chk k
  | 139, _ => fault139_chk k
  | 140, _ => fault140_chk k
  | 141, _ => fault141_chk k
  | 142, _ => fault142_chk k
  | 143, _ => fault143_chk k
  | 144, _ => fault144_chk k
  | 145, _ => fault145_chk k
  | 146, _ => fault146_chk k
  | 147, _ => fault147_chk k
  | 148, _ => fault148_chk k
  | 149, _ => fault149_chk k
  | 150, _ => fault150_chk k
  | 151, _ => fault151_chk k
  | 152, _ => fault152_chk k
  | 153, _ => fault153_chk k
  | 154, _ => fault154_chk k
  | 155, _ => fault155_chk k
  | 156, _ => fault156_chk k
  | 157, _ => fault157_chk k
  | 158, _ => fault158_chk k
  | 159, _ => fault159_chk k
  | 160, _ => fault160_chk k
  | 161, _ => fault161_chk k
  | 162, _ => fault162_chk k
  | 163, _ => fault163_chk k
  | 164, _ => fault164_chk k
  | 165, _ => fault165_chk k
  | 166, _ => fault166_chk k
  | 167, _ => fault167_chk k
  | 168, _ => fault168_chk k
  | 169, _ => fault169_chk k
  | 170, _ => fault170_chk k
  | 171, _ => fault171_chk k
  | 172, _ => fault172_chk k
  | 173, _ => fault173_chk k
  | 174, _ => fault174_chk k
  | 175, _ => fault175_chk k
  | 176, _ => fault176_chk k
  | 177, _ => fault177_chk k
  | 178, _ => fault178_chk k
  | 179, _ => fault179_chk k
  | 180, _ => fault180_chk k
  | 181, _ => fault181_chk k
  | 182, _ => fault182_chk k
  | 183, _ => fault183_chk k
  | 184, _ => fault184_chk k
  | 185, _ => fault185_chk k
  | 186, _ => fault186_chk k
  | 187, _ => fault187_chk k
  | 188, _ => fault188_chk k
  | 189, _ => fault189_chk k
  | 190, _ => fault190_chk k
  | 191, _ => fault191_chk k
  | 192, _ => fault192_chk k
  | 193, _ => fault193_chk k
  | 194, _ => fault194_chk k
  | 195, _ => fault195_chk k
  | 196, _ => fault196_chk k
  | 197, _ => fault197_chk k
  | 198, _ => fault198_chk k
  | 199, _ => fault199_chk k
  | 200, _ => fault200_chk k
  | 201, _ => fault201_chk k
  | 202, _ => fault202_chk k
  | 203, _ => fault203_chk k
  | 204, _ => fault204_chk k
  | 205, _ => fault205_chk k
  | 206, _ => fault206_chk k
  | 207, _ => fault207_chk k
  | 208, _ => fault208_chk k
  | 209, _ => fault209_chk k
  | 210, _ => fault210_chk k
  | 211, _ => fault211_chk k
  | 212, _ => fault212_chk k
  | 213, _ => fault213_chk k
  | 214, _ => fault214_chk k
  | 215, _ => fault215_chk k
  | 216, _ => fault216_chk k
  | 217, _ => fault217_chk k
  | 218, _ => fault218_chk k
  | 219, _ => fault219_chk k
  | 220, _ => fault220_chk k
  | 221, _ => fault221_chk k
  | 222, _ => fault222_chk k
  | 223, _ => fault223_chk k
  | 224, _ => fault224_chk k
  | 225, _ => fault225_chk k
  | 226, _ => fault226_chk k
  | 227, _ => fault227_chk k
  | 228, _ => fault228_chk k
  | 229, _ => fault229_chk k
  | 230, _ => fault230_chk k
  | 231, _ => fault231_chk k
  | 232, _ => fault232_chk k
  | 233, _ => fault233_chk k
  | 234, _ => fault234_chk k
  | 235, _ => fault235_chk k
  | 236, _ => fault236_chk k
  | 237, _ => fault237_chk k
  | 238, _ => fault238_chk k
  | 239, _ => fault239_chk k
  | 240, _ => fault240_chk k
  | 241, _ => fault241_chk k
  | 242, _ => fault242_chk k
  | 243, _ => fault243_chk k
  | 244, _ => fault244_chk k
  | 245, _ => fault245_chk k
  | 246, _ => fault246_chk k
  | 247, _ => fault247_chk k
  | 248, _ => fault248_chk k
  | 249, _ => fault249_chk k
  | 250, _ => fault250_chk k
  | 251, _ => fault251_chk k
  | 252, _ => fault252_chk k
  | 253, _ => fault253_chk k
  | 254, _ => fault254_chk k
  | 255, _ => fault255_chk k
  | n + 256, h => absurd h (by omega)

/-- What the evaluator says of StepFault, of the model. -/
theorem fault_calls (k : Int) {ι : Iota} {I : Imm} {w : World} (hG : GlobOk (TT k M3) I) (hR : R ι I ⟨[], 0, []⟩ w) {h : Nat} (hh : h < 256) :
    Calls PT 3 #[.int .u8 (Int.ofNat h)] w fun e w' => e = .returned (.bool true) ∧ Below w.heap.size w w' := by
  have hck := fault_all k h hh
  cases hrun : runF (TT k M3) 100 none 3 [.int .u8 (Int.ofNat h)] ⟨[], 0, []⟩ with
  | none => rw [hrun] at hck; simp [memoChk] at hck
  | some rt =>
    obtain ⟨r, t⟩ := rt
    rw [hrun] at hck
    cases r with
    | pan v m => simp [memoChk] at hck
    | ret v0 m0 =>
      simp only [memoChk, Bool.and_eq_true] at hck
      have hv0 : NV.bool true = v0 := beqV_eq hck.1.1.1
      subst hv0
      have := (runF_sound (tabT k M3) mixT (intrT (m3T k)) hrun (xs := #[.int .u8 (Int.ofNat h)]) hG hR (by simp [VL, V]) (by simp [maxIds, maxId, mx_eq])).2
      refine this.mono fun e w' he => ?_
      cases e with
      | returned x =>
        obtain ⟨ι', I', hv, _, _, x1⟩ := he
        simp only [V] at hv
        subst hv
        refine ⟨rfl, x1.os, x1.tape, x1.output, x1.size, fun j hj => x1.frame j hj fun b o hb _ => (empty_get hb).elim⟩
      | panicked c => exact he.elim
      | outgrown => exact he.elim

end Go.Kn

namespace Go.Kn
open Go.RowKit

/-- StepFault, in every world in which the package's variables lie as they are laid. -/
theorem fault_world {k : Int} {w : World} (h : LaidW k w) {n : Nat} (hn : n < 256) :
    Calls PT 3 #[.int .u8 (Int.ofNat n)] w fun e w' => e = .returned (.bool true) ∧ Below w.heap.size w w' :=
  fault_calls k (LaidW.glob h) (R.start w) hn

end Go.Kn
