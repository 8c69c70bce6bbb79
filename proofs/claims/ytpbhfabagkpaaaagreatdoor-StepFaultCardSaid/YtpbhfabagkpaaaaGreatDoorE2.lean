/- Part of the proof: the evaluator, its soundness, its runs. -/
import Derived.Test.YtpbhfabagkpaaaaGreatDoorE1
import Derived.Laws.Tables
import Derived.Laws.Append
import Derived.Laws.BytesString
import Derived.MapKept
import Derived.Laws.StructEq
import Derived.RangeFuncRecord
import Derived.RecoverIn

namespace Go.Kn

variable {T : Tab} {P : Program} {ι : Iota} {I : Imm} {m : Mem} {w : World}

/-- Parts, each with its number. -/
def VP (ι : Iota) (I : Imm) : List (Nat × NV) → List (Nat × Value) → Prop
  | [], r => r = []
  | (i, v) :: l, r => ∃ x s, r = (i, x) :: s ∧ V ι I v x ∧ VP ι I l s

def maxIdsQ : List (Nat × NV) → Nat
  | [] => 0
  | (_, v) :: l => max (maxId v) (maxIdsQ l)

theorem rhoP_sound {e : Env} {a : Act} (hg : GlobOk T I) (hE : ER ι I m e a.tmps) : ∀ {xs : List (Nat × Operand)} {l : List (Nat × NV)}, (rhoP T xs).f e = some l → VP ι I l (xs.map fun (i, x) => (i, a.eval x)) ∧ maxIdsQ l ≤ m.n
  | [], l, h => by simp [rhoP] at h; subst h; simp [VP, maxIdsQ]
  | (i, x) :: xs, l, h => by
    simp only [rhoP] at h
    split at h
    · rename_i v hv
      split at h
      · rename_i r hr
        simp only [Option.some.injEq] at h; subst h
        have h1 := rho_sound hg hE hv
        have h2 := rhoP_sound hg hE hr
        refine ⟨⟨_, _, rfl, h1.1, h2.1⟩, by simp only [maxIdsQ]; omega⟩
      · cases h
    · cases h

theorem foldl_set (vs : List Value) : ∀ (cs : Array Value) (off k : Nat), off + k + vs.length ≤ cs.size →
    ((vs.zipIdx k).foldl (fun (cs : Array Value) (x : Value × Nat) => cs.setIfInBounds (off + x.2) x.1) cs).toList = cs.toList.take (off + k) ++ vs ++ cs.toList.drop (off + k + vs.length) := by
  induction vs with
  | nil => intro cs off k h; simp
  | cons v vs ih =>
    intro cs off k h
    simp only [List.length_cons] at h
    simp only [List.zipIdx_cons, List.foldl_cons]
    rw [ih _ off (k + 1) (by simp; omega)]
    simp only [Array.toList_setIfInBounds, List.length_cons]
    have e1 : (cs.toList.set (off + k) v).take (off + (k + 1)) = cs.toList.take (off + k) ++ [v] := by
      have hl : off + k < cs.toList.length := by simp; omega
      rw [show off + (k + 1) = off + k + 1 by omega, List.take_succ_eq_append_getElem (by simpa using hl)]
      rw [List.take_set_of_le (Nat.le_refl _)]
      simp
    have e2 : (cs.toList.set (off + k) v).drop (off + (k + 1) + vs.length) = cs.toList.drop (off + k + (vs.length + 1)) := by
      rw [List.drop_set_of_lt (by omega)]
      congr 1; omega
    rw [e1, e2]
    simp

theorem fill_step (vs : Array Value) (cs : Array Value) (off : Nat) (h : off + vs.size ≤ cs.size) :
    (vs.zipIdx.foldl (fun (cs : Array Value) (x : Value × Nat) => cs.setIfInBounds (off + x.2) x.1) cs).toList = cs.toList.take off ++ vs.toList ++ cs.toList.drop (off + vs.size) := by
  have := foldl_set vs.toList cs off 0 (by simpa using h)
  simp only [Nat.add_zero, Array.length_toList] at this
  rw [← this, ← Array.foldl_toList, Array.toList_zipIdx]

theorem fill_sound {place place' : Nat → Option (Nat × Nat)} (hp : ∀ i p, place i = some p → place' i = some p) : ∀ {ps : List (Nat × NV)} {xs : List (Nat × Value)} {cs cs' : List NV} {arr : Array Value},
    VP ι I ps xs → fillN place cs ps = some cs' → VL ι I cs arr.toList → ∃ arr', Instr.fill place' arr xs = some arr' ∧ VL ι I cs' arr'.toList ∧ maxIds cs' ≤ max (maxIds cs) (maxIdsQ ps)
  | [], xs, cs, cs', arr, hx, h, hv => by
    simp only [VP] at hx; subst hx
    simp only [fillN, Option.some.injEq] at h; subst h
    exact ⟨arr, rfl, hv, by omega⟩
  | (i, v) :: ps, xs, cs, cs', arr, hx, h, hv => by
    obtain ⟨x, s, rfl, hvx, hx⟩ := hx
    simp only [fillN] at h
    split at h
    case h_2 => cases h
    rename_i p hpl
    split at h
    · cases h
    rename_i hlen
    have hlen := Nat.eq_of_beq_eq_true hlen
    split at h
    case h_2 => cases h
    rename_i cs1 hs
    obtain ⟨e1, e2⟩ := setAt_eq hs
    obtain ⟨h2, h3⟩ := V_cells hvx
    have hsz := V_cells_size hvx
    have hl := VL_length hv
    simp only [Array.length_toList] at hl
    have hfit : p.1 + x.cells.size ≤ arr.size := by omega
    have hst := fill_step x.cells arr p.1 hfit
    have hv1 : VL ι I cs1 (x.cells.zipIdx.foldl (fun (cs : Array Value) (y : Value × Nat) => cs.setIfInBounds (p.1 + y.2) y.1) arr).toList := by
      rw [hst, e2, hsz]
      exact VL_append (VL_append (VL_take _ hv) h2) (VL_drop _ hv)
    obtain ⟨arr', k1, k2, k3⟩ := fill_sound hp hx h hv1
    refine ⟨arr', ?_, k2, ?_⟩
    · simp only [Instr.fill, hp i p hpl]
      have c1 : ¬ (x.cells.size ≠ p.2) := by omega
      have c2 : ¬ (p.1 + x.cells.size > arr.size) := by omega
      simp only [c1, c2, decide_false, Bool.or_self, Bool.false_eq_true, if_false]
      exact k1
    · simp only [maxIdsQ]
      rw [e2] at k3
      have a1 := maxIds_append (l := cs.take p.1 ++ v.cells) (r := cs.drop (p.1 + v.cells.length))
      have a2 := maxIds_append (l := cs.take p.1) (r := v.cells)
      have a3 := maxIds_take (l := cs) (n := p.1)
      have a4 := maxIds_drop (l := cs) (n := p.1 + v.cells.length)
      omega

theorem mapM_get {α β : Type} {f : α → Option β} : ∀ {l : List α} {r : List β}, l.mapM f = some r → ∀ (i : Nat) (a : α), l[i]? = some a → ∃ b, r[i]? = some b ∧ f a = some b
  | [], r, _, i, a, h => by simp at h
  | x :: l, r, h, i, a, ha => by
    simp only [List.mapM_cons, Option.bind_eq_bind, Option.bind_eq_some_iff, Option.pure_def, Option.some.injEq] at h
    obtain ⟨b, hb, r', hr, rfl⟩ := h
    cases i with
    | zero => simp at ha; subst ha; exact ⟨b, by simp, hb⟩
    | succ i => simp at ha; obtain ⟨c, hc, hf⟩ := mapM_get hr i a ha; exact ⟨c, by simpa using hc, hf⟩

theorem oBuild_sound (hT : TabOk T P) (hR : R ι I m w) {t : TypeId} {ps : List (Nat × NV)} {xs : Array (Nat × Value)} {v : NV} (hx : VP ι I ps xs.toList) (hb : maxIdsQ ps ≤ m.n) (h : (oBuild T t).f ps = some v) : SV P (Instr.build t xs) w ι I m (.val v m) := by
  unfold oBuild at h
  split at h
  case h_2 => cases h
  rename_i d z hd hz
  split at h
  case h_2 => cases h
  rename_i hag
  simp only at h
  split at h
  case h_2 => cases h
  rename_i cs hcs
  cases h
  obtain ⟨i, x, y, h1, h2, h3, h4, h5, h6⟩ := hT.zero t z hz
  have h7 := ofValue_cells (ι := ι) (I := I) h3 h5
  rw [← h4] at h7
  have hu := hT.und _ _ hd
  have key : ∃ arr, P.built t xs.toList = some arr ∧ VL ι I cs arr.toList ∧ maxIds cs ≤ max (maxIds z) (maxIdsQ ps) := by
    unfold Program.built
    cases d with
    | struct fs =>
      obtain ⟨pl, hpl⟩ := hT.flds t fs hd
      simp only [h1, hu, h2, hpl]
      refine fill_sound (fun i p hp => ?_) hx hcs h7.1
      unfold placeN at hp
      simp only at hp
      split at hp
      case h_2 => cases hp
      rename_i f hf
      split at hp
      case h_2 => cases hp
      rename_i s hs
      cases hp
      obtain ⟨b, hb1, hb2⟩ := mapM_get hpl i f (by simpa using hf)
      obtain ⟨inf, hi1, hi2⟩ := hT.size _ _ hs
      rw [hi1] at hb2
      simp only [Option.map_some, Option.some.injEq] at hb2
      subst hb2
      simp only [List.getElem?_toArray, hb1, hi2]
    | array k el =>
      obtain ⟨inf, hi1⟩ := hT.arr t k el hd
      simp only [h1, hu, h2, hi1]
      refine fill_sound (fun i p hp => ?_) hx hcs h7.1
      unfold placeN at hp
      simp only at hp
      split at hp
      case h_2 => cases hp
      rename_i s hs
      cases hp
      obtain ⟨inf', hi1', hi2⟩ := hT.size _ _ hs
      rw [hi1] at hi1'
      cases hi1'
      rw [hi2]
    | _ => simp [isAggD] at hag
  obtain ⟨arr, k1, k2, k3⟩ := key
  exact SV.val_same hR (run_build w t xs arr k1) (by simp only [V]; exact ⟨arr, rfl, k2⟩) (by simp only [maxId]; omega)

end Go.Kn

namespace Go.Kn

variable {T : Tab} {P : Program} {ι : Iota} {I : Imm} {m : Mem} {w : World}

theorem elemOf_sound (hT : TabOk T P) {t el : TypeId} {s : Nat} (h : elemOf T t = some (el, s)) : P.underlying t = some (.slice el) ∧ T.size el = some s := by
  unfold elemOf at h
  split at h
  case h_2 => cases h
  rename_i e hu
  split at h
  case h_2 => cases h
  rename_i n hn
  simp only [Option.some.injEq, Prod.mk.injEq] at h
  obtain ⟨rfl, rfl⟩ := h
  exact ⟨hT.und _ _ hu, hn⟩

theorem range_rep (z : Array Value) : ∀ n : Nat, (List.range (n * z.size)).map (fun i => z[i % z.size]!) = (List.replicate n z.toList).flatten
  | 0 => by simp
  | n + 1 => by
    rw [show (n + 1) * z.size = z.size + n * z.size by rw [Nat.add_mul]; omega, List.range_add, List.map_append, List.map_map, List.replicate_succ, List.flatten_cons, ← range_rep z n]
    congr 1
    · apply List.ext_getElem?
      intro i
      by_cases h : i < z.size
      · simp [h, Nat.mod_eq_of_lt h]
      · rw [List.getElem?_eq_none (by simp; omega), List.getElem?_eq_none (by simp; omega)]
    · apply List.map_congr_left
      intro i _
      simp

theorem VL_repl {z : List NV} {x : List Value} (h : VL ι I z x) : ∀ n, VL ι I (repl z n) (List.replicate n x).flatten
  | 0 => by simp [repl, VL]
  | n + 1 => by
    simp only [repl, List.replicate_succ, List.flatten_cons]
    exact VL_append h (VL_repl h n)

theorem repl_length (z : List NV) : ∀ n, (repl z n).length = n * z.length
  | 0 => by simp [repl]
  | n + 1 => by simp [repl, repl_length z n, Nat.add_mul]; omega

theorem repl_max {z : List NV} (h : maxIds z = 0) : ∀ n, maxIds (repl z n) = 0
  | 0 => by simp [repl, maxIds]
  | n + 1 => by simp [repl, maxIds_append, h, repl_max h n]

theorem zeroCells_toList (z : Array Value) (n : Nat) : (Builtin.zeroCells z n).toList = (List.replicate n z.toList).flatten := by
  rw [← range_rep]
  simp [Builtin.zeroCells]

/-- A row made of zero values: with nothing in it the model reads no zero value. -/
theorem zeroRow (hT : TabOk T P) {el : TypeId} {z : List NV} (hz : T.zero el = some z) (w : World) : ∃ v, (zeroValue el).run P w = .ok v w ∧ VL ι I z v.cells.toList ∧ maxIds z = 0 ∧ v.cells.size = z.length := by
  obtain ⟨v, h1, h2, h3⟩ := zero_run (ι := ι) (I := I) hT hz w
  have := VL_length h2
  simp at this
  exact ⟨v, h1, h2, h3, by omega⟩

theorem V_new_msl (k c n len cap sz : Nat) (b : Nat) (h1 : len ≤ cap) (h2 : cap * sz ≤ c) (h3 : n ≤ cap * sz) : V (upd ι b ⟨k, 0, c, n⟩) I (.msl b 0 len sz) (.slice (some ⟨k, 0, none⟩) len cap) := by
  simp only [V, upd_same, Nat.zero_add, Nat.add_zero]
  exact ⟨0, cap, rfl, h1, fun _ => rfl, h2, h3⟩

theorem VL_full {l : List NV} {a : List Value} (h : VL ι I l a) : VL ι I l (a.take l.length) := by
  rw [VL_length h, List.take_length]; exact h

theorem fillN_length {place : Nat → Option (Nat × Nat)} : ∀ {ps : List (Nat × NV)} {cs cs' : List NV}, fillN place cs ps = some cs' → cs'.length = cs.length
  | [], cs, cs', h => by simp [fillN] at h; rw [h]
  | (i, v) :: ps, cs, cs', h => by
    simp only [fillN] at h
    split at h
    case h_2 => cases h
    split at h
    · cases h
    split at h
    case h_2 => cases h
    rename_i cs1 hs
    obtain ⟨e1, e2⟩ := setAt_eq hs
    have := fillN_length h
    rw [this, e2]; simp; omega

theorem oBuildSlice_sound (hT : TabOk T P) (hR : R ι I m w) {t : TypeId} {len : Nat} {ps : List (Nat × NV)} {xs : Array (Nat × Value)} {r : OpRes} (hx : VP ι I ps xs.toList) (hb : maxIdsQ ps ≤ m.n) (h : (oBuildSlice T t len).f m ps = some r) : SV P (Instr.buildSlice t len xs) w ι I m r := by
  unfold oBuildSlice at h
  split at h
  case h_2 => cases h
  rename_i el size he
  obtain ⟨hu, hs⟩ := elemOf_sound hT he
  split at h
  case h_2 => cases h
  rename_i z hz
  split at h
  case h_2 => cases h
  rename_i hc
  simp only [Bool.and_eq_true] at hc
  have hzs := Nat.eq_of_beq_eq_true hc.1
  have hsm := Nat.le_of_ble_eq_true hc.2
  simp only at h
  split at h
  case h_2 => cases h
  rename_i cs hcs
  cases h
  obtain ⟨v, h1, h2, h3, h4⟩ := zeroRow (ι := ι) (I := I) hT hz w
  have hlen := fillN_length hcs
  rw [repl_length, hzs] at hlen
  have hbig : ¬ (len * size > 2 ^ 24) := by omega
  have hrow : ∃ zero : Array Value, ((len * size = 0 ∧ zero = #[]) ∨ (len * size ≠ 0 ∧ zero = v.cells)) ∧ VL ι I (repl z len) ((Array.range (len * size)).map (fun i => zero[i % zero.size]!)).toList := by
    by_cases h0 : len * size = 0
    · refine ⟨#[], .inl ⟨h0, rfl⟩, ?_⟩
      have : repl z len = [] := List.eq_nil_of_length_eq_zero (by rw [repl_length, hzs]; exact h0)
      rw [this, h0]; simp [VL]
    · refine ⟨v.cells, .inr ⟨h0, rfl⟩, ?_⟩
      have e : size = v.cells.size := by omega
      have := range_rep v.cells len
      rw [Array.toList_map, Array.toList_range, e, this]
      exact VL_repl h2 len
  obtain ⟨zero, hz1, hz2⟩ := hrow
  obtain ⟨arr, k1, k2, k3⟩ := fill_sound (place' := fun i => some (i * size, size)) (fun i p hp => hp) hx hcs hz2
  have hl := VL_length k2
  simp only [Array.length_toList] at hl
  have hmz := repl_max h3 len
  have hnew := R.new hR (l := cs) (arr := arr) (el := el) (VL_full k2) (by omega) (by omega)
  refine ⟨.slice (some ⟨w.heap.size, 0, none⟩) len len, _, _, _, ?_, V_new_msl _ _ _ _ _ _ _ (Nat.le_refl _) (by omega) (by omega), by simp [maxId, Mem.push], hnew.1, hnew.2⟩
  unfold Instr.buildSlice
  simp only [Sem.run_bind, run_underlying hu, Result.andThen_ok, hT.cellsOf hs, hbig, if_false]
  rcases hz1 with ⟨h0, rfl⟩ | ⟨h0, rfl⟩
  · simp only [h0, if_true, Sem.run_bind, Sem.run_pure, Result.andThen_ok] at k1 ⊢
    simp only [k1, Sem.run_bind, run_newRow, Result.andThen_ok, Sem.run_pure]
  · simp only [h0, if_false, Sem.run_bind, Sem.run_pure, Result.andThen_ok, h1, k1, run_newRow]

theorem oMakeSlice_sound (hT : TabOk T P) (hR : R ι I m w) {t : TypeId} {lv cv : NV} {x y : Value} {r : OpRes} (hl : V ι I lv x) (hc : V ι I cv y) (h : (oMakeSlice T t).f m lv cv = some r) : SV P (Instr.makeSlice t x y) w ι I m r := by
  unfold oMakeSlice at h
  split at h
  case h_2 => cases h
  rename_i el size he
  obtain ⟨hu, hs⟩ := elemOf_sound hT he
  split at h
  case h_2 => cases h
  rename_i z hz
  split at h
  case h_2 => cases h
  rename_i hcnd
  simp only [Bool.and_eq_true] at hcnd
  have hzs := Nat.eq_of_beq_eq_true hcnd.1
  simp only at h
  split at h
  case h_2 => cases h
  rename_i l c
  split at h
  case isFalse => cases h
  rename_i hlc
  cases h
  simp only [V] at hl hc
  subst hl hc
  obtain ⟨inf, hi1, hi2⟩ := hT.size el size hs
  have hby := hT.bytes el size inf hs hi1
  obtain ⟨v, h1, h2, h3, h4⟩ := zeroRow (ι := ι) (I := I) hT hz w
  have hwl : IntKind.i64.wrap l = l := by simp [IntKind.wrap, IntKind.bits, IntKind.signed]; omega
  have hwc : IntKind.i64.wrap c = c := by simp [IntKind.wrap, IntKind.bits, IntKind.signed]; omega
  have hbc : (inf.bytes : Int) * c ≤ 2 ^ 48 := by
    have : (inf.bytes : Int) * c ≤ 1048576 * 100000 := Int.mul_le_mul (by omega) (by omega) (by omega) (by omega)
    omega
  have hrow : ∃ zero : Array Value, ((c.toNat * size = 0 ∧ zero = #[]) ∨ (c.toNat * size ≠ 0 ∧ zero = v.cells)) ∧ VL ι I (repl z c.toNat) ((Array.range (c.toNat * size)).map (fun i => zero[i % zero.size]!)).toList := by
    by_cases h0 : c.toNat * size = 0
    · refine ⟨#[], .inl ⟨h0, rfl⟩, ?_⟩
      have : repl z c.toNat = [] := List.eq_nil_of_length_eq_zero (by rw [repl_length, hzs]; exact h0)
      rw [this, h0]; simp [VL]
    · refine ⟨v.cells, .inr ⟨h0, rfl⟩, ?_⟩
      have e : size = v.cells.size := by omega
      have := range_rep v.cells c.toNat
      rw [Array.toList_map, Array.toList_range, e, this]
      exact VL_repl h2 c.toNat
  obtain ⟨zero, hz1, hz2⟩ := hrow
  have hl' := VL_length hz2
  rw [repl_length, hzs] at hl'
  have hnew := R.new hR (l := repl z c.toNat) (arr := (Array.range (c.toNat * size)).map (fun i => zero[i % zero.size]!)) (el := el) (VL_full hz2) (by rw [repl_length, hzs]; simp) (by rw [repl_max h3]; omega)
  refine ⟨.slice (some ⟨w.heap.size, 0, none⟩) l.toNat c.toNat, _, _, _, ?_, V_new_msl _ _ _ _ _ _ _ (by omega) (by simp) (by rw [repl_length, hzs]; omega), by simp [maxId, Mem.push], hnew.1, hnew.2⟩
  unfold Instr.makeSlice
  have hti : (typeInfo el).run P w = .ok inf w := run_typeInfo w hi1
  simp only [Sem.run_bind, run_underlying hu, Result.andThen_ok, asInt, asIntOf, Sem.run_pure, hti, hwl, hwc]
  have c1 : (decide (c < 0) || decide ((inf.bytes : Int) * c > 2 ^ 48) || decide (l < 0) || decide (l > c)) = false := by
    simp only [Bool.or_eq_false_iff, decide_eq_false_iff_not]
    omega
  simp only [c1, Bool.false_eq_true, if_false, Sem.run_pure, Result.andThen_ok, Sem.run_bind, run_askRoom, hT.cellsOf hs]
  rcases hz1 with ⟨h0, rfl⟩ | ⟨h0, rfl⟩
  · simp only [h0, if_true, Sem.run_bind, Sem.run_pure, Result.andThen_ok, run_newRow]
  · simp only [h0, if_false, Sem.run_bind, Sem.run_pure, Result.andThen_ok, h1, run_newRow]

theorem lenN_sound {v : NV} {x : Value} {n : Nat} (hv : V ι I v x) (h : lenN v = some n) (w : World) : (Builtin.lenOf x).run P w = .ok n w := by
  unfold lenN at h
  split at h
  · rename_i b k l
    cases h
    cases b
    · simp only [V] at hv; obtain ⟨_, _, _, _, rfl, _⟩ := hv; rfl
    · simp only [V] at hv; obtain ⟨rfl, _, rfl⟩ := hv; rfl
  · cases h
    simp only [V] at hv; obtain ⟨_, _, rfl, _⟩ := hv; rfl
  · cases h
    simp only [V] at hv; subst hv; rfl
  · cases h

theorem slen_sound {v : NV} {x : Value} {n : Nat} (hv : V ι I v x) (h : slen v = some n) : ∃ a c, x = .slice a n c ∧ n ≤ c := by
  unfold slen at h
  split at h
  · rename_i b k l
    cases h
    cases b
    · simp only [V] at hv; obtain ⟨_, _, _, c, rfl, hc, _⟩ := hv; exact ⟨_, _, rfl, hc⟩
    · simp only [V] at hv; obtain ⟨rfl, _, rfl⟩ := hv; exact ⟨_, _, rfl, Nat.le_refl _⟩
  · cases h
    simp only [V] at hv; obtain ⟨_, c, rfl, hc, _⟩ := hv; exact ⟨_, _, rfl, hc⟩
  · cases h

theorem loadCells_zero (a : Addr) (w : World) : (loadCells a 0).run P w = .ok #[] w := rfl

/-- A row's cells, where a block of the evaluator holds it. -/
theorem msl_read (hR : R ι I m w) {b off len sz n : Nat} {x : Value} {l r : List NV} (hv : V ι I (.msl b off len sz) x) (hl : m.cells b = some l) (hr : readAt l off (n * sz) = some r) :
    ∃ a cap xs, x = .slice (some a) len cap ∧ (loadCells a (n * sz)).run P w = .ok xs w ∧ VL ι I r xs.toList ∧ maxIds r ≤ m.n ∧ r.length = n * sz := by
  simp only [V] at hv
  obtain ⟨o, cap, rfl, h1, h2, h3, h4⟩ := hv
  have hg := Mem.cells_get hl
  obtain ⟨k1, k2, k3, k4, k5⟩ := hR.blk b _ hg
  obtain ⟨e1, e2⟩ := readAt_eq hr
  have hm := Nat.le_trans (maxIds_readAt hr) (hR.bnd b _ hg).1
  have hlen : r.length = n * sz := by rw [e2]; simp; omega
  by_cases h0 : n * sz = 0
  · have : r = [] := List.eq_nil_of_length_eq_zero (by omega)
    subst this
    rw [h0]
    exact ⟨_, cap, #[], rfl, rfl, by simp [VL], hm, by simp⟩
  · have hcap : 0 < cap := by
      rcases Nat.eq_zero_or_pos cap with h | h
      · subst h; simp at h4; omega
      · exact h
    have := h2 hcap
    subst this
    obtain ⟨xs, q1, q2, q3⟩ := (CellsAt.sub (l := l) k5 hr).list
    exact ⟨_, cap, xs.toArray, rfl, run_loadCells_at (by omega) q3, by simpa using q2, hm, hlen⟩

theorem elemsN_sound (hR : R ι I m w) {v : NV} {x : Value} {size n : Nat} {cs : List NV} (hv : V ι I v x) (hle : ∀ k, lenN v = some k → n ≤ k) (h : elemsN m size v n = some cs) :
    ∃ xs, (Builtin.firstCells size n x).run P w = .ok xs w ∧ VL ι I cs xs.toList ∧ maxIds cs ≤ m.n ∧ cs.length = n * size := by
  unfold elemsN at h
  split at h
  · rename_i b k l
    obtain ⟨e1, e2⟩ := readAt_eq h
    have hlen : cs.length = n * size := by rw [e2]; simp; omega
    cases b
    · simp only [V] at hv
      obtain ⟨h0, cb, co, cap, rfl, hc, hl⟩ := hv
      obtain ⟨xs, q1, q2, q3⟩ := (CellsAt.sub (VI_cells hR.imm hl) h).list
      exact ⟨xs.toArray, run_loadCells_at (by omega) (by simpa using q3), by simpa using q2, Nat.le_trans (maxIds_readAt h) (by omega), hlen⟩
    · simp only [V] at hv
      obtain ⟨rfl, rfl, rfl⟩ := hv
      have : cs = [] := List.eq_nil_of_length_eq_zero (by simp at e1; simp [hlen]; omega)
      subst this
      exact ⟨#[], rfl, by simp [VL], by simp [maxIds], hlen⟩
  · rename_i b off len sz
    split at h
    case h_2 => cases h
    rename_i hsz
    have hsz := Nat.eq_of_beq_eq_true hsz
    subst hsz
    split at h
    case h_2 => cases h
    rename_i l hl
    obtain ⟨a, cap, xs, rfl, q1, q2, q3, q4⟩ := msl_read (P := P) hR hv hl h
    exact ⟨xs, q1, q2, q3, q4⟩
  · rename_i s
    split at h
    case h_2 => cases h
    rename_i hsz
    have hsz := Nat.eq_of_beq_eq_true hsz
    subst hsz
    cases h
    simp only [V] at hv; subst hv
    have hn := hle s.length rfl
    refine ⟨((⟨⟨s⟩⟩ : ByteArray).extract 0 n).data.map fun b => .int .u8 b.toNat, rfl, ?_, ?_, by simp; omega⟩
    · have : ((⟨⟨s⟩⟩ : ByteArray).extract 0 n).data.toList = s.take n := by
        rw [ByteArray.data_extract]; simp [List.extract_eq_take_drop]
      rw [Array.toList_map, this]
      generalize s.take n = q
      induction q with
      | nil => simp [VL]
      | cons a q ih => exact VL_cons.2 ⟨by simp [V], ih⟩
    · generalize s.take n = q
      induction q with
      | nil => simp [maxIds]
      | cons a q ih => simp only [List.map_cons, maxIds, mx_eq, maxId]; omega
  · cases h

theorem mapOf_len (hR : R ι I m w) {v : NV} {x : Value} {es : List (NV × NV)} (hv : V ι I v x) (h : mapOf m v = some es) :
    (x = .map none ∧ es = []) ∨ ∃ r arr c, x = .map (some r) ∧ w.heap[r]? = some (.map arr c) ∧ VE ι I es arr.toList := by
  unfold mapOf at h
  split at h
  · cases h
    simp only [V] at hv
    exact .inl ⟨hv, rfl⟩
  · split at h
    case h_2 => cases h
    rename_i b _ es' hg
    cases h
    simp only [V] at hv
    obtain ⟨arr, c, h1, h2⟩ := hR.blk b _ hg
    exact .inr ⟨_, arr, c, hv, h1, h2⟩
  · cases h

theorem VE_length : ∀ {es : List (NV × NV)} {r : List MapEntry}, VE ι I es r → es.length = r.length
  | [], r, h => by simp [VE] at h; simp [h]
  | (k, v) :: es, r, h => by
    obtain ⟨e, s, rfl, _, _, h⟩ := h
    simp [VE_length h]

theorem oLen_sound (hT : TabOk T P) (hR : R ι I m w) {t ty : TypeId} {ts : Array TypeId} {v : NV} {x : Value} {r : OpRes} (ht : ts[0]? = some t) (hv : V ι I v x) (h : (oLen T t).f m v = some r) : SV P (Builtin.len_ ts ty #[x]) w ι I m r := by
  unfold oLen at h
  split at h
  · rename_i hu
    have hu := hT.und _ _ hu
    simp only at h
    split at h
    case h_2 => cases h
    rename_i s
    cases h
    simp only [V] at hv; subst hv
    refine SV.val_same hR (x := goInt s.length) ?_ (by simp [V, intV, goInt]) (by simp [maxId, intV])
    simp [Builtin.len_, ht, run_underlying hu, ba_size]
  · rename_i hu
    have hu := hT.und _ _ hu
    simp only at h
    split at h
    case h_2 => cases h
    rename_i n hn
    cases h
    obtain ⟨a, c, rfl, _⟩ := slen_sound hv hn
    refine SV.val_same hR (x := goInt n) ?_ (by simp only [V, intV, goInt]) (by simp [maxId, intV])
    simp [Builtin.len_, ht, run_underlying hu]
  · rename_i n _ hu
    have hu := hT.und _ _ hu
    simp only at h
    cases h
    refine SV.val_same hR (x := goInt n) ?_ (by simp only [V, intV, goInt]) (by simp [maxId, intV])
    simp [Builtin.len_, ht, run_underlying hu]
  · rename_i hu
    have hu := hT.und _ _ hu
    simp only at h
    split at h
    case h_2 => cases h
    rename_i es he
    cases h
    rcases mapOf_len hR hv he with ⟨rfl, rfl⟩ | ⟨r, arr, c, rfl, h1, h2⟩
    · refine SV.val_same hR (x := goInt 0) ?_ (by simp [V, intV, goInt]) (by simp [maxId, intV])
      simp [Builtin.len_, ht, run_underlying hu]
    · have hl := VE_length h2
      simp only [Array.length_toList] at hl
      refine SV.val_same hR (x := goInt arr.size) ?_ (by simp only [V, intV, goInt, hl]) (by simp [maxId, intV])
      simp [Builtin.len_, ht, run_underlying hu, getObj, Sem.run, h1]
  · cases h

end Go.Kn

namespace Go.Kn

variable {T : Tab} {P : Program} {ι : Iota} {I : Imm} {m : Mem} {w : World}

theorem storeCells_nil (a : Addr) (w : World) : (storeCells a []).run P w = .ok () w := rfl

/-- A write into a row of the evaluator, at an element. -/
theorem msl_write (hR : R ι I m w) {b off len sz k : Nat} {x : Value} {vs : List NV} {xs : List Value} {m' : Mem} (hv : V ι I (.msl b off len sz) x) (hw : m.write b (off + k) vs = some m') (hx : VL ι I vs xs) (hb : maxIds vs ≤ m.n) :
    ∃ a cap w', x = .slice (some a) len cap ∧ (storeCells (a.add k) xs).run P w = .ok () w' ∧ R ι I m' w' ∧ Ext ι I m w ι I m' w' := by
  simp only [V] at hv
  obtain ⟨o, cap, rfl, h1, h2, h3, h4⟩ := hv
  obtain ⟨k1, k2, k3⟩ := write_sound (P := P) hR hw hx hb
  by_cases h0 : vs = []
  · subst h0
    simp only [VL] at hx; subst hx
    exact ⟨_, cap, w, rfl, rfl, k2, k3⟩
  · have hcap : 0 < cap := by
      rcases Nat.eq_zero_or_pos cap with h | h
      · subst h
        exfalso
        unfold Mem.write at hw
        split at hw
        case h_2 => cases hw
        rename_i l hl
        split at hw
        case h_2 => cases hw
        split at hw
        case h_2 => cases hw
        rename_i l' hs
        have hg := Mem.cells_get hl
        obtain ⟨q1, q2, q3, q4, q5⟩ := hR.blk b _ hg
        have := (setAt_eq hs).1
        have : 0 < vs.length := List.length_pos_iff.2 h0
        simp at h4
        omega
      · exact h
    have := h2 hcap
    subst this
    refine ⟨_, cap, _, rfl, ?_, k2, k3⟩
    rw [addr_add, Nat.add_assoc]
    exact k1

theorem addr_add_zero (a : Addr) (h : a.spot = none) : a.add 0 = a := by
  cases a; simp only at h; subst h; rw [addr_add]; rfl

theorem oCopy_sound (hT : TabOk T P) (hR : R ι I m w) {t ty : TypeId} {ts : Array TypeId} {d s : NV} {x y : Value} {r : OpRes} (ht : ts[0]? = some t) (hd : V ι I d x) (hs : V ι I s y) (h : (oCopy T t).f m d s = some r) : SV P (Builtin.copy_ ts ty #[x, y]) w ι I m r := by
  unfold oCopy at h
  split at h
  case h_2 => cases h
  rename_i el size he
  obtain ⟨hu, hsz⟩ := elemOf_sound hT he
  simp only at h
  split at h
  case h_2 => cases h
  rename_i ls ld hls hld
  split at h
  case h_2 => cases h
  rename_i cs hcs
  obtain ⟨xs, q1, q2, q3, q4⟩ := elemsN_sound (P := P) hR hs (fun k hk => by rw [hls] at hk; cases hk; exact Nat.min_le_left _ _) hcs
  have hlen := lenN_sound (P := P) hs hls w
  obtain ⟨a0, c0, hx0, hle0⟩ := slen_sound hd hld
  have hrun : ∀ w', (match a0 with | some a => (storeCells a xs.toList) | none => pure ()).run P w = .ok () w' → (Builtin.copy_ ts ty #[x, y]).run P w = .ok (goInt (min ls ld : Nat)) w' := by
    intro w' hw'
    subst hx0
    unfold Builtin.copy_
    simp only [ht, List.getElem?_toArray, List.getElem?_cons_zero, List.getElem?_cons_succ, Sem.run_bind, run_underlying hu, Result.andThen_ok, hlen, hT.cellsOf hsz]
    have : Nat.min ls ld = min ls ld := rfl
    rw [this, q1]
    cases a0 with
    | none => simp only [Result.andThen_ok]; cases hw'; rfl
    | some a => simp only [Result.andThen_ok, Sem.run_bind, hw', Sem.run_pure]
  split at h
  · rename_i b off k sz
    split at h
    case h_2 => cases h
    split at h
    case h_2 => cases h
    rename_i m' hm'
    cases h
    obtain ⟨a, cap, w', hx, k1, k2, k3⟩ := msl_write (P := P) (k := 0) hR hd (by simpa using hm') q2 q3
    rw [hx0] at hx
    injection hx with e1 e2 e3
    subst e1
    have hsp : a.spot = none := by
      simp only [V] at hd
      obtain ⟨o, cap', hx, _⟩ := hd
      rw [hx0] at hx
      injection hx with e1
      injection e1 with e1
      rw [e1]
    rw [addr_add_zero a hsp] at k1
    exact ⟨_, w', ι, I, hrun w' k1, by simp only [V, intV, goInt], by simp [maxId, intV], k2, k3⟩
  · split at h
    case h_2 => cases h
    rename_i hz
    have hz := Nat.eq_of_beq_eq_true hz
    cases h
    have hc0 : cs = [] := List.eq_nil_of_length_eq_zero (by rw [q4, hz]; simp)
    subst hc0
    have hx0' : xs.toList = [] := by have := VL_length q2; exact List.eq_nil_of_length_eq_zero (by simpa using this.symm)
    refine SV.val_same hR (x := goInt (min ls ld : Nat)) (hrun w ?_) (by simp [V, intV, goInt, hz]) (by simp [maxId, intV])
    rw [hx0']
    cases a0 <;> rfl
  · cases h

theorem oClear_sound (hT : TabOk T P) (hR : R ι I m w) {t ty : TypeId} {ts : Array TypeId} {v : NV} {x : Value} {r : OpRes} (ht : ts[0]? = some t) (hv : V ι I v x) (h : (oClear T t).f m v = some r) : SV P (Builtin.clear_ ts ty #[x]) w ι I m r := by
  unfold oClear at h
  split at h
  case h_2 => cases h
  rename_i el size he
  obtain ⟨hu, hsz⟩ := elemOf_sound hT he
  split at h
  case h_2 => cases h
  rename_i z hz
  split at h
  case h_2 => cases h
  rename_i hzs
  have hzs := Nat.eq_of_beq_eq_true hzs
  simp only at h
  obtain ⟨zv, h1, h2, h3, h4⟩ := zeroRow (ι := ι) (I := I) hT hz w
  split at h
  · rename_i b off n sz
    split at h
    case h_2 => cases h
    split at h
    case h_2 => cases h
    rename_i m' hm'
    cases h
    have hq : VL ι I (repl z n) (Builtin.zeroCells zv.cells n).toList := by rw [zeroCells_toList]; exact VL_repl h2 n
    obtain ⟨a, cap, w', hx, k1, k2, k3⟩ := msl_write (P := P) (k := 0) hR hv (by simpa using hm') hq (by rw [repl_max h3]; omega)
    have hsp : a.spot = none := by
      simp only [V] at hv
      obtain ⟨o, cap', hx', _⟩ := hv
      rw [hx] at hx'
      injection hx' with e1
      injection e1 with e1
      rw [e1]
    rw [addr_add_zero a hsp] at k1
    subst hx
    refine ⟨.tuple #[], w', ι, I, ?_, by simp [V, VL], by simp [maxId, maxIds], k2, k3⟩
    cases n with
    | zero =>
      have : (Builtin.zeroCells zv.cells 0).toList = [] := by simp [zeroCells_toList]
      rw [this] at k1
      cases k1
      simp [Builtin.clear_, ht, run_underlying hu]
    | succ n => simp [Builtin.clear_, ht, run_underlying hu, h1, k1]
  · rename_i b n l
    split at h
    case h_2 => cases h
    rename_i hn
    have hn := Nat.eq_of_beq_eq_true hn
    subst hn
    cases h
    refine SV.val_same hR (x := .tuple #[]) ?_ (by simp [V, VL]) (by simp [maxId, maxIds])
    cases b
    · simp only [V] at hv
      obtain ⟨_, _, _, _, rfl, _⟩ := hv
      simp [Builtin.clear_, ht, run_underlying hu]
    · simp only [V] at hv
      obtain ⟨_, _, rfl⟩ := hv
      simp [Builtin.clear_, ht, run_underlying hu]
  · cases h

/-- A new block at a place that no block of the evaluator has any more. -/
theorem R.adopt {w' : World} (h : R ι I m w) (o : MB) (p : Loc) (hs : w'.heap.size = w.heap.size) (hk : ∀ k, k < w.heap.size → k ≠ p.cb → w'.heap[k]? = w.heap[k]?)
    (hfree : ∀ b o', m.get b = some o' → o'.live = true → (ι b).cb ≠ p.cb) (hI : ∀ k, I p.cb k = none) (hb : mbMax o ≤ m.n) (hB : BR (upd ι m.n p) I w' p o) : R (upd ι m.n p) I (m.push o) w' := by
  have hold : ∀ b o', m.get b = some o' → upd ι m.n p b = ι b := fun b o' hg => upd_lt _ _ (Mem.get_lt hg)
  refine ⟨by simp [Mem.push, h.len], fun cb k x hx => ?_, fun b o' hg => ?_, fun b b' o1 o2 h1 h2 l1 l2 e => ?_, fun b o' hg hl' k => ?_, fun b o' hg => ?_⟩
  · have hx' := h.imm cb k x hx
    have hne : cb ≠ p.cb := fun e => by rw [e, hI] at hx; cases hx
    rw [World.cell?_of_block (w := w) (w' := w') (a := ⟨cb, k, none⟩) (hk cb (imm_lt hx') hne)]
    exact hx'
  · rw [Mem.get_push] at hg
    split at hg
    · rename_i e; subst e; cases hg; rw [upd_same]; exact hB
    · rename_i e
      rw [hold b o' hg]
      by_cases hl' : o'.live = true
      · refine BR_congr (fun _ _ _ h => h) (fun k hk => upd_lt _ _ (Nat.lt_of_lt_of_le hk (h.bnd b o' hg).1)) (BR_world (by omega) (hk _ (BR_lt hl' (h.blk b o' hg)) (hfree b o' hg hl')) (h.blk b o' hg))
      · cases o' <;> first | trivial | exact absurd rfl hl'
  · rw [Mem.get_push] at h1 h2
    split at h1 <;> split at h2
    · rename_i e1 e2; rw [e1, e2]
    · rename_i e1 e2; subst e1; rw [upd_same, hold b' o2 h2] at e; exact absurd e.symm (hfree b' o2 h2 l2)
    · rename_i e1 e2; subst e2; rw [upd_same, hold b o1 h1] at e; exact absurd e (hfree b o1 h1 l1)
    · rw [hold b o1 h1, hold b' o2 h2] at e; exact h.inj b b' o1 o2 h1 h2 l1 l2 e
  · rw [Mem.get_push] at hg
    split at hg
    · rename_i e; subst e; rw [upd_same]; exact hI k
    · rw [hold b o' hg]; exact h.apart b o' hg hl' k
  · rw [Mem.get_push] at hg
    split at hg
    · rename_i e; subst e; cases hg; simp only [Mem.push]; omega
    · have := h.bnd b o' hg; simp only [Mem.push]; omega

theorem V_upd {v : NV} {x : Value} {p : Loc} {n : Nat} (h : maxId v ≤ n) (hv : V ι I v x) : V (upd ι n p) I v x :=
  V_congr (fun _ _ _ h => h) (fun _ hb => upd_lt _ _ (Nat.lt_of_lt_of_le hb h)) hv

/-- A block that dies, and one that takes its place in the model's memory: some of its cells, written on. -/
theorem R.move (hR : R ι I m w) {b off k : Nat} {l old vs : List NV} {xs : List Value} (hl : m.cells b = some l) (hold : readAt l off k = some old) (hx : VL ι I vs xs) (hb : maxIds vs ≤ m.n)
    (hc : allCells vs = true) (cap' : Nat) (hcap : off + cap' ≤ (ι b).cap) (hfit : k + vs.length ≤ cap') :
    (storeCells ⟨(ι b).cb, (ι b).co + (off + k), none⟩ xs).run P w = .ok () (w.setCells (ι b).cb ((ι b).co + (off + k)) xs) ∧
    R (upd ι m.n ⟨(ι b).cb, (ι b).co + off, cap', k + vs.length⟩) I ((m.put b .dead).push (.cells (old ++ vs))) (w.setCells (ι b).cb ((ι b).co + (off + k)) xs) ∧
    Ext ι I m w (upd ι m.n ⟨(ι b).cb, (ι b).co + off, cap', k + vs.length⟩) I ((m.put b .dead).push (.cells (old ++ vs))) (w.setCells (ι b).cb ((ι b).co + (off + k)) xs) := by
  have hg := Mem.cells_get hl
  obtain ⟨h1, h2, h3, h4, h5⟩ := hR.blk b _ hg
  have hbn := Mem.get_lt hg
  have hlen := VL_length hx
  obtain ⟨e1, e2⟩ := readAt_eq hold
  have hol : old.length = k := by rw [e2]; simp; omega
  have hcell : ∀ j, j < xs.length → (w.cell? ⟨(ι b).cb, (ι b).co + (off + k) + j, none⟩).isSome = true ∧ Unfro w (ι b).cb ((ι b).co + (off + k) + j) := fun j hj => by
    have := h4 (off + k + j) (by omega)
    rw [show (ι b).co + (off + k + j) = (ι b).co + (off + k) + j by omega] at this
    exact this
  have hrun := run_storeCells_cells (P := P) (ι b).cb ((ι b).co + (off + k)) xs 0 w (fun j hj => by simpa using (hcell j hj).1) (fun j hj => by simpa using (hcell j hj).2.frozen) (VL_oneCell hc hx)
  refine ⟨by simpa using hrun, ?_⟩
  obtain ⟨hK, hKE⟩ := R.kill hR hg rfl
  have hkn : (m.put b .dead).n = m.n := rfl
  have hget : ∀ b', (m.put b .dead).get b' = if b' = b then some .dead else m.get b' := fun b' => Mem.get_put hR.len hbn _ b'
  have hmax : maxIds (old ++ vs) ≤ m.n := by
    rw [maxIds_append]
    have := maxIds_readAt hold
    have := (hR.bnd b _ hg).1
    simp only [mbMax] at this
    omega
  have hnew : R (upd ι m.n ⟨(ι b).cb, (ι b).co + off, cap', k + vs.length⟩) I ((m.put b .dead).push (.cells (old ++ vs))) (w.setCells (ι b).cb ((ι b).co + (off + k)) xs) := by
    refine R.adopt hK (.cells (old ++ vs)) _ (sz_setCells _ _ _ _) (fun j hj hne => World.heap_setCells_other w _ _ _ hj hne) (fun b' o' hg' hl' e => ?_) (hR.apart b _ hg rfl) hmax ?_
    · rw [hget] at hg'
      split at hg'
      · cases hg'; cases hl'
      · rename_i hne; exact hne (hR.inj b' b o' _ hg' hg hl' rfl e)
    · refine ⟨by simp [hol], hfit, by rw [sz_setCells]; exact h3, fun i hi => ?_, fun i v hv' => ?_⟩
      · have hi' := h4 (off + i) (by simp only at hi; omega)
        rw [show (ι b).co + (off + i) = (ι b).co + off + i by omega] at hi'
        constructor
        · exact some_setCells (fun j hj => (hcell j hj).1) _ hi'.1
        · exact hi'.2.setCells _ _ _
      · by_cases hin : i < k
        · rw [List.getElem?_append_left (by omega)] at hv'
          have hvl : l[off + i]? = some v := by
            rw [e2, List.getElem?_take, if_pos hin, List.getElem?_drop] at hv'
            exact hv'
          obtain ⟨x, hx', hvx⟩ := h5 (off + i) v hvl
          refine ⟨x, ?_, V_upd (Nat.le_trans (maxIds_get hvl) (hR.bnd b _ hg).1) hvx⟩
          rw [World.cell?_setCells_out _ _ _ _ _ (fun _ _ => by simp only; omega)]
          rw [show (ι b).co + off + i = (ι b).co + (off + i) by omega]
          exact hx'
        · rw [List.getElem?_append_right (by omega), hol] at hv'
          have hj : i - k < xs.length := by
            rcases Nat.lt_or_ge (i - k) vs.length with h | h
            · omega
            · rw [List.getElem?_eq_none h] at hv'; cases hv'
          obtain ⟨x, hx', hvx⟩ := VL_get hx hv'
          refine ⟨x, ?_, V_upd (Nat.le_trans (maxIds_get hv') hb) hvx⟩
          have := World.cell?_setCells_in (ι b).cb xs ((ι b).co + (off + k)) w (fun j hj => (hcell j hj).1) (i - k) hj
          simp only
          rw [show (ι b).co + off + i = (ι b).co + (off + k) + (i - k) by omega, this]
          rw [List.getElem?_eq_getElem hj] at hx'
          exact hx'
  refine ⟨hnew, fun b' hb' => upd_lt _ _ hb', by simp [Mem.push, Mem.put], fun _ _ _ h => h, by rw [sz_setCells]; exact Nat.le_refl _, fun j hj hf => World.heap_setCells_other w _ _ _ hj fun e => hf b _ hg rfl e.symm, fun b' o' hg' hl' => ?_, World.os_setCells _ _ _ _, World.output_setCells _ _ _ _, tape_setCells _ _ _ _, fun _ o x h => .inr (.inl ⟨o, x, h⟩)⟩
  rw [Mem.get_push, hkn] at hg'
  split at hg'
  · rename_i e; subst e; rw [upd_same]; exact .inr ⟨b, _, hg, rfl, rfl⟩
  · rw [hget] at hg'
    split at hg'
    · cases hg'; cases hl'
    · exact .inr ⟨b', o', hg', hl', by rw [upd_lt _ _ (Mem.get_lt hg')]⟩

theorem few_sound {s : NV} {n k : Nat} (hs : slen s = some k) (h : few s n = true) : k + n ≤ 1000000 := by
  unfold few at h
  rw [hs] at h
  exact Nat.le_of_ble_eq_true h

/-- An append that wants a new row in the model's memory. -/
theorem run_append_any (hT : TabOk T P) {ts : Array TypeId} {t u el : TypeId} {size : Nat} {du : TypeDesc} {ty : TypeId} {y zv : Value} {base : Option Addr} {sLen sCap n : Nat} {olds news : Array Value}
    (ht0 : ts[0]? = some t) (ht1 : ts[1]? = some u) (hu : P.underlying t = some (.slice el)) (hud : P.underlying u = some du) (hdu : du = .string ∨ ∃ e, du = .slice e) (hsz : T.size el = some size) (hz : ∀ w, (zeroValue el).run P w = .ok zv w) (hlen : ∀ w, (Builtin.lenOf y).run P w = .ok n w)
    (hold : (Builtin.firstCells size sLen (.slice base sLen sCap)).run P w.drew = .ok olds w.drew) (hnew : (Builtin.firstCells size n y).run P w.drew = .ok news w.drew)
    (hroom : sCap < sLen + n) (hfew : sLen + n ≤ 1000000) :
    ∃ cap, sLen + n ≤ cap ∧ (Builtin.append_ ts ty #[.slice base sLen sCap, y]).run P w = .ok (.slice (some ⟨w.heap.size, 0, none⟩) (sLen + n) cap) (w.drew.alloc (.cells (olds ++ news ++ Builtin.zeroCells zv.cells (cap - (sLen + n))) el)) := by
  obtain ⟨inf, hi1, hi2⟩ := hT.size el size hsz
  have hby := hT.bytes el size inf hsz hi1
  have hn : ¬ (sLen + n ≤ sCap) := by omega
  have h63' : ¬ (9223372036854775807 < ((sLen : Int) + (n : Int))) := by omega
  have h48' : ¬ (281474976710656 < Builtin.nextslicecap (sLen + n) sCap * inf.bytes) := by
    have := growslice_fits (bytes := inf.bytes) hroom (Nat.le_trans (Nat.mul_le_mul hfew hby) (by decide))
    omega
  refine ⟨grownCap w (sLen + n) sCap el, grownCap_ge w _ _ _, ?_⟩
  have hti : ∀ w, (typeInfo el).run P w = .ok inf w := fun w => run_typeInfo w hi1
  have hul := run_underlying (P := P) hud w
  rcases hdu with rfl | ⟨e, rfl⟩ <;>
    simp [Builtin.append_, ht0, ht1, run_underlying hu, hul, hT.cellsOf hsz, hlen, hn, hti, h63', h48', Question.forced, hold, hnew, hz, grownCap, run_newRow]


/-- An append into the row itself. -/
theorem run_append_in (hT : TabOk T P) {ts : Array TypeId} {t u el : TypeId} {size : Nat} {du : TypeDesc} {ty : TypeId} {y : Value} {base : Option Addr} {sLen sCap n : Nat} {news : Array Value} {w' : World}
    (ht0 : ts[0]? = some t) (ht1 : ts[1]? = some u) (hu : P.underlying t = some (.slice el)) (hud : P.underlying u = some du) (hdu : du = .string ∨ ∃ e, du = .slice e) (hsz : T.size el = some size) (hlen : ∀ w, (Builtin.lenOf y).run P w = .ok n w)
    (hnew : (Builtin.firstCells size n y).run P w = .ok news w) (hst : (match base with | some a => storeCells (a.add (sLen * size)) news.toList | none => pure ()).run P w = .ok () w') (hroom : sLen + n ≤ sCap) :
    (Builtin.append_ ts ty #[.slice base sLen sCap, y]).run P w = .ok (.slice base (sLen + n) sCap) w' := by
  have hul := run_underlying (P := P) hud w
  rcases hdu with rfl | ⟨e, rfl⟩ <;> cases base <;> simp only at hst
  · cases hst
    simp [Builtin.append_, ht0, ht1, run_underlying hu, hul, hT.cellsOf hsz, hlen, hroom, hnew]
  · simp [Builtin.append_, ht0, ht1, run_underlying hu, hul, hT.cellsOf hsz, hlen, hroom, hnew, hst]
  · cases hst
    simp [Builtin.append_, ht0, ht1, run_underlying hu, hul, hT.cellsOf hsz, hlen, hroom, hnew]
  · simp [Builtin.append_, ht0, ht1, run_underlying hu, hul, hT.cellsOf hsz, hlen, hroom, hnew, hst]

theorem firstCells_zero {v : NV} {y : Value} (hv : V ι I v y) (h : lenN v = some 0) (size : Nat) (w : World) : (Builtin.firstCells size 0 y).run P w = .ok #[] w := by
  unfold lenN at h
  split at h
  · rename_i b k l
    cases b
    · simp only [V] at hv; obtain ⟨_, _, _, _, rfl, _⟩ := hv; simp only [Builtin.firstCells, Nat.zero_mul]; rfl
    · simp only [V] at hv; obtain ⟨rfl, _, rfl⟩ := hv; rfl
  · simp only [V] at hv; obtain ⟨_, _, rfl, _⟩ := hv; simp only [Builtin.firstCells, Nat.zero_mul]; rfl
  · simp only [V] at hv; subst hv
    simp only [Option.some.injEq, List.length_eq_zero_iff] at h; subst h
    have e : ((⟨⟨[]⟩⟩ : ByteArray).extract 0 0).data = #[] := by rw [ByteArray.data_extract]; rfl
    simp only [Builtin.firstCells, e, Array.map_empty, Sem.run_pure]
  · cases h

theorem sliceLike_und (hT : TabOk T P) {u : TypeId} (h : sliceLike T u = true) : ∃ du, P.underlying u = some du ∧ (du = .string ∨ ∃ e, du = .slice e) := by
  unfold sliceLike at h
  split at h
  · rename_i hu; exact ⟨_, hT.und _ _ hu, .inr ⟨_, rfl⟩⟩
  · rename_i hu; exact ⟨_, hT.und _ _ hu, .inl rfl⟩
  · cases h

theorem SV_drew {S : Sem Value} {v : NV} {m' : Mem} {x : Value} {w' : World} {ι' : Iota} {I' : Imm} (h : S.run P w = .ok x w') (hv : V ι' I' v x) (hb : maxId v ≤ m'.n) (hR : R ι' I' m' w') (hE : Ext ι I m w.drew ι' I' m' w') : SV P S w ι I m (.val v m') :=
  ⟨x, w', ι', I', h, hv, hb, hR, hE.drew_left⟩

theorem zeroAll (hT : TabOk T P) {el : TypeId} {z : List NV} (hz : T.zero el = some z) : ∃ v, (∀ w, (zeroValue el).run P w = .ok v w) ∧ VL ι I z v.cells.toList ∧ maxIds z = 0 ∧ v.cells.size = z.length := by
  obtain ⟨i, v, x, h1, h2, h3, h4, h5, _⟩ := hT.zero el z hz
  subst h4
  have h6 := ofValue_cells (ι := ι) (I := I) h3 h5
  have := VL_length h6.1
  simp at this
  exact ⟨v, fun w => by simp [zeroValue, run_typeInfo w h1, h2], h6.1, h6.2, by omega⟩

/-- The row that an append makes. -/
theorem new_row_size {a b : Array Value} {zv : Value} {size k n cap : Nat} (ha : a.size = k * size) (hb : b.size = n * size) (hz : zv.cells.size = size) (hc : k + n ≤ cap) : (a ++ b ++ Builtin.zeroCells zv.cells (cap - (k + n))).size = cap * size := by
  simp only [Array.size_append, size_zeroCells, ha, hb, hz, ← Nat.add_mul]
  congr 1; omega

theorem oAppend_sound (hT : TabOk T P) (hR : R ι I m w) {ts : Array TypeId} {t u ty : TypeId} {s xv : NV} {x y : Value} {r : OpRes} (ht0 : ts[0]? = some t) (ht1 : ts[1]? = some u) (hl : sliceLike T u = true) (hv : V ι I s x) (hy : V ι I xv y) (hb : maxId s ≤ m.n)
    (h : (oAppend T t).f m s xv = some r) : SV P (Builtin.append_ ts ty #[x, y]) w ι I m r := by
  obtain ⟨du, hud, hdu⟩ := sliceLike_und hT hl
  unfold oAppend at h
  split at h
  case h_2 => cases h
  rename_i el size he
  obtain ⟨hu, hsz⟩ := elemOf_sound hT he
  split at h
  case h_2 => cases h
  rename_i z hz
  split at h
  case h_2 => cases h
  rename_i hc
  simp only [Bool.and_eq_true] at hc
  have hzs := Nat.eq_of_beq_eq_true hc.1
  have hpos : 0 < size := Nat.le_of_ble_eq_true hc.2
  simp only at h
  split at h
  case h_2 => cases h
  rename_i res hres
  cases h
  unfold appendN at hres
  split at hres
  case h_1 => cases hres
  rename_i n hn
  have hlen := lenN_sound (P := P) hy hn
  split at hres
  · rename_i h0
    have h0 := Nat.eq_of_beq_eq_true h0
    subst h0
    split at hres
    case h_2 => cases hres
    rename_i k hk
    cases hres
    obtain ⟨a, c, rfl, hle⟩ := slen_sound hv hk
    refine SV.val_same hR (run_append_in (w' := w) hT ht0 ht1 hu hud hdu hsz hlen (firstCells_zero hy hn size w) (by cases a <;> rfl) (by omega)) ?_ hb
    simpa using hv
  · rename_i h0
    have h0 : n ≠ 0 := fun e => by subst e; simp at h0
    split at hres
    case h_1 => cases hres
    rename_i new hnew
    split at hres
    case h_1 => cases hres
    rename_i hfew
    obtain ⟨zv, hzr, z2, z3, z4⟩ := zeroAll (ι := ι) (I := I) hT hz
    obtain ⟨xs, n1, n2, n3, n4⟩ := elemsN_sound (P := P) hR hy (fun k hk => by rw [hn] at hk; cases hk; exact Nat.le_refl _) hnew
    obtain ⟨xs', n1', n2', _, _⟩ := elemsN_sound (P := P) hR.drew hy (fun k hk => by rw [hn] at hk; cases hk; exact Nat.le_refl _) hnew
    unfold appendTo at hres
    split at hres
    · cases hres
      have hv' := hv
      simp only [V] at hv'
      obtain ⟨rfl, rfl, rfl⟩ := hv'
      have hf := few_sound (k := 0) rfl hfew
      obtain ⟨cap, hcap, hrun⟩ := run_append_any (ty := ty) (base := none) (sLen := 0) (sCap := 0) (olds := #[]) hT ht0 ht1 hu hud hdu hsz hzr hlen rfl n1' (by omega) hf
      have hl := VL_length n2'
      simp only [Array.length_toList] at hl
      have hsize := new_row_size (a := #[]) (b := xs') (zv := zv) (size := size) (k := 0) (n := n) (cap := cap) (by simp) (by omega) (by omega) hcap
      have htk : VL ι I new (((#[] ++ xs' ++ Builtin.zeroCells zv.cells (cap - (0 + n))) : Array Value).toList.take new.length) := by
        have e : new.length = xs'.toList.length := by simp [hl]
        rw [e, Array.empty_append, Array.toList_append, List.take_left]
        exact n2'
      have hnew := R.new hR.drew (l := new) (arr := #[] ++ xs' ++ Builtin.zeroCells zv.cells (cap - (0 + n))) (el := el) htk (by rw [hsize, n4]; exact Nat.mul_le_mul_right _ (by omega)) n3
      refine SV_drew hrun ?_ (by simp [maxId, Mem.push]) hnew.1 hnew.2
      simp only [Nat.zero_add] at hsize ⊢
      refine V_new_msl _ _ _ _ _ _ _ (by omega) ?_ ?_
      · rw [hsize]; exact Nat.le_refl _
      · rw [n4]; exact Nat.mul_le_mul_right _ (by omega)
    · rename_i b off len sz
      split at hres
      · cases hres
      rename_i hsq
      have hsq := Nat.eq_of_beq_eq_true hsq
      subst hsq
      split at hres
      · cases hres
      rename_i l hl
      have hf := few_sound (k := len) rfl hfew
      have hg := Mem.cells_get hl
      obtain ⟨b1, b2, b3, b4, b5⟩ := hR.blk b _ hg
      have hv' := hv
      simp only [V] at hv'
      obtain ⟨o, cap, rfl, v1, v2, v3, v4⟩ := hv'
      split at hres
      · rename_i hfit
        have hfit := Nat.le_of_ble_eq_true hfit
        have hcap : len + n ≤ cap := Nat.le_of_mul_le_mul_right (show (len + n) * sz ≤ cap * sz by omega) hpos
        split at hres
        case h_2 => cases hres
        rename_i m' hm'
        cases hres
        obtain ⟨a, cap', w', hx, k1, k2, k3⟩ := msl_write (P := P) hR hv hm' n2 n3
        injection hx with e1 e2 e3
        injection e1 with e1
        subst e1 e3
        refine ⟨_, w', ι, I, run_append_in hT ht0 ht1 hu hud hdu hsz hlen n1 k1 hcap, ?_, ?_, k2, k3⟩
        · simp only [V]
          exact ⟨o, cap, rfl, hcap, v2, v3, v4⟩
        · simp only [maxId] at hb ⊢
          exact Nat.le_trans hb k3.n
      · split at hres
        case h_2 => cases hres
        rename_i hac
        split at hres
        case h_2 => cases hres
        rename_i old hold
        cases hres
        obtain ⟨a, cap', os, hx, o1, o2, o3, o4⟩ := msl_read (P := P) hR.drew hv hl hold
        injection hx with e1 e2 e3
        injection e1 with e1
        subst e1 e3
        obtain ⟨r1, r2⟩ := readAt_eq hold
        by_cases hroom : len + n ≤ cap
        · have ho : o = (ι b).co + off := v2 (by omega)
          subst ho
          have hmul : len * sz + new.length ≤ cap * sz := by rw [n4, ← Nat.add_mul]; exact Nat.mul_le_mul_right _ hroom
          obtain ⟨k1, k2, k3⟩ := R.move (P := P) hR hl hold n2 n3 hac (cap * sz) v3 hmul
          refine ⟨.slice (some ⟨(ι b).cb, (ι b).co + off, none⟩) (len + n) cap, w.setCells (ι b).cb ((ι b).co + (off + len * sz)) xs.toList, upd ι m.n ⟨(ι b).cb, (ι b).co + off, cap * sz, len * sz + new.length⟩, I, run_append_in hT ht0 ht1 hu hud hdu hsz hlen n1 (w' := w.setCells (ι b).cb ((ι b).co + (off + len * sz)) xs.toList) ?_ hroom, ?_, ?_, k2, k3⟩
          · simp only [addr_add, Nat.add_assoc]; exact k1
          · simp only [V, upd_same, Nat.add_zero, Nat.zero_add]
            exact ⟨_, cap, rfl, hroom, fun _ => rfl, Nat.le_refl _, hmul⟩
          · simp [maxId, Mem.push, Mem.put]
        · obtain ⟨cap', hcap, hrun⟩ := run_append_any (ty := ty) (base := some ⟨(ι b).cb, o, none⟩) (sLen := len) (sCap := cap) (olds := os) hT ht0 ht1 hu hud hdu hsz hzr hlen o1 n1' (by omega) hf
          have hl1 := VL_length n2'
          have hl2 := VL_length o2
          simp only [Array.length_toList] at hl1 hl2
          have hsize := new_row_size (a := os) (b := xs') (zv := zv) (size := sz) (k := len) (n := n) (cap := cap') (by omega) (by omega) (by omega) hcap
          obtain ⟨hK, hKE⟩ := R.kill hR.drew hg rfl
          have htk : VL ι I (old ++ new) ((os ++ xs' ++ Builtin.zeroCells zv.cells (cap' - (len + n))).toList.take (old ++ new).length) := by
            have e : (old ++ new).length = (os ++ xs').toList.length := by simp [hl1, hl2]
            rw [e, show (os ++ xs' ++ Builtin.zeroCells zv.cells (cap' - (len + n))).toList = (os ++ xs').toList ++ (Builtin.zeroCells zv.cells (cap' - (len + n))).toList from Array.toList_append, List.take_left, Array.toList_append]
            exact VL_append o2 n2'
          have hnew := R.new hK (l := old ++ new) (arr := os ++ xs' ++ Builtin.zeroCells zv.cells (cap' - (len + n))) (el := el) htk (by rw [hsize, List.length_append, n4, o4, ← Nat.add_mul]; exact Nat.mul_le_mul_right _ hcap) (by rw [maxIds_append]; show max _ _ ≤ m.n; omega)
          refine SV_drew hrun ?_ (by simp [maxId, Mem.push, Mem.put]) hnew.1 (hKE.trans hnew.2)
          refine V_new_msl _ _ _ _ _ _ _ hcap ?_ ?_
          · rw [hsize]; exact Nat.le_refl _
          · rw [List.length_append, n4, o4, ← Nat.add_mul]; exact Nat.mul_le_mul_right _ hcap
    · cases hres

end Go.Kn

namespace Go.Kn

variable {T : Tab} {P : Program} {ι : Iota} {I : Imm} {m : Mem} {w : World}

theorem bytesOf_sound : ∀ {cs : List NV} {bs : List UInt8} {xs : List Value}, bytesOf cs = some bs → VL ι I cs xs → ∃ ns : List Int, xs = ns.map (Value.int .u8) ∧ bs = ns.map fun n => UInt8.ofNat n.toNat
  | [], bs, xs, h, hv => by
    simp only [bytesOf, Option.some.injEq] at h; subst h
    simp only [VL] at hv; subst hv
    exact ⟨[], rfl, rfl⟩
  | c :: cs, bs, xs, h, hv => by
    unfold bytesOf at h
    split at h
    · rename_i e; cases e
    · rename_i n l e
      cases e
      split at h
      case h_2 => cases h
      rename_i r hr
      cases h
      simp only [VL] at hv
      obtain ⟨x, s, rfl, hx, hv⟩ := hv
      simp only [V] at hx; subst hx
      obtain ⟨ns, rfl, rfl⟩ := bytesOf_sound hr hv
      exact ⟨n :: ns, rfl, rfl⟩
    · cases h

theorem foldl_push : ∀ (ns : List Int) (l : List UInt8), ns.foldl (fun (r : ByteArray) n => r.push (UInt8.ofNat n.toNat)) ⟨⟨l⟩⟩ = ⟨⟨l ++ ns.map fun n => UInt8.ofNat n.toNat⟩⟩
  | [], l => by simp
  | n :: ns, l => by
    simp only [List.foldl_cons, List.map_cons]
    have : (ByteArray.mk ⟨l⟩).push (UInt8.ofNat n.toNat) = ⟨⟨l ++ [UInt8.ofNat n.toNat]⟩⟩ := by simp [ByteArray.push]
    rw [this, foldl_push ns]
    simp

theorem toStr_sound (hR : R ι I m w) {v : NV} {x : Value} {r : OpRes} (hv : V ι I v x) (h : toStr m v = some r) : SV P (Conv.bytesToString x) w ι I m r := by
  unfold toStr at h
  split at h
  case h_2 => cases h
  rename_i n hn
  split at h
  case h_2 => cases h
  rename_i cs hcs
  split at h
  case h_2 => cases h
  rename_i bs hbs
  cases h
  obtain ⟨a, c, rfl, hle⟩ := slen_sound hv hn
  have hln : ∀ k, lenN v = some k → n ≤ k := by
    intro k hk
    unfold slen at hn; unfold lenN at hk
    split at hn <;> simp_all
  obtain ⟨xs, q1, q2, q3, q4⟩ := elemsN_sound (P := P) hR hv hln hcs
  obtain ⟨ns, e1, e2⟩ := bytesOf_sound hbs q2
  refine SV.val_same hR (x := .string ⟨⟨bs⟩⟩) ?_ (by simp [V]) (by simp [maxId])
  cases a with
  | none =>
    simp only [Builtin.firstCells] at q1
    cases q1
    have : ns = [] := by cases ns <;> simp_all
    subst this
    subst e2
    rfl
  | some a =>
    simp only [Builtin.firstCells, Nat.mul_one] at q1
    have hx : xs = (ns.map (Value.int .u8)).toArray := by apply Array.ext'; simpa using e1
    rw [hx] at q1
    rw [run_bytesToString w a n c ns q1]
    have := foldl_push ns []
    simp only [List.nil_append] at this
    rw [e2, ← this]
    rfl

theorem u8Slice_und (hT : TabOk T P) {d : TypeDesc} (h : u8Slice T d = true) : ∃ el, d = .slice el ∧ P.underlying el = some (.int .u8) := by
  unfold u8Slice at h
  split at h
  · rename_i el
    split at h
    · rename_i e he
      refine ⟨el, rfl, ?_⟩
      unfold isU8 at h
      split at h
      · exact hT.und _ _ he
      · cases h
    · cases h
  · cases h

theorem alloc_freeze (w : World) (arr : Array Value) (e : TypeId) (n : Nat) : (w.alloc (.cells arr e)).freeze ⟨w.heap.size, n, none⟩ 1 = w.alloc (.cells arr e (n, n + 1)) := by
  unfold World.freeze World.alloc
  rw [if_neg (by decide)]
  have : ∀ (h : Array Obj) (o : Obj) (f : Obj → Obj), (h.push o).modify h.size f = h.push (f o) := by
    intro h o f
    apply Array.ext
    · simp
    · intro i h1 h2
      simp only [Array.getElem_modify, Array.getElem_push]
      by_cases hi : i < h.size
      · simp [hi]; omega
      · simp only [Array.size_push] at h2
        have : h.size = i := by omega
        simp [this]
  simp only [this]
  simp

theorem shape_new (w : World) (arr : Array Value) (e : TypeId) : (w.alloc (.cells arr e)).shape? w.heap.size = some (e, arr.size) := by
  unfold World.shape?
  have e1 : (w.alloc (.cells arr e)).heap[w.heap.size]? = some (.cells arr e (0, 0)) := World.alloc_heap_new w _
  simp only [e1]

theorem stringToBytes_sound (hR : R ι I m w) (e : TypeId) (s : List UInt8) : SV P (Conv.stringToBytes e ⟨⟨s⟩⟩) w ι I m (.val (.msl m.n 0 s.length 1) (m.push (.cells (s.map fun b => .int .u8 b.toNat)))) := by
  have hcap : ∀ t, s.length ≤ (Question.appendCap s.length 0 e).cut t := fun t => by simp [Question.cut]
  generalize hc : (Question.appendCap s.length 0 e).cut (w.tape w.drawn (.appendCap s.length 0 e)) = cap
  have hc' : s.length ≤ cap := hc ▸ hcap _
  let arr : Array Value := (⟨s⟩ : Array UInt8).map (fun b => Value.int .u8 b.toNat) ++ Array.replicate (cap - s.length) (Value.int .u8 0)
  have hsz : arr.size = cap := by simp [arr]; omega
  have hvl : VL ι I (s.map fun b => NV.int .u8 b.toNat) (s.map fun b => Value.int .u8 b.toNat) := by
    clear hc hc' hcap arr hsz
    induction s with
    | nil => simp [VL]
    | cons a s ih => exact VL_cons.2 ⟨by simp [V], ih⟩
  have hmx : maxIds (s.map fun b => NV.int .u8 b.toNat) = 0 := by
    clear hc hc' hcap arr hsz hvl
    induction s with
    | nil => simp [maxIds]
    | cons a s ih => simp only [List.map_cons, maxIds, mx_eq, maxId, ih]; rfl
  have hnew := R.push hR.drew (.cells (s.map fun b => .int .u8 b.toNat)) (.cells arr e (arr.size, arr.size + 1)) ⟨w.heap.size, 0, arr.size, s.length⟩ rfl rfl (by simp only [mbMax, hmx]; omega) ?_
  · refine ⟨.slice (some ⟨w.heap.size, 0, none⟩) s.length cap, _, _, _, ?_, V_new_msl _ _ _ _ _ _ _ hc' (by omega) (by omega), by simp [maxId, Mem.push], hnew.1, hnew.2.drew_left⟩
    have h1 : ((⟨⟨s⟩⟩ : ByteArray).size) = s.length := rfl
    unfold Conv.stringToBytes
    simp only [Sem.run_bind, run_choose_drew, Question.forced, Bool.false_eq_true, if_false, Result.andThen_ok, h1, hc, run_newRow, markStringish, run_shape]
    have h2 : ((w.drew.alloc (.cells arr e)).shape? w.drew.heap.size) = some (e, arr.size) := shape_new w.drew arr e
    have h3 := alloc_freeze w.drew arr e arr.size
    simp only [arr] at h2 h3
    simp only [h2, run_freeze, Result.andThen_ok, Sem.run_pure]
    rw [h3]
    rfl
  · refine ⟨by simp, by simp [hsz]; omega, by simp, fun i hi => ?_, fun i v hv => ?_⟩
    · simp only at hi
      have hx : (w.drew.alloc (.cells arr e (arr.size, arr.size + 1))).heap[w.heap.size]? = some (.cells arr e (arr.size, arr.size + 1)) := World.alloc_heap_new w.drew _
      constructor
      · show ((w.drew.alloc _).cell? ⟨w.heap.size, 0 + i, none⟩).isSome = true
        unfold World.cell?
        simp only [hx]
        simp [hi]
      · exact ⟨arr, e, arr.size, arr.size + 1, hx, .inr (by simp only; omega)⟩
    · have hx : (w.drew.alloc (.cells arr e (arr.size, arr.size + 1))).heap[w.heap.size]? = some (.cells arr e (arr.size, arr.size + 1)) := World.alloc_heap_new w.drew _
      obtain ⟨y, hy, hvy⟩ := VL_get hvl hv
      have hlt : i < s.length := by
        rcases Nat.lt_or_ge i s.length with h | h
        · exact h
        · rw [List.getElem?_eq_none (by simpa using h)] at hv; cases hv
      refine ⟨y, ?_, V_upd (by have := maxIds_get hv; omega) hvy⟩
      show (w.drew.alloc _).cell? ⟨w.heap.size, 0 + i, none⟩ = some y
      unfold World.cell?
      simp only [hx]
      simp only [arr, Nat.zero_add]
      rw [Array.getElem?_append_left (by simpa using hlt)]
      simpa using hy

theorem put_same {m : Mem} (hl : m.bs.length = m.n) {b : Nat} {o : MB} (h : m.get b = some o) : (m.put b o).note b 0 = m := by
  have hn : (m.put b o).note b 0 = m.put b o := by
    unfold Mem.note
    have : Nat.ble 0 (b + 1) = true := Nat.ble_eq_true_of_le (Nat.zero_le _)
    rw [this]
  rw [hn]
  rw [Mem.get_eq] at h
  split at h
  case isFalse => cases h
  rename_i hb
  obtain ⟨h1, h2⟩ := List.getElem?_eq_some_iff.1 h
  unfold Mem.put
  rw [setNth_eq, ← h2, List.set_getElem_self]

theorem markStringish_sound (hR : R ι I m w) {b off len sz : Nat} {x : Value} (hv : V ι I (.msl b off len sz) x) (hb : maxId (NV.msl b off len sz) ≤ m.n) {l : List NV} (hg : m.get b = some (.cells l)) :
    ∃ a c w', x = .slice (some a) len c ∧ (markStringish a).run P w = .ok () w' ∧ R ι I m w' ∧ Ext ι I m w ι I m w' := by
  simp only [V] at hv
  obtain ⟨o, cap, rfl, v1, v2, v3, v4⟩ := hv
  cases hsh : w.shape? (ι b).cb with
  | none => exact ⟨_, cap, w, rfl, by simp [markStringish, hsh], hR, Ext.refl _ _ _ _⟩
  | some en =>
    obtain ⟨e, n⟩ := en
    unfold World.shape? at hsh
    split at hsh
    case h_2 => cases hsh
    rename_i c el fr hc
    obtain ⟨lo, hi⟩ := fr
    cases hsh
    refine ⟨_, cap, w.freeze ⟨(ι b).cb, c.size, none⟩ 1, rfl, ?_, ?_⟩
    · have : w.shape? (ι b).cb = some (e, c.size) := by unfold World.shape?; simp only [hc]
      simp [markStringish, this]
    obtain ⟨h1, h2, h3, h4, h5⟩ := hR.blk b _ hg
    have hother : ∀ k, k ≠ (ι b).cb → (w.freeze ⟨(ι b).cb, c.size, none⟩ 1).heap[k]? = w.heap[k]? := fun k hk => by
      unfold World.freeze
      rw [if_neg (by decide)]
      simp only [Array.getElem?_modify]
      rw [if_neg (fun e => hk e.symm)]
    have hnew : ∃ lo' hi', (w.freeze ⟨(ι b).cb, c.size, none⟩ 1).heap[(ι b).cb]? = some (.cells c e (lo', hi')) ∧ ((lo = hi ∧ lo' = c.size) ∨ (lo ≠ hi ∧ lo' = min lo c.size)) := by
      unfold World.freeze
      rw [if_neg (by decide)]
      simp only [Array.getElem?_modify, if_pos, hc, Option.map_some]
      by_cases hlh : lo = hi
      · subst hlh
        exact ⟨c.size, c.size + 1, by simp, .inl ⟨rfl, rfl⟩⟩
      · exact ⟨min lo c.size, max hi (c.size + 1), by simp [hlh], .inr ⟨hlh, rfl⟩⟩
    obtain ⟨lo', hi', hnew, hlo⟩ := hnew
    have hcell : ∀ k, (w.freeze ⟨(ι b).cb, c.size, none⟩ 1).cell? ⟨(ι b).cb, k, none⟩ = w.cell? ⟨(ι b).cb, k, none⟩ := fun k => by
      unfold World.cell?
      simp only [hnew, hc]
    have := R.turn hR hg rfl (.cells l) 0 (w' := w.freeze ⟨(ι b).cb, c.size, none⟩ 1) (by unfold World.freeze; rw [if_neg (by decide)]; simp) (fun k _ hne => hother k hne) (by unfold World.freeze; rw [if_neg (by decide)]) (by unfold World.freeze; rw [if_neg (by decide)]) (by unfold World.freeze; rw [if_neg (by decide)]) ?_ (by omega) (by omega)
    · rw [put_same hR.len hg] at this
      exact this
    · refine ⟨h1, h2, by unfold World.freeze; rw [if_neg (by decide)]; simpa using h3, fun i hi' => ?_, fun i v hv => ?_⟩
      · obtain ⟨k1, arr, e', lo', hi'', k2, k3⟩ := h4 i hi'
        rw [hc] at k2
        injection k2 with k2
        injection k2 with q1 q2 q3
        injection q3 with q3 q4
        subst q1 q3 q4
        refine ⟨by rw [hcell]; exact k1, _, _, _, _, hnew, ?_⟩
        have hlt : (ι b).co + i < c.size := by
          unfold World.cell? at k1
          simp only [hc] at k1
          rcases Nat.lt_or_ge ((ι b).co + i) c.size with h | h
          · exact h
          · rw [Array.getElem?_eq_none h] at k1; simp at k1
        right
        omega
      · rw [hcell]; exact h5 i v hv

theorem oConvert_sound (hT : TabOk T P) (hR : R ι I m w) {s d : TypeId} {v : NV} {x : Value} {r : OpRes} (hv : V ι I v x) (hb : maxId v ≤ m.n) (h : (oConvert T s d).f m v = some r) : SV P (convert s d x) w ι I m r := by
  unfold oConvert at h
  split at h
  case h_2 => cases h
  rename_i sd dd hs hd
  have hs := hT.und _ _ hs
  have hd := hT.und _ _ hd
  split at h
  · rename_i k _
    simp only at h
    split at h
    case h_2 => cases h
    rename_i k' n
    cases h
    simp only [V] at hv; subst hv
    refine SV.val_same hR (x := .int k (k.wrap n)) ?_ (by simp [V]) (by simp [maxId])
    simp [convert, run_underlying hs, run_underlying hd, Conv.intToInt]
  · split at h
    · rename_i hu8
      obtain ⟨el, rfl, hel⟩ := u8Slice_und hT hu8
      simp only at h
      have hsl : ∃ a n c, x = .slice a n c := by
        unfold toStr at h
        split at h
        case h_2 => cases h
        rename_i n hn
        obtain ⟨a, c, hx, _⟩ := slen_sound hv hn
        exact ⟨a, n, c, hx⟩
      obtain ⟨a, n, c, rfl⟩ := hsl
      exact SV.congr (run_convert_bytes_string w s d el a n c hs hel hd) (toStr_sound hR hv h)
    · split at h
      · cases h
      simp only at h
      split at h
      · rename_i l
        cases h
        simp only [V] at hv; subst hv
        refine SV.val_same hR (x := .string ⟨⟨l⟩⟩) ?_ (by simp only [V]) (by simp [maxId])
        simp [convert, run_underlying hs, run_underlying hd]
      · rename_i k n
        cases h
        simp only [V] at hv; subst hv
        refine SV.val_same hR (x := .string (Utf8.encode n)) ?_ (by simp only [V]) (by simp [maxId])
        simp [convert, run_underlying hs, run_underlying hd, Conv.intToString]
      · cases h
  · split at h
    case h_2 =>
      split at h
      case h_2 => cases h
      rename_i t
      split at h
      case h_2 => cases h
      rename_i n hn
      split at h
      · cases h
      rename_i hn0
      simp only at h
      split at h
      case h_2 => cases h
      rename_i b off
      split at h
      case h_2 => cases h
      rename_i l hl
      split at h
      case h_2 => cases h
      rename_i hlt
      cases h
      have hlt : off < l.length := Nat.le_of_ble_eq_true hlt
      obtain ⟨h1, h2, h3, h4, h5⟩ := hR.blk b _ (Mem.cells_get hl)
      have hv0 := hv
      simp only [V] at hv
      subst hv
      obtain ⟨h6, arr, e, lo, hi, h7, h8⟩ := h4 off (by omega)
      have hsz : (ι b).co + off < arr.size := by
        simp only [World.cell?, h7] at h6
        rcases Nat.lt_or_ge ((ι b).co + off) arr.size with h | h
        · exact h
        · rw [Array.getElem?_eq_none h] at h6; simp at h6
      have hsh : w.shape? (ι b).cb = some (e, arr.size) := by simp [World.shape?, h7]
      have hn1 : n ≠ 0 := fun e => by rw [e] at hn0; simp at hn0
      refine SV.val_same hR (x := .pointer (some ⟨(ι b).cb, (ι b).co + off, none⟩)) ?_ hv0 hb
      have hc := hT.cellsOf hn w
      have hlt2 : ¬ (arr.size ≤ (ι b).co + off) := by omega
      simp [convert, run_underlying hs, run_underlying hd, Conv.unsafePointer, Conv.seenAt, viewAt, cellsIn, hsh, hc, hn1, hlt2]
    rename_i hu8
    obtain ⟨el, rfl, hel⟩ := u8Slice_und hT hu8
    simp only at h
    split at h
    · rename_i bs
      cases h
      simp only [V] at hv; subst hv
      refine SV.congr ?_ (stringToBytes_sound hR el bs)
      simp [convert, run_underlying hs, run_underlying hd, run_underlying hel]
    · rename_i b off len sz
      split at h
      case h_2 => cases h
      rename_i hsd
      have hsd := Nat.eq_of_beq_eq_true hsd
      subst hsd
      split at h
      case h_2 => cases h
      rename_i l hl
      cases h
      obtain ⟨a, c, w', rfl, k1, k2, k3⟩ := markStringish_sound (P := P) hR hv hb (Mem.cells_get hl)
      refine ⟨_, w', ι, I, ?_, hv, hb, k2, k3⟩
      simp [convert, run_underlying hd, run_underlying hel, k1]
    · cases h

end Go.Kn

namespace Go.Kn

variable {T : Tab} {P : Program} {ι : Iota} {I : Imm} {m : Mem} {w : World}

def VO (ι : Iota) (I : Imm) : Option NV → Option Value → Prop
  | none, y => y = none
  | some v, y => ∃ x, y = some x ∧ V ι I v x

theorem rhoO_sound {e : Env} {a : Act} (hg : GlobOk T I) (hE : ER ι I m e a.tmps) {x : Option Operand} {v : Option NV} (h : (rhoO T x).f e = some v) : VO ι I v (x.map a.eval) := by
  cases x with
  | none => simp only [rhoO, Option.some.injEq] at h; subst h; rfl
  | some x =>
    simp only [rhoO] at h
    split at h
    · rename_i u hu
      cases h
      exact ⟨_, rfl, (rho_sound hg hE hu).1⟩
    · cases h

/-- A panic about bounds. -/
def BP {α : Type} (P : Program) (S : Sem α) (w : World) : Prop := ∃ z, S.run P w = .halt (.panic (.iface P.rt.boundsError z)) w ∨ S.run P w = .halt (.panic (.iface P.rt.boundsError z)) w.drew

theorem BP.sv {S : Sem Value} (hR : R ι I m w) (h : BP P S w) : SV P S w ι I m (.pan .rterr m) := by
  obtain ⟨z, hz | hz⟩ := h
  · exact SV.pan_same hR hz
  · exact ⟨_, w.drew, hz, by simp only [V]; exact ⟨_, _, rfl⟩, by simp [maxId], rfl, hR.drew, (Ext.refl _ _ _ _).drew⟩

theorem BP.bind {α β : Type} {S : Sem α} {f : α → Sem β} (h : BP P S w) : BP P (S >>= f) w := by
  obtain ⟨z, hz | hz⟩ := h
  · exact ⟨z, .inl (by simp [hz])⟩
  · exact ⟨z, .inr (by simp [hz])⟩

theorem BP.after {α β : Type} {S : Sem α} {f : α → Sem β} {x : α} (hS : S.run P w = .ok x w) (h : BP P (f x) w) : BP P (S >>= f) w := by
  obtain ⟨z, hz | hz⟩ := h
  · exact ⟨z, .inl (by simp [hS, hz])⟩
  · exact ⟨z, .inr (by simp [hS, hz])⟩

theorem boundN_val {v : NV} {x : Value} {other y n : Nat} (hv : V ι I v x) (h : boundN (some v) other y = some (some n)) : ∃ k i, x = .int k i ∧ 0 ≤ i ∧ i ≤ (y : Int) ∧ i.toNat = n := by
  cases v <;> simp only [boundN] at h <;> first | cases h | skip
  simp only [V] at hv
  simp only [Option.some.injEq] at h
  split at h
  · rename_i hc; cases h; exact ⟨_, _, hv, hc.1, hc.2, rfl⟩
  · cases h

theorem boundN_pan {v : NV} {x : Value} {other y : Nat} (hv : V ι I v x) (h : boundN (some v) other y = some none) : ∃ k i, x = .int k i ∧ ¬ (0 ≤ i ∧ i ≤ (y : Int)) := by
  cases v <;> simp only [boundN] at h <;> first | cases h | skip
  simp only [V] at hv
  simp only [Option.some.injEq] at h
  split at h
  · cases h
  · rename_i hc; exact ⟨_, _, hv, hc⟩

theorem run_sliceBound {k : IntKind} {i : Int} {y n : Nat} (h0 : 0 ≤ i) (h1 : i ≤ (y : Int)) (h2 : i.toNat = n) (c : BoundsCode) (w : World) : (Instr.sliceBound (.int k i) y c).run P w = .ok n w := by
  simp [Instr.sliceBound, asIntOf, h0, h1, h2]

theorem BP_sliceBound {k : IntKind} {i : Int} {y : Nat} (h : ¬ (0 ≤ i ∧ i ≤ (y : Int))) (c : BoundsCode) (w : World) : BP P (Instr.sliceBound (.int k i) y c) w := by
  obtain ⟨z, hz⟩ := run_boundsPanic_any (P := P) (α := Nat) k i y c w
  refine ⟨z, ?_⟩
  simpa [Instr.sliceBound, asIntOf, h] using hz

/-- Both bounds of a slice expression. -/
theorem bounds_ok {lo hi : Option NV} {lx hx : Option Value} {len y cap l u : Nat} (b : Bool) (h1 : VO ι I lo lx) (h2 : VO ι I hi hx) (hy : y ≤ cap) (h : boundsN lo hi len y = some (some (l, u))) (w : World) :
    (Instr.sliceBounds b len cap lx hx none).run P w = .ok (l, u, cap) w ∧ l ≤ u ∧ u ≤ max len y := by
  unfold boundsN at h
  split at h
  · cases h
  · cases h
  rename_i h' hh
  split at h
  · cases h
  · cases h
  rename_i l' hl
  cases h
  cases hi with
  | none =>
    simp only [VO] at h2; subst h2
    simp only [boundN, Option.some.injEq] at hh; subst hh
    cases lo with
    | none =>
      simp only [VO] at h1; subst h1
      simp only [boundN, Option.some.injEq] at hl; subst hl
      exact ⟨by simp [Instr.sliceBounds], by omega, by omega⟩
    | some v =>
      obtain ⟨x, rfl, hv⟩ := h1
      obtain ⟨k, i, rfl, i1, i2, i3⟩ := boundN_val hv hl
      exact ⟨by simp [Instr.sliceBounds, run_sliceBound i1 i2 i3], by omega, by omega⟩
  | some u' =>
    obtain ⟨x, rfl, hv⟩ := h2
    obtain ⟨k, i, rfl, i1, i2, i3⟩ := boundN_val hv hh
    have i2' : i ≤ (cap : Int) := by omega
    cases lo with
    | none =>
      simp only [VO] at h1; subst h1
      simp only [boundN, Option.some.injEq] at hl; subst hl
      exact ⟨by simp [Instr.sliceBounds, run_sliceBound i1 i2' i3], by omega, by omega⟩
    | some v =>
      obtain ⟨x, rfl, hv⟩ := h1
      obtain ⟨k', j, rfl, j1, j2, j3⟩ := boundN_val hv hl
      exact ⟨by simp [Instr.sliceBounds, run_sliceBound i1 i2' i3, run_sliceBound j1 j2 j3], by omega, by omega⟩

theorem bounds_pan {lo hi : Option NV} {lx hx : Option Value} {len y : Nat} (b : Bool) (h1 : VO ι I lo lx) (h2 : VO ι I hi hx) (h : boundsN lo hi len y = some none) (w : World) :
    BP P (Instr.sliceBounds b len y lx hx none) w := by
  unfold boundsN at h
  split at h
  · cases h
  · rename_i hh
    cases hi with
    | none => simp [boundN] at hh
    | some u' =>
      obtain ⟨x, rfl, hv⟩ := h2
      obtain ⟨k, i, rfl, hn⟩ := boundN_pan hv hh
      obtain ⟨z, hz⟩ := BP_sliceBound (P := P) (k := k) hn (if b then .sliceAcap else .sliceAlen) w
      refine ⟨z, ?_⟩
      rcases hz with hz | hz
      · left; simp [Instr.sliceBounds, hz]
      · right; simp [Instr.sliceBounds, hz]
  rename_i h' hh
  split at h
  · cases h
  · rename_i hl
    cases lo with
    | none => simp [boundN] at hl
    | some v =>
      obtain ⟨x, rfl, hv⟩ := h1
      obtain ⟨k, i, rfl, hn⟩ := boundN_pan hv hl
      obtain ⟨z, hz⟩ := BP_sliceBound (P := P) (k := k) hn .sliceB w
      cases hi with
      | none =>
        simp only [VO] at h2; subst h2
        simp only [boundN, Option.some.injEq] at hh; subst hh
        refine ⟨z, ?_⟩
        rcases hz with hz | hz
        · left; simp [Instr.sliceBounds, hz]
        · right; simp [Instr.sliceBounds, hz]
      | some u' =>
        obtain ⟨x, rfl, hv⟩ := h2
        obtain ⟨k', j, rfl, j1, j2, j3⟩ := boundN_val hv hh
        refine ⟨z, ?_⟩
        rcases hz with hz | hz
        · left; simp [Instr.sliceBounds, run_sliceBound j1 j2 j3, hz]
        · right; simp [Instr.sliceBounds, run_sliceBound j1 j2 j3, hz]
  · cases h

theorem ba_extract (s : List UInt8) (l h : Nat) : (⟨⟨s⟩⟩ : ByteArray).extract l h = ⟨⟨(s.drop l).take (h - l)⟩⟩ := by
  have : ∀ x y : ByteArray, x.data = y.data → x = y := fun x y h => by cases x; cases y; simp_all
  apply this
  rw [ByteArray.data_extract]
  apply Array.ext'
  simp [List.extract_eq_take_drop]

theorem sliceStr_sound (hT : TabOk T P) (hR : R ι I m w) {t : TypeId} {s : List UInt8} {lo hi : Option NV} {lx hx : Option Value} {r : OpRes} (ht : P.underlying t = some .string) (h1 : VO ι I lo lx) (h2 : VO ι I hi hx)
    (h : oSliceStr m s lo hi = some r) : SV P (Instr.sliceAt t (.string ⟨⟨s⟩⟩) lx hx none) w ι I m r := by
  unfold oSliceStr at h
  split at h
  · cases h
  · rename_i hb
    cases h
    have hp := bounds_pan (P := P) false h1 h2 hb w
    obtain ⟨z, hz⟩ := hp
    refine BP.sv hR ⟨z, ?_⟩
    have hsz : (⟨⟨s⟩⟩ : ByteArray).size = s.length := rfl
    rcases hz with hz | hz
    · left; simp [Instr.sliceAt, Instr.slice, run_underlying ht, hsz, hz]
    · right; simp [Instr.sliceAt, Instr.slice, run_underlying ht, hsz, hz]
  · rename_i l u hb
    cases h
    obtain ⟨k1, k2, k3⟩ := bounds_ok (P := P) false h1 h2 (Nat.le_refl _) hb w
    have hsz : (⟨⟨s⟩⟩ : ByteArray).size = s.length := rfl
    refine SV.val_same hR (x := .string ⟨⟨(s.drop l).take (u - l)⟩⟩) ?_ (by simp only [V]) (by simp [maxId])
    simp [Instr.sliceAt, Instr.slice, run_underlying ht, hsz, k1, ba_extract]

theorem sliceVec_sound (hT : TabOk T P) (hR : R ι I m w) {t el : TypeId} {size len : Nat} {n : Bool} {cs : List NV} {x : Value} {lo hi : Option NV} {lx hx : Option Value} {r : OpRes} (ht : P.underlying t = some (.slice el)) (hs : T.size el = some size) (hv : V ι I (.vec n len cs) x) (h1 : VO ι I lo lx) (h2 : VO ι I hi hx)
    (h : oSliceVec m size n len cs lo hi = some r) : SV P (Instr.sliceAt t x lx hx none) w ι I m r := by
  unfold oSliceVec at h
  split at h
  case h_2 => cases h
  rename_i l u hb
  split at h
  case h_2 => cases h
  rename_i q hq
  cases h
  obtain ⟨e1, e2⟩ := readAt_eq hq
  cases n
  · simp only [V] at hv
    obtain ⟨h0, cb, co, cap, rfl, hc, hl⟩ := hv
    obtain ⟨k1, k2, k3⟩ := bounds_ok (P := P) true h1 h2 hc hb w
    refine SV.val_same hR (x := .slice (some (if cap = l then ⟨cb, co, none⟩ else ⟨cb, co + l * size, none⟩)) (u - l) (cap - l)) ?_ ?_ (by simp [maxId])
    · simp only [Instr.sliceAt, Instr.slice, Sem.run_bind, run_underlying ht, Result.andThen_ok, k1, hT.cellsOf hs, Sem.run_pure, Option.map_some, addr_add]
      split <;> rfl
    · simp only [V]
      have hmx : maxIds q = 0 := by have := maxIds_readAt hq; omega
      by_cases hcl : cap = l
      · have : u - l = 0 := by omega
        have hq0 : q = [] := by rw [e2, this]; simp
        rw [if_pos hcl, hq0]
        exact ⟨by simp [maxIds], cb, co, _, rfl, by omega, by simp [VI]⟩
      · rw [if_neg hcl]
        refine ⟨hmx, cb, co + l * size, _, rfl, by omega, ?_⟩
        rw [e2]
        exact VI_take _ (VI_drop _ hl)
  · simp only [V] at hv
    obtain ⟨rfl, rfl, rfl⟩ := hv
    obtain ⟨k1, k2, k3⟩ := bounds_ok (P := P) true h1 h2 (Nat.le_refl _) hb w
    have hu : u = 0 := by omega
    have hl : l = 0 := by omega
    subst hu hl
    have hq0 : q = [] := by rw [e2]; simp
    subst hq0
    refine SV.val_same hR (x := .slice none 0 0) ?_ (by simp [V]) (by simp [maxId])
    simp [Instr.sliceAt, Instr.slice, run_underlying ht, k1, hT.cellsOf hs]

theorem sliceMsl_sound (hT : TabOk T P) (hR : R ι I m w) {t el : TypeId} {size b off len sz : Nat} {x : Value} {lo hi : Option NV} {lx hx : Option Value} {r : OpRes} (ht : P.underlying t = some (.slice el)) (hs : T.size el = some size) (hv : V ι I (.msl b off len sz) x) (hbd : b + 1 ≤ m.n) (h1 : VO ι I lo lx) (h2 : VO ι I hi hx)
    (h : oSliceMsl m size b off len sz lo hi = some r) : SV P (Instr.sliceAt t x lx hx none) w ι I m r := by
  unfold oSliceMsl at h
  split at h
  case h_2 => cases h
  rename_i cl hcl
  split at h
  case h_2 => cases h
  rename_i hc
  simp only [Bool.and_eq_true] at hc
  have hsz := Nat.eq_of_beq_eq_true hc.1.1
  have hpos : 0 < size := Nat.le_of_ble_eq_true hc.1.2
  subst hsz
  split at h
  case h_2 => cases h
  rename_i l u hb
  cases h
  simp only [V] at hv
  obtain ⟨o, cap, rfl, v1, v2, v3, v4⟩ := hv
  obtain ⟨b1, b2, b3, b4, b5⟩ := hR.blk b _ (Mem.cells_get hcl)
  have hy : (cl.length - off) / sz ≤ cap := Nat.div_le_of_le_mul (by rw [Nat.mul_comm]; omega)
  obtain ⟨k1, k2, k3⟩ := bounds_ok (P := P) true h1 h2 hy hb w
  refine SV.val_same hR (x := .slice (some (if cap = l then ⟨(ι b).cb, o, none⟩ else ⟨(ι b).cb, o + l * sz, none⟩)) (u - l) (cap - l)) ?_ ?_ (by simpa [maxId] using hbd)
  · simp only [Instr.sliceAt, Instr.slice, Sem.run_bind, run_underlying ht, Result.andThen_ok, k1, hT.cellsOf hs, Sem.run_pure, Option.map_some, addr_add]
    split <;> rfl
  · have hmul : l * sz + (cap - l) * sz = cap * sz := by rw [← Nat.add_mul]; congr 1; omega
    simp only [V]
    refine ⟨if cap = l then o else o + l * sz, cap - l, by split <;> rfl, by omega, fun hp => ?_, by omega, by omega⟩
    rw [if_neg (by omega), v2 (by omega)]
    omega

theorem sliceArr_sound (hT : TabOk T P) (hR : R ι I m w) {t el : TypeId} {n size b off : Nat} {x : Value} {lo hi : Option NV} {lx hx : Option Value} {r : OpRes} (ht : P.underlying t = some (.array n el)) (hs : T.size el = some size) (hv : V ι I (.ptr b off) x) (hbd : b + 1 ≤ m.n) (h1 : VO ι I lo lx) (h2 : VO ι I hi hx)
    (h : oSliceArr m n size b off lo hi = some r) : SV P (Instr.sliceAt t x lx hx none) w ι I m r := by
  unfold oSliceArr at h
  split at h
  case h_2 => cases h
  rename_i cl hcl
  split at h
  case h_2 => cases h
  rename_i hc
  simp only [Bool.and_eq_true] at hc
  have hln := Nat.eq_of_beq_eq_true hc.1
  split at h
  case h_2 => cases h
  rename_i l u hb
  cases h
  simp only [V] at hv
  subst hv
  obtain ⟨b1, b2, b3, b4, b5⟩ := hR.blk b _ (Mem.cells_get hcl)
  obtain ⟨k1, k2, k3⟩ := bounds_ok (P := P) false h1 h2 (Nat.le_refl _) hb w
  refine SV.val_same hR (x := .slice (some (if n = l then ⟨(ι b).cb, (ι b).co + off, none⟩ else ⟨(ι b).cb, (ι b).co + off + l * size, none⟩)) (u - l) (n - l)) ?_ ?_ (by simpa [maxId] using hbd)
  · simp only [Instr.sliceAt, Instr.sureAddr, Sem.run_bind, run_underlying ht, Result.andThen_ok, k1, hT.cellsOf hs, Sem.run_pure, addr_add]
  · have hmul : l * size + (n - l) * size = n * size := by rw [← Nat.add_mul]; congr 1; omega
    simp only [V]
    refine ⟨if n = l then (ι b).co + off else (ι b).co + off + l * size, n - l, by split <;> rfl, by omega, fun hp => ?_, by omega, by omega⟩
    rw [if_neg (by omega)]
    omega

theorem oSlice_sound (hT : TabOk T P) (hR : R ι I m w) {t : TypeId} {v : NV} {x : Value} {lo hi : Option NV} {lx hx : Option Value} {r : OpRes} (hv : V ι I v x) (hbd : maxId v ≤ m.n) (h1 : VO ι I lo lx) (h2 : VO ι I hi hx)
    (h : (oSlice T t).f m v lo hi = some r) : SV P (Instr.sliceAt t x lx hx none) w ι I m r := by
  unfold oSlice at h
  split at h
  · rename_i hu
    simp only at h
    split at h
    case h_2 => cases h
    simp only [V] at hv; subst hv
    exact sliceStr_sound hT hR (hT.und _ _ hu) h1 h2 h
  · rename_i hu
    split at h
    case h_2 => cases h
    rename_i hs
    simp only at h
    split at h
    · exact sliceVec_sound hT hR (hT.und _ _ hu) hs hv h1 h2 h
    · exact sliceMsl_sound hT hR (hT.und _ _ hu) hs hv (by simpa [maxId] using hbd) h1 h2 h
    · cases h
  · rename_i hu
    split at h
    case h_2 => cases h
    rename_i hs
    simp only at h
    split at h
    · exact sliceArr_sound hT hR (hT.und _ _ hu) hs hv (by simpa [maxId] using hbd) h1 h2 h
    · cases h
  · cases h

theorem oSlice3_sound (hT : TabOk T P) (hR : R ι I m w) {t : TypeId} {v mv : NV} {x mx : Value} {lo hi : Option NV} {lx hx : Option Value} {r : OpRes} (hv : V ι I v x) (h1 : VO ι I lo lx) (h2 : VO ι I hi hx) (hm : V ι I mv mx)
    (h : (oSlice3 T t).f m v lo hi mv = some r) : SV P (Instr.sliceAt t x lx hx (some mx)) w ι I m r := by
  unfold oSlice3 at h
  split at h
  case h_2 => cases h
  rename_i el hu
  have hu := hT.und _ _ hu
  split at h
  case h_2 => cases h
  rename_i size hs
  simp only at h
  split at h
  case h_2 => cases h
  rename_i b off len sz hiv
  split at h
  case h_2 => cases h
  rename_i c hc
  split at h
  case h_2 => cases h
  rename_i lu hb
  cases h
  obtain ⟨hxv, rfl, hh⟩ := h2
  simp only [V] at hv
  obtain ⟨o, cap, rfl, v1, _⟩ := hv
  obtain ⟨k, i, rfl, i1, i2, i3⟩ := boundN_val hm hc
  have i2' : i ≤ (cap : Int) := by omega
  unfold boundsN at hb
  split at hb
  · cases hb
  · cases hb
  rename_i u hu'
  obtain ⟨k', j, rfl, j1, j2, j3⟩ := boundN_val hh hu'
  split at hb
  · cases hb
  · cases hb
  rename_i l hl
  have key : ∃ a n c, (Instr.sliceAt t (.slice (some ⟨(ι b).cb, o, none⟩) len cap) lx (some (.int k' j)) (some (.int k i))).run P w = .ok (.slice a n c) w := by
    cases lo with
    | none =>
      simp only [VO] at h1; subst h1
      simp [Instr.sliceAt, Instr.slice, run_underlying hu, Instr.sliceBounds, run_sliceBound i1 i2' i3, run_sliceBound j1 j2 j3, hT.cellsOf hs]
    | some lv =>
      obtain ⟨y, rfl, hv'⟩ := h1
      obtain ⟨k'', q, rfl, q1, q2, q3⟩ := boundN_val hv' hl
      simp [Instr.sliceAt, Instr.slice, run_underlying hu, Instr.sliceBounds, run_sliceBound i1 i2' i3, run_sliceBound j1 j2 j3, run_sliceBound q1 q2 q3, hT.cellsOf hs]
  obtain ⟨a, n, c', hk⟩ := key
  exact SV.val_same hR hk (by simp [V, Value.oneCell']) (by simp [maxId])

end Go.Kn

namespace Go.Kn

variable {T : Tab} {P : Program} {ι : Iota} {I : Imm} {m : Mem} {w : World}

theorem ba_beq (a b : List UInt8) : ((⟨⟨a⟩⟩ : ByteArray) == ⟨⟨b⟩⟩) = (a == b) := by
  rw [beq_toListBytes, ba_toList, ba_toList]

/-- A key as the model sees it. -/
theorem key_forms {kd : TypeDesc} {k : NV} {kx : Value} (hk : keyKind kd k = true) (hv : V ι I k kx) :
    (∃ j j' n, kd = .int j ∧ k = .int j' n ∧ kx = .int j' n) ∨ (∃ s, kd = .string ∧ k = .str s ∧ kx = .string ⟨⟨s⟩⟩) := by
  unfold keyKind at hk
  split at hk
  · simp only [V] at hv; exact .inl ⟨_, _, _, rfl, rfl, hv⟩
  · simp only [V] at hv; exact .inr ⟨_, rfl, rfl, hv⟩
  · cases hk

theorem sameNow_sound {kd : TypeDesc} {k k' : NV} {kx kx' : Value} {b : Bool} (hk : keyKind kd k = true) (hv : V ι I k kx) (hv' : V ι I k' kx') (h : beqS k k' = some b) : Instr.sameNow kd kx kx' = some b := by
  rcases key_forms hk hv with ⟨j, j', n, rfl, rfl, rfl⟩ | ⟨s, rfl, rfl, rfl⟩
  · unfold beqS at h
    split at h
    · rename_i e; cases e
    · rename_i j1 n1 j2 n2 e
      cases e
      simp only [V] at hv'; subst hv'
      simpa [Instr.sameNow] using h
    · rename_i e; cases e
    · cases h
  · unfold beqS at h
    split at h
    · rename_i e; cases e
    · rename_i e; cases e
    · rename_i s1 s2 e
      cases e
      simp only [V] at hv'; subst hv'
      simp only [Instr.sameNow, ba_beq]
      exact h
    · cases h

theorem keyBnd {kd : TypeDesc} {k : NV} (hk : keyKind kd k = true) : maxId k = 0 := by
  unfold keyKind at hk
  split at hk <;> first | rfl | cases hk

theorem find_sound {kd : TypeDesc} {k : NV} {kx : Value} (hk : keyKind kd k = true) (hv : V ι I k kx) : ∀ {es : List (NV × NV)} {r : List MapEntry} {o : Option NV} (i : Nat), VE ι I es r → mapFind k es = some o →
    match o with
    | none => Instr.findNow kd kx r i = some none
    | some v => ∃ j x, Instr.findNow kd kx r i = some (some (j, x)) ∧ V ι I v x ∧ maxId v ≤ maxIdsP es
  | [], r, o, i, h, hf => by
    simp only [VE] at h; subst h
    simp only [mapFind, Option.some.injEq] at hf; subst hf
    rfl
  | (k', v) :: es, r, o, i, h, hf => by
    obtain ⟨e, s, rfl, h1, h2, h3⟩ := h
    simp only [mapFind] at hf
    split at hf
    · rename_i hb
      cases hf
      have := sameNow_sound hk hv h1 hb
      exact ⟨i, e.val, by simp [Instr.findNow, this], h2, by simp only [maxIdsP]; omega⟩
    · rename_i hb
      have := sameNow_sound hk hv h1 hb
      have ih := find_sound hk hv (i + 1) h3 hf
      cases o with
      | none => simp only at ih ⊢; simp [Instr.findNow, this, ih]
      | some u =>
        obtain ⟨j, x, q1, q2, q3⟩ := ih
        exact ⟨j, x, by simp [Instr.findNow, this, q1], q2, by simp only [maxIdsP]; omega⟩
    · cases hf

theorem keyOk {kd : TypeDesc} {k : NV} {kx : Value} {kt : TypeId} (hd : P.underlying kt = some kd) (hk : keyKind kd k = true) (hv : V ι I k kx) (e : Bool) (w : World) : (Instr.checkKey e 10000 kt kx).run P w = .ok () w := by
  have hr := run_underlying (P := P) hd w
  show (Instr.checkKey e (9999 + 1) kt kx).run P w = .ok () w
  generalize 9999 = n
  unfold Instr.checkKey
  rcases key_forms hk hv with ⟨j, j', n', rfl, rfl, rfl⟩ | ⟨s, rfl, rfl, rfl⟩
  · simp [hr]
  · simp [hr]

theorem mapOf_bnd (hR : R ι I m w) {v : NV} {es : List (NV × NV)} (h : mapOf m v = some es) : maxIdsP es ≤ m.n := by
  unfold mapOf at h
  split at h
  · cases h; simp [maxIdsP]
  · split at h
    case h_2 => cases h
    rename_i b _ es' hg
    cases h
    exact (hR.bnd b _ hg).1
  · cases h

theorem oLookup_sound (hT : TabOk T P) (hR : R ι I m w) {t : TypeId} {ok : Bool} {v k : NV} {x kx : Value} {r : OpRes} (hv : V ι I v x) (hk : V ι I k kx) (h : (oLookup T t ok).f m v k = some r) : SV P (Instr.lookup t x kx ok) w ι I m r := by
  unfold oLookup at h
  split at h
  case h_2 => cases h
  rename_i kt el hu
  have hu := hT.und _ _ hu
  split at h
  case h_2 => cases h
  rename_i kd z hkd hz
  have hkd := hT.und _ _ hkd
  simp only at h
  split at h
  case h_2 => cases h
  rename_i hkk
  split at h
  case h_2 => cases h
  rename_i es hes
  obtain ⟨zx, z1, z2, z3⟩ := zeroV_sound (ι := ι) (I := I) hT hz w
  have hbd := mapOf_bnd hR hes
  have hck := fun e => keyOk (P := P) hkd hkk hk e w
  have hrk := run_underlying (P := P) hkd w
  split at h
  · rename_i u hu'
    cases h
    have run : ∀ (arr : List MapEntry), VE ι I es arr → ∃ j y, (Instr.findKey kt kx arr).run P w = .ok (some (j, y)) w ∧ V ι I u y ∧ maxId u ≤ maxIdsP es := fun arr ha => by
      obtain ⟨j, y, f1, f2, f3⟩ := find_sound hkk hk 0 ha hu'
      exact ⟨j, y, by simp [Instr.findKey, hrk, f1], f2, f3⟩
    rcases mapOf_len hR hv hes with ⟨rfl, rfl⟩ | ⟨r, arr, c, rfl, h1, h2⟩
    · simp [mapFind] at hu'
    · obtain ⟨j, y, f1, f2, f3⟩ := run _ h2
      obtain ⟨o1, o2⟩ := okV_sound (ok := ok) (is := true) f2
      refine SV.val_same hR ?_ o1 (by omega)
      have hg : (getObj r).run P w = .ok (.map arr c) w := by simp [getObj, Sem.run, h1]
      simp [Instr.lookup, run_underlying hu, hg, hck, f1]
  · rename_i hu'
    cases h
    have run : ∀ (arr : List MapEntry), VE ι I es arr → (Instr.findKey kt kx arr).run P w = .ok none w := fun arr ha => by
      have f1 := find_sound hkk hk 0 ha hu'
      simp only at f1
      simp [Instr.findKey, hrk, f1]
    obtain ⟨o1, o2⟩ := okV_sound (ok := ok) (is := false) z2
    refine SV.val_same hR ?_ o1 (by omega)
    rcases mapOf_len hR hv hes with ⟨rfl, rfl⟩ | ⟨r, arr, c, rfl, h1, h2⟩
    · have f1 := run [] (by simp [VE])
      simp [Instr.lookup, run_underlying hu, hck, f1, z1]
    · have f1 := run _ h2
      have hg : (getObj r).run P w = .ok (.map arr c) w := by simp [getObj, Sem.run, h1]
      simp [Instr.lookup, run_underlying hu, hg, hck, f1, z1]
  · cases h

theorem beqS_eq {k k' : NV} (h : beqS k k' = some true) : ∃ kx : Value, (∀ ι I x, V ι I k x → x = kx) ∧ (∀ ι I x, V ι I k' x → x = kx) ∧ Instr.sameBits 10000 kx kx = true := by
  unfold beqS at h
  split at h
  · rename_i a b
    simp only [Option.some.injEq, beq_iff_eq] at h; subst h
    exact ⟨.bool a, fun _ _ x hx => by simpa [V] using hx, fun _ _ x hx => by simpa [V] using hx, by simp [Instr.sameBits]⟩
  · rename_i j a j' b
    split at h
    case isFalse => cases h
    rename_i e
    simp only [Option.some.injEq, beq_iff_eq] at h; subst h e
    exact ⟨.int j a, fun _ _ x hx => by simpa [V] using hx, fun _ _ x hx => by simpa [V] using hx, by simp [Instr.sameBits]⟩
  · rename_i a b
    simp only [Option.some.injEq, beq_iff_eq] at h; subst h
    exact ⟨.string ⟨⟨a⟩⟩, fun _ _ x hx => by simpa [V] using hx, fun _ _ x hx => by simpa [V] using hx, by simp [Instr.sameBits, ba_beq]⟩
  · cases h

/-- A map's new entry, or a new value in an old one. -/
theorem set_sound {kd : TypeDesc} {k v : NV} {kx vx : Value} (hk : keyKind kd k = true) (hv : V ι I k kx) (hvv : V ι I v vx) : ∀ {es es' : List (NV × NV)} {r : List MapEntry} (i : Nat), VE ι I es r → mapSet k v es = some es' →
    maxIdsP es' ≤ max (maxIdsP es) (maxId v) ∧
    ((Instr.findNow kd kx r i = some none ∧ ∀ c, VE ι I es' (r ++ [{ key := kx, val := vx, born := c }])) ∨
     ∃ j x e, Instr.findNow kd kx r i = some (some (i + j, x)) ∧ r[j]? = some e ∧ e.key = kx ∧ Instr.sameBits 10000 kx kx = true ∧ VE ι I es' (r.modify j fun e => { e with key := kx, val := vx }))
  | [], es', r, i, h, hf => by
    simp only [VE] at h; subst h
    simp only [mapSet, Option.some.injEq] at hf; subst hf
    refine ⟨by simp only [maxIdsP, keyBnd hk]; omega, .inl ⟨rfl, fun c => ?_⟩⟩
    simp only [List.nil_append, VE]
    exact ⟨_, [], rfl, hv, hvv, rfl⟩
  | (k', v') :: es, es', r, i, h, hf => by
    obtain ⟨e, s, rfl, h1, h2, h3⟩ := h
    simp only [mapSet] at hf
    split at hf
    · rename_i hb
      cases hf
      obtain ⟨kx', q1, q2, q3⟩ := beqS_eq hb
      have e1 := q1 _ _ _ hv
      have e2 := q2 _ _ _ h1
      subst e1
      have := sameNow_sound hk hv h1 hb
      refine ⟨by simp only [maxIdsP, keyBnd hk]; omega, .inr ⟨0, e.val, e, by simp [Instr.findNow, this], by simp, e2, q3, ?_⟩⟩
      simp only [List.modify_zero_cons]
      exact ⟨_, s, rfl, hv, hvv, h3⟩
    · rename_i hb
      have hsame := sameNow_sound hk hv h1 hb
      split at hf
      case h_2 => cases hf
      rename_i r' hr'
      cases hf
      obtain ⟨m1, m2⟩ := set_sound hk hv hvv (i + 1) h3 hr'
      refine ⟨by simp only [maxIdsP]; omega, ?_⟩
      rcases m2 with ⟨f1, f2⟩ | ⟨j, x, e', f1, f2, f3, f4, f5⟩
      · exact .inl ⟨by simp [Instr.findNow, hsame, f1], fun c => ⟨e, _, rfl, h1, h2, f2 c⟩⟩
      · refine .inr ⟨j + 1, x, e', by simp [Instr.findNow, hsame, f1]; omega, by simpa using f2, f3, f4, ?_⟩
        simp only [List.modify_succ_cons]
        exact ⟨e, _, rfl, h1, h2, f5⟩
    · cases hf

theorem note_zero (m : Mem) (b : Nat) : m.note b 0 = m := by
  unfold Mem.note
  have : Nat.ble 0 (b + 1) = true := Nat.ble_eq_true_of_le (Nat.zero_le _)
  rw [this]

/-- An object of the model's that is set anew. -/
theorem R.setObj (hR : R ι I m w) {b : Nat} {o0 o : MB} {ob : Obj} (hg : m.get b = some o0) (hl0 : o0.live = true) (j : Nat) (hb : mbMax o ≤ max (mbMax o0) j) (hj : j ≤ m.n) (hB : ∀ w' : World, w'.heap[(ι b).cb]? = some ob → BR ι I w' (ι b) o) :
    R ι I ((m.put b o).note b j) { w with heap := w.heap.setIfInBounds (ι b).cb ob } ∧ Ext ι I m w ι I ((m.put b o).note b j) { w with heap := w.heap.setIfInBounds (ι b).cb ob } := by
  have hlt := BR_lt hl0 (hR.blk b _ hg)
  refine R.turn hR hg hl0 o j (w' := { w with heap := w.heap.setIfInBounds (ι b).cb ob }) (by simp) (fun k hk hne => ?_) rfl rfl rfl (hB _ ?_) hb hj
  · simp only [Array.getElem?_setIfInBounds]
    rw [if_neg (fun e => hne e.symm)]
  · simp only [Array.getElem?_setIfInBounds]
    simp [hlt]

theorem oMapUpdate_sound (hT : TabOk T P) (hR : R ι I m w) {t : TypeId} {v k u : NV} {x kx ux : Value} {r : OpRes} (hv : V ι I v x) (hk : V ι I k kx) (hu' : V ι I u ux) (hub : maxId u ≤ m.n) (h : (oMapUpdate T t).f m v k u = some r) : SU P (Instr.mapUpdate t x kx ux) w ι I m r := by
  unfold oMapUpdate at h
  split at h
  case h_2 => cases h
  rename_i kt el hu
  have hu := hT.und _ _ hu
  split at h
  case h_2 => cases h
  rename_i kd hkd
  have hkd := hT.und _ _ hkd
  simp only at h
  split at h
  case h_2 => cases h
  rename_i b hkk
  split at h
  case h_2 => cases h
  rename_i es hg
  split at h
  case h_2 => cases h
  rename_i es' hs
  cases h
  simp only [V] at hv; subst hv
  obtain ⟨arr, c, h1, h2⟩ := hR.blk b _ hg
  obtain ⟨m1, m2⟩ := set_sound hkk hk hu' 0 h2 hs
  have hck := fun e => keyOk (P := P) hkd hkk hk e w
  have hrk := run_underlying (P := P) hkd w
  have hgo : (getObj (ι b).cb).run P w = .ok (.map arr c) w := by simp [getObj, Sem.run, h1]
  have hso : ∀ o, (setObj (ι b).cb o).run P w = .ok () { w with heap := w.heap.setIfInBounds (ι b).cb o } := fun o => by simp [setObj, Sem.run, h1]
  rcases m2 with ⟨f1, f2⟩ | ⟨j, y, e, f1, f2, f3, f4, f5⟩
  · have hf : (Instr.findKey kt kx arr.toList).run P w = .ok none w := by simp [Instr.findKey, hrk, f1]
    have := R.setObj hR hg rfl (maxId u) (o := .mobj es') (ob := .map (arr.push { key := kx, val := ux, born := c }) (c + 1)) m1 hub (fun w' hw' => ⟨_, _, hw', by simpa using f2 c⟩)
    refine ⟨rfl, _, ?_, this.1, this.2⟩
    simp [Instr.mapUpdate, run_underlying hu, hgo, hck, hf, hso]
  · simp only [Nat.zero_add] at f1
    have hf : (Instr.findKey kt kx arr.toList).run P w = .ok (some (j, y)) w := by simp [Instr.findKey, hrk, f1]
    have hj : j < arr.size := by
      rcases Nat.lt_or_ge j arr.toList.length with h | h
      · simpa using h
      · rw [List.getElem?_eq_none h] at f2; cases f2
    have := R.setObj hR hg rfl (maxId u) (o := .mobj es') (ob := .map (arr.modify j fun e => { e with key := kx, val := ux }) c) m1 hub (fun w' hw' => ⟨_, _, hw', by simpa using f5⟩)
    refine ⟨rfl, _, ?_, this.1, this.2⟩
    have hek : (arr[j]?.map (·.key)).getD kx = kx := by
      rw [← Array.getElem?_toList, f2]; exact f3
    have hkt : (Instr.keyThatStays kx kx).run P w = .ok kx w := by simp [Instr.keyThatStays, f4]
    simp [Instr.mapUpdate, run_underlying hu, hgo, hck, hf, hso, hek, hkt]

theorem oNext_sound (hR : R ι I m w) {ty : TypeId} {v : NV} {x : Value} {r : OpRes} (hv : V ι I v x) (h : oNext m v = some r) : SV P (Instr.next x true ty) w ι I m r := by
  unfold oNext at h
  split at h
  case h_2 => cases h
  rename_i b
  split at h
  case h_2 => cases h
  rename_i s pos hg
  simp only [V] at hv; subst hv
  obtain ⟨hco, hw⟩ := hR.blk b _ hg
  have hgo : (getObj (ι b).cb).run P w = .ok (.stringIter ⟨⟨s⟩⟩ pos) w := by simp [getObj, Sem.run, hw]
  have hso : ∀ o, (setObj (ι b).cb o).run P w = .ok () { w with heap := w.heap.setIfInBounds (ι b).cb o } := fun o => by simp [setObj, Sem.run, hw]
  have hsz : (⟨⟨s⟩⟩ : ByteArray).size = s.length := rfl
  split at h
  · rename_i hlt
    have hlt : pos < s.length := Nat.le_of_ble_eq_true hlt
    cases h
    have := R.setObj hR hg rfl 0 (o := .siter s (pos + (Utf8.decode ⟨⟨s⟩⟩ pos).2)) (ob := .stringIter ⟨⟨s⟩⟩ (pos + (Utf8.decode ⟨⟨s⟩⟩ pos).2)) (by simp [mbMax]) (by omega) (fun w' hw' => ⟨hco, hw'⟩)
    rw [note_zero] at this
    refine ⟨.tuple #[.bool true, goInt pos, .int .i32 (Utf8.decode ⟨⟨s⟩⟩ pos).1], _, ι, I, ?_, ?_, by simp [maxId, maxIds, mx_eq], this.1, this.2⟩
    · simp only [hco, Nat.add_zero]
      simp [Instr.next, hgo, hso, hsz, hlt]
    · simp only [V]
      exact ⟨_, rfl, VL_cons.2 ⟨by simp [V], VL_cons.2 ⟨by simp [V, goInt], VL_cons.2 ⟨by simp [V], by simp [VL]⟩⟩⟩⟩
  · rename_i hlt
    have hlt : ¬ pos < s.length := fun h' => by
      have : Nat.blt pos s.length = true := Nat.ble_eq_true_of_le h'
      rw [this] at hlt; cases hlt
    cases h
    refine SV.val_same hR (x := .tuple #[.bool false]) ?_ (by simp only [V]; exact ⟨_, rfl, VL_cons.2 ⟨by simp [V], by simp [VL]⟩⟩) (by simp [maxId, maxIds, mx_eq])
    simp only [hco, Nat.add_zero]
    simp [Instr.next, hgo, hsz, hlt]

theorem minF_sound : ∀ {l : List NV} {xs : List Value} {a r : Int}, VL ι I l xs → minF a l = some r → (xs.foldlM Builtin.min2 (Value.int .i64 a)).run P w = .ok (.int .i64 r) w
  | [], xs, a, r, h, hf => by
    simp only [VL] at h; subst h
    simp only [minF, Option.some.injEq] at hf; subst hf
    rfl
  | v :: l, xs, a, r, h, hf => by
    simp only [VL] at h
    obtain ⟨x, s, rfl, hv, h⟩ := h
    unfold minF at hf
    split at hf
    · rename_i e; cases e
    · rename_i y l' e
      cases e
      simp only [V] at hv; subst hv
      have := minF_sound h hf
      simp only [List.foldlM_cons, Sem.run_bind, Builtin.min2, Sem.run_pure, Result.andThen_ok]
      exact this
    · cases hf

theorem maxF_sound : ∀ {l : List NV} {xs : List Value} {a r : Int}, VL ι I l xs → maxF a l = some r → (xs.foldlM Builtin.max2 (Value.int .i64 a)).run P w = .ok (.int .i64 r) w
  | [], xs, a, r, h, hf => by
    simp only [VL] at h; subst h
    simp only [maxF, Option.some.injEq] at hf; subst hf
    rfl
  | v :: l, xs, a, r, h, hf => by
    simp only [VL] at h
    obtain ⟨x, s, rfl, hv, h⟩ := h
    unfold maxF at hf
    split at hf
    · rename_i e; cases e
    · rename_i y l' e
      cases e
      simp only [V] at hv; subst hv
      have := maxF_sound h hf
      simp only [List.foldlM_cons, Sem.run_bind, Builtin.max2, Sem.run_pure, Result.andThen_ok]
      exact this
    · cases hf

theorem oMin_sound (hR : R ι I m w) {ts : Array TypeId} {ty : TypeId} {l : List NV} {xs : Array Value} {r : OpRes} (hv : VL ι I l xs.toList) (h : oMin m l = some r) : SV P (Builtin.min_ ts ty xs) w ι I m r := by
  unfold oMin at h
  split at h
  case h_2 => cases h
  rename_i a l
  cases hf : minF a l with
  | none => simp [hf] at h
  | some q =>
    simp only [hf, Option.map_some, Option.some.injEq] at h; subst h
    simp only [VL] at hv
    obtain ⟨x, s, hx, hv1, hv2⟩ := hv
    simp only [V] at hv1; subst hv1
    refine SV.val_same hR (x := .int .i64 q) ?_ (by simp [V]) (by simp [maxId])
    unfold Builtin.min_
    rw [hx]
    exact minF_sound hv2 hf

theorem oMax_sound (hR : R ι I m w) {ts : Array TypeId} {ty : TypeId} {l : List NV} {xs : Array Value} {r : OpRes} (hv : VL ι I l xs.toList) (h : oMax m l = some r) : SV P (Builtin.max_ ts ty xs) w ι I m r := by
  unfold oMax at h
  split at h
  case h_2 => cases h
  rename_i a l
  cases hf : maxF a l with
  | none => simp [hf] at h
  | some q =>
    simp only [hf, Option.map_some, Option.some.injEq] at h; subst h
    simp only [VL] at hv
    obtain ⟨x, s, hx, hv1, hv2⟩ := hv
    simp only [V] at hv1; subst hv1
    refine SV.val_same hR (x := .int .i64 q) ?_ (by simp [V]) (by simp [maxId])
    unfold Builtin.max_
    rw [hx]
    exact maxF_sound hv2 hf

end Go.Kn

namespace Go.Kn

variable {T : Tab} {P : Program} {ι : Iota} {I : Imm} {m : Mem} {w : World}

/-- A deferred call stands for one of the model's. -/
def DR (ι : Iota) (I : Imm) (f : NV) (args : List NV) (d : Deferred) : Prop := ∃ g first cap cx, f = .fn (.func g) first cap ∧ d.target = .fn (.func g) cx ∧ VL ι I cap cx.toList ∧ VL ι I (first ++ args) d.args.toList

/-- What an operation's run comes to. -/
def SN (P : Program) (S : Sem Next) (w : World) (ι : Iota) (I : Imm) (m : Mem) : OpRes → Prop
  | .val v m' => ∃ n x w' ι' I', S.run P w = .ok n w' ∧ (n = .value x ∨ (n = .skip ∧ x = undef)) ∧ V ι' I' v x ∧ maxId v ≤ m'.n ∧ R ι' I' m' w' ∧ Ext ι I m w ι' I' m' w'
  | .pan v m' => ∃ x w', S.run P w = .halt (.panic x) w' ∧ V ι I v x ∧ maxId v ≤ m.n ∧ m' = m ∧ R ι I m w' ∧ Ext ι I m w ι I m w'
  | .defer f args m' => m' = m ∧ ∃ d, S.run P w = .ok (.defer d) w ∧ DR ι I f args d ∧ maxId f ≤ m.n ∧ maxIds args ≤ m.n
  | .recover m' => m' = m ∧ S.run P w = .ok .recover w

theorem SV.sn {S : Sem Value} {r : OpRes} (h : SV P S w ι I m r) : SN P (do pure (Next.value (← S))) w ι I m r := by
  cases r with
  | val v m' =>
    obtain ⟨x, w', ι', I', h1, h2, h3, h4, h5⟩ := h
    exact ⟨.value x, x, w', ι', I', by simp [h1], .inl rfl, h2, h3, h4, h5⟩
  | pan v m' =>
    obtain ⟨x, w', h1, h2, h3, h4, h5, h6⟩ := h
    exact ⟨x, w', by simp [h1], h2, h3, h4, h5, h6⟩
  | _ => exact h.elim

theorem SU.sn {S : Sem Unit} {r : OpRes} (h : SU P S w ι I m r) : SN P (do S; pure Next.skip) w ι I m r := by
  cases r with
  | val v m' =>
    obtain ⟨rfl, w', h1, h2, h3⟩ := h
    exact ⟨.skip, undef, w', ι, I, by simp [h1], .inr ⟨rfl, rfl⟩, by simp only [V, undef]; exact ⟨_, rfl, by simp [VL]⟩, by simp [maxId, maxIds], h2, h3⟩
  | _ => exact h.elim

theorem SN.congr {S S' : Sem Next} {r : OpRes} (h : S'.run P w = S.run P w) (hs : SN P S w ι I m r) : SN P S' w ι I m r := by
  cases r <;> simp only [SN, h] at hs ⊢ <;> exact hs

theorem o1_inv {x : Operand} {k : Mem → NV → Option OpRes} {e : Env} {r : OpRes} (h : o1 T x k e m = some r) : ∃ v, (rho T x).f e = some v ∧ k m v = some r := by
  unfold o1 at h; split at h
  · rename_i v hv; exact ⟨v, hv, h⟩
  · cases h
theorem o2_inv {x y : Operand} {k : Mem → NV → NV → Option OpRes} {e : Env} {r : OpRes} (h : o2 T x y k e m = some r) : ∃ v u, (rho T x).f e = some v ∧ (rho T y).f e = some u ∧ k m v u = some r := by
  unfold o2 at h; split at h
  · rename_i v hv; split at h
    · rename_i u hu; exact ⟨v, u, hv, hu, h⟩
    · cases h
  · cases h
theorem o3_inv {x y z : Operand} {k : Mem → NV → NV → NV → Option OpRes} {e : Env} {r : OpRes} (h : o3 T x y z k e m = some r) : ∃ v u q, (rho T x).f e = some v ∧ (rho T y).f e = some u ∧ (rho T z).f e = some q ∧ k m v u q = some r := by
  unfold o3 at h; split at h
  · rename_i v hv; split at h
    · rename_i u hu; split at h
      · rename_i q hq; exact ⟨v, u, q, hv, hu, hq, h⟩
      · cases h
    · cases h
  · cases h
theorem oP_inv {ps : List (Nat × Operand)} {k : Mem → List (Nat × NV) → Option OpRes} {e : Env} {r : OpRes} (h : oP T ps k e m = some r) : ∃ l, (rhoP T ps).f e = some l ∧ k m l = some r := by
  unfold oP at h; split at h
  · rename_i l hl; exact ⟨l, hl, h⟩
  · cases h
theorem oL_inv {xs : List Operand} {k : Mem → List NV → Option OpRes} {e : Env} {r : OpRes} (h : oL T xs k e m = some r) : ∃ l, (rhoL T xs).f e = some l ∧ k m l = some r := by
  unfold oL at h; split at h
  · rename_i l hl; exact ⟨l, hl, h⟩
  · cases h
theorem valOf_inv {v : Option NV} {r : OpRes} (h : valOf m v = some r) : ∃ u, v = some u ∧ r = .val u m := by
  unfold valOf at h; split at h
  · cases h; exact ⟨_, rfl, rfl⟩
  · cases h
theorem at1_inv {k : NV → Option OpRes} {l : List NV} {r : OpRes} (h : at1 k l = some r) : ∃ v, l = [v] ∧ k v = some r := by
  unfold at1 at h; split at h
  · exact ⟨_, rfl, h⟩
  · cases h
theorem at2_inv {k : NV → NV → Option OpRes} {l : List NV} {r : OpRes} (h : at2 k l = some r) : ∃ v u, l = [v, u] ∧ k v u = some r := by
  unfold at2 at h; split at h
  · exact ⟨_, _, rfl, h⟩
  · cases h

theorem VL_one {v : NV} {xs : Array Value} (h : VL ι I [v] xs.toList) : ∃ x, xs = #[x] ∧ V ι I v x := by
  simp only [VL] at h
  obtain ⟨x, s, hx, hv, rfl⟩ := h
  exact ⟨x, by apply Array.ext'; simpa using hx, hv⟩
theorem VL_two {v u : NV} {xs : Array Value} (h : VL ι I [v, u] xs.toList) : ∃ x y, xs = #[x, y] ∧ V ι I v x ∧ V ι I u y := by
  simp only [VL] at h
  obtain ⟨x, s, hx, hv, y, s', rfl, hu, rfl⟩ := h
  exact ⟨x, y, by apply Array.ext'; simpa using hx, hv, hu⟩

theorem builtinN_sound (hT : TabOk T P) (hR : R ι I m w) {b : Builtin} {ts : Array TypeId} {ty : TypeId} {cs : Array Bool} {l : List NV} {xs : Array Value} {r : OpRes} (hv : VL ι I l xs.toList) (hb : maxIds l ≤ m.n) (h : (builtinN T b ts.toList).f m l = some r) : SN P (builtin b ts ty cs xs) w ι I m r := by
  have hnth : ∀ {i : Nat} {t : TypeId}, nth ts.toList i = some t → ts[i]? = some t := fun {i t} h => by rw [nth_eq, Array.getElem?_toList] at h; exact h
  unfold builtinN at h
  split at h
  · split at h
    case h_2 => cases h
    rename_i t ht
    obtain ⟨v, rfl, hk⟩ := at1_inv h
    obtain ⟨x, rfl, hx⟩ := VL_one hv
    exact (oLen_sound hT hR (hnth ht) hx hk).sn
  · split at h
    case h_2 => cases h
    rename_i t u ht hu
    split at h
    case h_2 => cases h
    rename_i hl
    obtain ⟨v, u', rfl, hk⟩ := at2_inv h
    obtain ⟨x, y, rfl, hx, hy⟩ := VL_two hv
    exact (oAppend_sound hT hR (hnth ht) (hnth hu) hl hx hy (by simp only [maxIds, mx_eq] at hb; omega) hk).sn
  · split at h
    case h_2 => cases h
    rename_i t ht
    obtain ⟨v, u', rfl, hk⟩ := at2_inv h
    obtain ⟨x, y, rfl, hx, hy⟩ := VL_two hv
    exact (oCopy_sound hT hR (hnth ht) hx hy hk).sn
  · split at h
    case h_2 => cases h
    rename_i t ht
    obtain ⟨v, rfl, hk⟩ := at1_inv h
    obtain ⟨x, rfl, hx⟩ := VL_one hv
    exact (oClear_sound hT hR (hnth ht) hx hk).sn
  · exact (oMin_sound hR hv h).sn
  · exact (oMax_sound hR hv h).sn
  · simp only at h
    split at h
    · cases h
      exact ⟨rfl, rfl⟩
    · cases h
  · obtain ⟨v, rfl, hk⟩ := at1_inv h
    obtain ⟨x, rfl, hx⟩ := VL_one hv
    exact (oPanic_sound hR hx (by simpa [maxIds, mx_eq] using hb) hk).sn
  · cases h

theorem oNilCheck_sound (hR : R ι I m w) {a : Act} {o : Oper} {x : Operand} {v : NV} {r : OpRes} (ho : o.op = .nilCheck x) (hv : V ι I v (a.eval x)) (hb : maxId v ≤ m.n) (h : oNilCheck m v = some r) : SN P (execOp a.eval o) w ι I m r := by
  unfold execOp
  simp only [ho]
  have pan : ∀ {S : Sem Next}, S.run P w = .halt (.panic (.iface P.rt.errorString (strVal "invalid memory address or nil pointer dereference"))) w → SN P S w ι I m (.pan .rterr m) := fun h => ⟨_, w, h, by simp only [V]; exact ⟨_, _, rfl⟩, by simp [maxId], rfl, hR, Ext.refl _ _ _ _⟩
  have ok : ∀ {S : Sem Next}, S.run P w = .ok (.value (a.eval x)) w → SN P S w ι I m (.val v m) := fun h => ⟨_, _, w, ι, I, h, .inl rfl, hv, hb, hR, Ext.refl _ _ _ _⟩
  generalize hx : a.eval x = y at *
  unfold oNilCheck at h
  split at h
  · cases h; simp only [V] at hv; subst hv; exact ok rfl
  · cases h
    have hv' := hv
    simp only [V] at hv'; obtain ⟨_, _, _, rfl, _⟩ := hv'; exact ok rfl
  · cases h; simp only [V] at hv; subst hv; exact pan (by simp [runtimePanic, goPanic])
  · cases h; simp only [V] at hv; subst hv; exact pan (by simp [runtimePanic, goPanic])
  · cases h; simp only [V] at hv; subst hv; exact pan (by simp [runtimePanic, goPanic])
  · cases h
    have hv' := hv
    simp only [V] at hv'; obtain ⟨_, rfl, _⟩ := hv'; exact ok rfl
  · cases h
    have hv' := hv
    simp only [V] at hv'; obtain ⟨_, _, rfl, _⟩ := hv'; exact ok rfl
  · cases h

theorem opN_sound (hT : TabOk T P) (hG : GlobOk T I) (hR : R ι I m w) {e : Env} {a : Act} (hE : ER ι I m e a.tmps) {o : Oper} {r : OpRes} (h : (opN T o.op).f e m = some r) : SN P (execOp a.eval o) w ι I m r := by
  have rs := fun {x : Operand} {v : NV} (h : (rho T x).f e = some v) => rho_sound (a := a) hG hE h
  have rl := fun {xs : List Operand} {l : List NV} (h : (rhoL T xs).f e = some l) => rhoL_sound (a := a) hG hE h
  have ro := fun {x : Option Operand} {v : Option NV} (h : (rhoO T x).f e = some v) => rhoO_sound (a := a) hG hE h
  have rp := fun {xs : List (Nat × Operand)} {l : List (Nat × NV)} (h : (rhoP T xs).f e = some l) => rhoP_sound (a := a) hG hE h
  have mv : ∀ {x : Operand}, o1 T x oMove e m = some r → SN P (pure (.value (a.eval x))) w ι I m r := fun {x} h => by
    obtain ⟨v, hv, hk⟩ := o1_inv h
    cases hk
    exact ⟨_, _, w, ι, I, rfl, .inl rfl, (rs hv).1, (rs hv).2, hR, Ext.refl _ _ _ _⟩
  unfold opN at h
  split at h
  all_goals try dsimp only at h
  · rename_i x ho; unfold execOp; simp only [ho]; exact mv h
  · rename_i x ho; unfold execOp; simp only [ho]; exact mv h
  · rename_i c x y ho
    unfold execOp; simp only [ho]
    obtain ⟨cv, hc, hk⟩ := o1_inv h
    obtain ⟨u, hu, rfl⟩ := valOf_inv hk
    unfold oPick at hu
    split at hu
    · have h1 := (rs hc).1
      simp only [V] at h1
      have := rs hu
      refine ⟨.value (a.eval x), _, w, ι, I, ?_, .inl rfl, this.1, this.2, hR, Ext.refl _ _ _ _⟩
      simp [h1, asBool]
    · have h1 := (rs hc).1
      simp only [V] at h1
      have := rs hu
      refine ⟨.value (a.eval y), _, w, ι, I, ?_, .inl rfl, this.1, this.2, hR, Ext.refl _ _ _ _⟩
      simp [h1, asBool]
    · cases hu
  · rename_i t ho; unfold execOp; simp only [ho]; exact (oAlloc_sound hT hR h).sn
  · rename_i t x ho; unfold execOp; simp only [ho]
    obtain ⟨v, hv, hk⟩ := o1_inv h
    exact (oBox_sound hR (rs hv).1 (rs hv).2 hk).sn
  · rename_i t ps ho; unfold execOp; simp only [ho]
    obtain ⟨l, hl, hk⟩ := oP_inv h
    obtain ⟨u, hu, rfl⟩ := valOf_inv hk
    exact (oBuild_sound hT hR (by simpa using (rp hl).1) (rp hl).2 hu).sn
  · rename_i t n ps ho; unfold execOp; simp only [ho]
    obtain ⟨l, hl, hk⟩ := oP_inv h
    exact (oBuildSlice_sound hT hR (by simpa using (rp hl).1) (rp hl).2 hk).sn
  · rename_i t x ho; unfold execOp; simp only [ho]
    obtain ⟨v, hv, hk⟩ := o1_inv h
    obtain ⟨u, hu, rfl⟩ := valOf_inv hk
    exact (loadN_sound hT hR (rs hv).1 hu).sn
  · rename_i t x y ho; unfold execOp; simp only [ho]
    obtain ⟨v, u, hv, hu, hk⟩ := o2_inv h
    exact (oStore_sound hT hR (rs hv).1 (rs hu).1 (rs hu).2 hk).sn
  · rename_i x ho
    obtain ⟨v, hv, hk⟩ := o1_inv h
    exact oNilCheck_sound hR ho (rs hv).1 (rs hv).2 hk
  · rename_i op t x y ck ho; unfold execOp; simp only [ho]
    obtain ⟨v, u, hv, hu, hk⟩ := o2_inv h
    exact (ScalOk.sv hR (fun s hs => binN_sound hT (rs hv).1 (rs hu).1 hs) hk).sn
  · rename_i op t x ho; unfold execOp; simp only [ho]
    obtain ⟨v, hv, hk⟩ := o1_inv h
    exact (ScalOk.sv hR (fun s hs => unN_sound (rs hv).1 hs) hk).sn
  · rename_i s d x ho; unfold execOp; simp only [ho]
    obtain ⟨v, hv, hk⟩ := o1_inv h
    exact (oConvert_sound hT hR (rs hv).1 (rs hv).2 hk).sn
  · rename_i t x ho; unfold execOp; simp only [ho]
    obtain ⟨v, hv, hk⟩ := o1_inv h
    exact (oMakeInterface_sound hT hR (rs hv).1 (rs hv).2 hk).sn
  · rename_i f x y ho; unfold execOp; simp only [ho]
    unfold oMakeFunc at h
    split at h
    case h_2 => cases h
    simp only at h
    split at h
    case h_2 => cases h
    rename_i l1 hl1
    split at h
    case h_2 => cases h
    rename_i l2 hl2
    cases h
    exact (oMakeFunc_sound hR (by simpa using (rl hl1).1) (by simpa using (rl hl2).1) (rl hl1).2 (rl hl2).2).sn
  · rename_i t ho; unfold execOp; simp only [ho]
    cases h
    exact (oMakeMap_sound hR t).sn
  · rename_i t x y ho; unfold execOp; simp only [ho]
    obtain ⟨v, u, hv, hu, hk⟩ := o2_inv h
    exact (oMakeSlice_sound hT hR (rs hv).1 (rs hu).1 hk).sn
  · rename_i t x lo hi mx ho; unfold execOp; simp only [ho]
    unfold oSliceO at h
    try dsimp only at h
    split at h
    · rename_i v l u hv hl hu hm
      have := ro hm
      simp only [VO] at this
      rw [this]
      exact (oSlice_sound hT hR (rs hv).1 (rs hv).2 (ro hl) (ro hu) h).sn
    · rename_i v l u q hv hl hu hm
      have := ro hm
      simp only [VO] at this
      obtain ⟨mx', hmx, hmv⟩ := this
      rw [hmx]
      exact (oSlice3_sound hT hR (rs hv).1 (ro hl) (ro hu) hmv h).sn
    · cases h
  · rename_i s x f ho; unfold execOp; simp only [ho]
    obtain ⟨v, hv, hk⟩ := o1_inv h
    obtain ⟨u, hu, rfl⟩ := valOf_inv hk
    exact (oFieldAddr_sound hT hR (rs hv).1 (rs hv).2 hu).sn
  · rename_i s x f ho; unfold execOp; simp only [ho]
    obtain ⟨v, hv, hk⟩ := o1_inv h
    obtain ⟨u, hu, rfl⟩ := valOf_inv hk
    exact (oField_sound hT hR (rs hv).1 (rs hv).2 hu).sn
  · rename_i t x i ho; unfold execOp; simp only [ho]
    obtain ⟨v, u, hv, hu, hk⟩ := o2_inv h
    exact (oIndexAddr_sound hT hR (rs hv).1 (rs hu).1 (rs hv).2 hk).sn
  · rename_i t x i ho; unfold execOp; simp only [ho]
    obtain ⟨v, u, hv, hu, hk⟩ := o2_inv h
    exact (oIndex_sound hT hR (rs hv).1 (rs hu).1 (rs hv).2 hk).sn
  · rename_i t x i ok ho; unfold execOp; simp only [ho]
    obtain ⟨v, u, hv, hu, hk⟩ := o2_inv h
    exact (oLookup_sound hT hR (rs hv).1 (rs hu).1 hk).sn
  · rename_i t x k y ho; unfold execOp; simp only [ho]
    obtain ⟨v, u, q, hv, hu, hq, hk⟩ := o3_inv h
    exact (oMapUpdate_sound hT hR (rs hv).1 (rs hu).1 (rs hq).1 (rs hq).2 hk).sn
  · rename_i t x k y ho; unfold execOp; simp only [ho]
    obtain ⟨v, u, q, hv, hu, hq, hk⟩ := o3_inv h
    exact (oMapUpdate_sound hT hR (rs hv).1 (rs hu).1 (rs hq).1 (rs hq).2 hk).sn
  · rename_i x xt t ok ho; unfold execOp; simp only [ho]
    obtain ⟨v, hv, hk⟩ := o1_inv h
    exact (oTypeAssert_sound hT hR (rs hv).1 (rs hv).2 hk).sn
  · rename_i x i ho; unfold execOp; simp only [ho]
    obtain ⟨v, hv, hk⟩ := o1_inv h
    obtain ⟨u, hu, rfl⟩ := valOf_inv hk
    exact (oExtract_sound hR (rs hv).1 (rs hv).2 hu).sn
  · rename_i x ho; unfold execOp; simp only [ho]
    obtain ⟨v, hv, hk⟩ := o1_inv h
    exact (oPanic_sound hR (rs hv).1 (rs hv).2 hk).sn
  · rename_i t x ho; unfold execOp; simp only [ho]
    obtain ⟨v, hv, hk⟩ := o1_inv h
    exact (oRange_sound hT hR (rs hv).1 hk).sn
  · rename_i x ho; unfold execOp; simp only [ho]
    obtain ⟨v, hv, hk⟩ := o1_inv h
    exact (oNext_sound hR (rs hv).1 hk).sn
  · rename_i c ho; unfold execOp; simp only [ho]
    unfold oDefer at h
    split at h
    case h_2 => cases h
    rename_i f hc
    simp only at h
    split at h
    case h_2 => cases h
    rename_i g first cap hf
    split at h
    case h_2 => cases h
    rename_i l hl
    cases h
    have h1 := rs hf
    have h2 := rl hl
    obtain ⟨h3, h4⟩ := h1
    simp only [V, fnI] at h3
    obtain ⟨ax, cx, hfx, ha, hcx⟩ := h3
    refine ⟨rfl, { target := .fn (.func g) cx, args := ax ++ c.args.map a.eval }, ?_, ⟨g, first, cap, cx, rfl, rfl, hcx, ?_⟩, h4, h2.2⟩
    · simp [resolve, hc, hfx, Deferred.ofValue]
    · simp only [Array.toList_append, Array.toList_map]
      exact VL_append ha h2.1
  · rename_i c ho
    split at h
    case h_2 => cases h
    rename_i b hc
    obtain ⟨l, hl, hk⟩ := oL_inv h
    unfold execOp; simp only [ho]
    have := builtinN_sound (ty := o.type) (cs := c.args.map fun | .const _ => true | _ => false) hT hR (xs := c.args.map a.eval) (by simpa using (rl hl).1) (rl hl).2 hk
    refine SN.congr ?_ this
    simp only [resolve, hc, Sem.run_bind, Sem.run_pure, Result.andThen_ok, invoke]
    rfl
  · cases h

end Go.Kn

namespace Go.Kn

variable {T : Tab} {P : Program} {ι : Iota} {I : Imm} {m : Mem} {w : World}

theorem sub_testBit {L j t : Nat} (hj : L.testBit j = true) (h : (L - 2 ^ j).testBit t = true) : L.testBit t = true := by
  have hL : L = 2 ^ (j + 1) * (L / 2 ^ (j + 1)) + (2 ^ j + L % 2 ^ j) := by
    have h1 := Nat.div_add_mod L (2 ^ (j + 1))
    have h2 : L % 2 ^ (j + 1) = 2 ^ j + L % 2 ^ j := by
      have h3 := Nat.mod_pow_succ (x := L) (b := 2) (k := j)
      have h4 : L / 2 ^ j % 2 = 1 := by
        have := Nat.testBit_eq_decide_div_mod_eq (x := L) (i := j)
        rw [hj] at this
        simpa using this.symm
      rw [h3, h4]
      omega
    omega
  have hr : L % 2 ^ j < 2 ^ j := Nat.mod_lt _ (Nat.two_pow_pos j)
  generalize hq : L / 2 ^ (j + 1) = q at hL
  generalize hr' : L % 2 ^ j = r at hL hr
  have hs : L - 2 ^ j = 2 ^ (j + 1) * q + r := by omega
  have hp : 2 ^ (j + 1) = 2 * 2 ^ j := by rw [Nat.pow_succ, Nat.mul_comm]
  rw [hs, Nat.testBit_two_pow_mul_add q (by omega)] at h
  rw [hL, Nat.testBit_two_pow_mul_add q (by omega)]
  split
  · rename_i hlt
    rw [if_pos hlt] at h
    rcases Nat.lt_or_ge t j with h1 | h1
    · rw [Nat.testBit_two_pow_add_gt h1]; exact h
    · have : t = j := by omega
      subst this
      rw [Nat.testBit_lt_two_pow hr] at h; cases h
  · rename_i hlt
    rw [if_neg hlt] at h
    exact h

theorem cleanE_sound : ∀ {e : Env} {L t : Nat} {v : NV}, lookupE (cleanE e L) t = some v → L.testBit t = true ∧ lookupE e t = some v
  | [], L, t, v, h => by simp [cleanE, lookupE] at h
  | (k, u) :: e, L, t, v, h => by
    simp only [cleanE] at h
    split at h
    · rename_i hk
      simp only [lookupE] at h ⊢
      split at h
      · rename_i hkt
        have := Nat.eq_of_beq_eq_true hkt
        subst this
        exact ⟨hk, h⟩
      · obtain ⟨h1, h2⟩ := cleanE_sound h
        exact ⟨sub_testBit hk h1, h2⟩
    · rename_i hk
      obtain ⟨h1, h2⟩ := cleanE_sound h
      have hne : Nat.beq k t = false := by
        cases hb : Nat.beq k t with
        | false => rfl
        | true => have := Nat.eq_of_beq_eq_true hb; subst this; rw [h1] at hk; cases hk
      simp only [lookupE, hne]
      exact ⟨h1, h2⟩

theorem maxIdE_clean : ∀ {e : Env} {L : Nat}, maxIdE (cleanE e L) ≤ maxIdE e
  | [], L => by simp [cleanE]
  | (k, u) :: e, L => by
    simp only [cleanE]
    split
    · have := maxIdE_clean (e := e) (L := L - 2 ^ k); simp only [maxIdE]; omega
    · have := maxIdE_clean (e := e) (L := L); simp only [maxIdE]; omega

theorem ER.clean {e : Env} {tmps : Array Value} (h : ER ι I m e tmps) (L : Nat) : ER ι I m (cleanE e L) tmps :=
  ⟨fun t v hv => h.rel t v (cleanE_sound hv).2, Nat.le_trans maxIdE_clean h.bnd⟩

theorem ER.put {e : Env} {a : Act} (h : ER ι I m e a.tmps) {d : Option Nat} {v : NV} {x : Value} (hd : ∀ k, d = some k → k < a.tmps.size) (hv : V ι I v x) (hb : maxId v ≤ m.n) : ER ι I m (putE e d v) (a.put d x).tmps := by
  cases d with
  | none => exact h
  | some d =>
    have hlt := hd d rfl
    refine ⟨fun t u hu => ?_, by simp only [putE, maxIdE]; have := h.bnd; omega⟩
    simp only [putE, lookupE] at hu
    simp only [Act.put, Array.getElem?_setIfInBounds]
    split at hu
    · rename_i hb'
      have := Nat.eq_of_beq_eq_true hb'
      subst this
      cases hu
      exact ⟨x, by simp [hlt], hv⟩
    · rename_i hb'
      have hne : d ≠ t := fun e => by subst e; simp at hb'
      rw [if_neg hne]
      exact h.rel t u hu

theorem put_size (a : Act) (d : Option Nat) (x : Value) : (a.put d x).tmps.size = a.tmps.size := by cases d <;> simp [Act.put]

/-- A fence that lets everything in. -/
structure WF (F : Fence) : Prop where
  fn : ∀ f, F.fn f
  depth : F.depth = none
  alive : F.alive = false

theorem WF.fenced {F : Fence} (h : WF F) (P : Program) (m : Machine) : Machine.fenced P F m := by
  intro g _
  refine ⟨fun e => ?_, .inl (h.fn _), fun _ _ => h.fn _, fun _ e => ?_⟩
  · rw [h.alive] at e; cases e
  · rw [h.depth] at e; cases e

theorem WF.comes {F : Fence} (h : WF F) {P : Program} {m m' : Machine} {e : Ending} (hc : Comes P m m' e) : ComesIn (Machine.fenced P F) P m m' e := by
  cases e with
  | returned v => exact (StepsIn.of_steps hc).mono fun m _ => h.fenced P m
  | panicked chain => exact (StepsIn.of_steps hc).mono fun m _ => h.fenced P m
  | outgrown => exact hc

theorem WF.callsIn {F : Fence} (h : WF F) {n : Nat} {P : Program} {f : FuncId} {args : Array Value} {w : World} {R : Ending → World → Prop} (hc : Calls P f args w R) : CallsIn F n P f args w R :=
  ⟨h.fn f, fun cs _ => let ⟨e, w', fr, r, s, x⟩ := hc cs; ⟨e, w', fr, r, h.comes s, x⟩⟩

theorem WF.room {F : Fence} (h : WF F) (n : Nat) : F.room n := fun _ e => by rw [h.depth] at e; cases e

/-- How a call ends. -/
def CR (ι : Iota) (I : Imm) (m : Mem) (w : World) : CallRes → Ending → World → Prop
  | .ret v m', .returned x, w' => ∃ ι' I', V ι' I' v x ∧ maxId v ≤ m'.n ∧ R ι' I' m' w' ∧ Ext ι I m w ι' I' m' w'
  | .pan v m', .panicked chain, w' => ∃ x ι' I', chain = [{ v := x, recovered := false }] ∧ V ι' I' v x ∧ maxId v ≤ m'.n ∧ R ι' I' m' w' ∧ Ext ι I m w ι' I' m' w'
  | _, _, _ => False

/-- A function's call does what is asked. -/
def FnOk (P : Program) (f : FuncId) (xs : Array Value) (w : World) (Q : Ending → World → Prop) : Prop :=
  ((callFunc f xs).run P w = .ok (.enter f xs) w ∧ Calls P f xs w Q) ∨ ∃ x w', (callFunc f xs).run P w = .ok (.value x) w' ∧ Q (.returned x) w'

def CallOk (T : Tab) (P : Program) (C : Caller) : Prop := ∀ f args m r, callFn T C f args m = some r → ∀ ι I w (xs : Array Value), GlobOk T I → R ι I m w → VL ι I args xs.toList → maxIds args ≤ m.n → FnOk P f xs w (CR ι I m w r)

/-- The same of the functions that have a text. -/
def EnterOk (T : Tab) (P : Program) (C : Caller) : Prop := ∀ f args m r, C f args m = some r → ∀ ι I w (xs : Array Value), GlobOk T I → R ι I m w → VL ι I args xs.toList → maxIds args ≤ m.n → (callFunc f xs).run P w = .ok (.enter f xs) w ∧ Calls P f xs w (CR ι I m w r)

def YieldOk (T : Tab) (P : Program) (Y : Yielder) : Prop := ∀ l args m r, Y l args m = some r → ∀ ι I w (xs : Array Value) (F : Fence) (n : Nat), WF F → GlobOk T I → R ι I m w → l < m.n → VL ι I args xs.toList → maxIds args ≤ m.n →
  ∃ f tmps as bd, (Instr.yield (ι l).cb xs).run P w = .ok (.round (ι l).cb f tmps as bd) w ∧ RoundIn F n P (ι l).cb f tmps as bd w (CR ι I m w r)

/-- What is asked of the walk behind an operation. -/
structure After (P : Program) (F : Fence) (o : Oper) (a : Act) (w : World) (ι : Iota) (I : Imm) (m : Mem) (r : OpRes) (K : Act → World → Prop) (Q : Exit → Act → World → Prop) : Prop where
  val : ∀ v m', r = .val v m' → ∀ x w' ι' I', V ι' I' v x → maxId v ≤ m'.n → R ι' I' m' w' → Ext ι I m w ι' I' m' w' → K (a.put o.dst x) w'
  pan : ∀ v m', r = .pan v m' → ∀ x w' ι' I', V ι' I' v x → maxId v ≤ m'.n → R ι' I' m' w' → Ext ι I m w ι' I' m' w' → Q (.panic [{ v := x, recovered := false }]) a w'
  defer : ∀ f args m', r = .defer f args m' → m' = m → ∀ d, DR ι I f args d → maxId f ≤ m.n → maxIds args ≤ m.n → K ({ a with defers := d :: a.defers }.put o.dst undef) w
  noRec : ∀ m', r ≠ .recover m'

/-- An operation that calls no function, walked. -/
theorem op_wpIn {F : Fence} (hF : WF F) {n : Nat} {o : Oper} {a : Act} {r : OpRes} {K : Act → World → Prop} {Q : Exit → Act → World → Prop} (hro : F.round = none ∨ ∀ c, o.op ≠ .defer c) (h : SN P (execOp a.eval o) w ι I m r) (hA : After P F o a w ι I m r K Q) : o.wpIn F n P a w K Q := by
  refine ⟨fun f _ => hF.fn f, ?_⟩
  have hsem : Oper.semAt F.round a.eval o = execOp a.eval o := by
    rcases hro with h | h
    · rw [h]; rfl
    · exact Oper.semAt_eq _ _ _ h
  rw [hsem]
  cases r with
  | val v m' =>
    obtain ⟨nx, x, w', ι', I', h1, h2, h3, h4, h5, h6⟩ := h
    rw [h1]
    have := hA.val v m' rfl x w' ι' I' h3 h4 h5 h6
    rcases h2 with rfl | ⟨rfl, rfl⟩
    · exact this
    · exact this
  | pan v m' =>
    obtain ⟨x, w', h1, h2, h3, rfl, h5, h6⟩ := h
    rw [h1]
    exact hA.pan v _ rfl x w' ι I h2 h3 h5 h6
  | defer f args m' =>
    obtain ⟨rfl, d, h1, h2, h3, h4⟩ := h
    rw [h1]
    exact hA.defer f args _ rfl rfl d h2 h3 h4
  | recover m' => exact absurd rfl (hA.noRec m')

theorem fnOk_wpIn {F : Fence} (hF : WF F) {n : Nat} {o : Oper} {a : Act} {f : FuncId} {xs : Array Value} {r : CallRes} {K : Act → World → Prop} {Q : Exit → Act → World → Prop} {S : Sem Next} (hS : S.run P w = (callFunc f xs).run P w) (hok : FnOk P f xs w (CR ι I m w r))
    (hA : ∀ res, resOf (some r) = some res → After P F o a w ι I m res K Q) : o.uponIn F n P a K Q (S.run P w) := by
  rw [hS]
  rcases hok with ⟨h1, h2⟩ | ⟨x, w', h1, h2⟩
  · rw [h1]
    refine ⟨fun e => (by rw [hF.depth] at e; cases e), ?_⟩
    refine hF.callsIn (h2.mono fun e w' he => ?_)
    cases r with
    | ret v m' =>
      cases e with
      | returned x =>
        obtain ⟨ι', I', q1, q2, q3, q4⟩ := he
        exact (hA _ rfl).val v m' rfl x w' ι' I' q1 q2 q3 q4
      | panicked c => exact he.elim
      | outgrown => exact he.elim
    | pan v m' =>
      cases e with
      | returned x => exact he.elim
      | panicked c =>
        obtain ⟨x, ι', I', rfl, q1, q2, q3, q4⟩ := he
        exact (hA _ rfl).pan v m' rfl x w' ι' I' q1 q2 q3 q4
      | outgrown => exact he.elim
  · rw [h1]
    cases r with
    | ret v m' =>
      obtain ⟨ι', I', q1, q2, q3, q4⟩ := h2
      exact (hA _ rfl).val v m' rfl x w' ι' I' q1 q2 q3 q4
    | pan v m' => exact h2.elim

end Go.Kn

namespace Go.Kn

variable {T : Tab} {P : Program} {ι : Iota} {I : Imm} {m : Mem} {w : World}

theorem method_run (hT : TabOk T P) {t : TypeId} {name : String} {f : FuncId} {p : Bool} {d : TypeDesc} (hm : T.meth t name = some (f, p)) (hd : T.und t = some d) (hp : (p == isPtrD d) = true) (v : Value) (k : Nat) (w : World) :
    (method (k + 1) t v name).run P w = .ok (f, v) w := by
  obtain ⟨i, mm, h1, h2, h3, h4⟩ := hT.meth t name f p hm
  have hu := run_underlying (P := P) (hT.und _ _ hd) w
  have hti : (typeInfo t).run P w = .ok i w := run_typeInfo w h1
  have hr : ∀ wr, (receiverAt t (.val v) p wr).run P w = .ok v w := by
    intro wr
    unfold receiverAt
    simp only [Sem.run_bind, hu, Result.andThen_ok]
    cases p <;> cases d <;> first | (simp [isPtrD] at hp; done) | (simp [Place.get]; done)
  unfold method
  simp only [Sem.run_bind, hti, Result.andThen_ok, h2, h3, follow, h4, Sem.run_pure]
  simp [hr]

theorem resOf_inv {r : Option CallRes} {res : OpRes} (h : resOf r = some res) : ∃ cr, r = some cr ∧ resOf (some cr) = some res := by
  cases r with
  | none => cases h
  | some cr => exact ⟨cr, rfl, h⟩

theorem call_wpIn (hT : TabOk T P) (hG : GlobOk T I) (hR : R ι I m w) {e : Env} {a : Act} (hE : ER ι I m e a.tmps) {X : Ctx} (hC : CallOk T P X.C) (hY : YieldOk T P X.Y) {F : Fence} (hF : WF F) {n : Nat} {o : Oper} {c : Call} (ho : o.op = .call c) {r : OpRes}
    (h : (callB T c).f X e m = some r) {K : Act → World → Prop} {Q : Exit → Act → World → Prop} (hA : After P F o a w ι I m r K Q) : o.wpIn F n P a w K Q := by
  refine ⟨fun f _ => hF.fn f, ?_⟩
  rw [Oper.semAt_eq _ _ _ (fun c' hc' => by rw [ho] at hc'; cases hc')]
  unfold execOp
  simp only [ho]
  unfold callB at h
  split at h
  · rename_i f hcal
    dsimp only at h
    split at h
    case h_2 => cases h
    rename_i args fv hargs hfv
    obtain ⟨cr, hcr, hres⟩ := resOf_inv h
    have ha := rhoL_sound (a := a) hG hE hargs
    have hf := rho_sound (a := a) hG hE hfv
    have hA' : ∀ res, resOf (some cr) = some res → After P F o a w ι I m res K Q := fun res hr => by rw [hres] at hr; cases hr; exact hA
    unfold callV at hcr
    split at hcr
    · rename_i g first cap
      obtain ⟨h3, h4⟩ := hf
      simp only [V, fnI] at h3
      obtain ⟨ax, cx, hfx, hax, hcx⟩ := h3
      simp only [maxId, mx_eq] at h4
      refine fnOk_wpIn (P := P) (xs := ax ++ c.args.map a.eval ++ cx) hF ?_ (hC g _ m cr hcr ι I w _ hG hR ?_ ?_) hA'
      · simp [resolve, hcal, hfx, Deferred.ofValue, invoke]
      · simp only [Array.toList_append, Array.toList_map]
        exact VL_append (VL_append hax ha.1) hcx
      · rw [maxIds_append, maxIds_append]; omega
    · rename_i l
      obtain ⟨h3, h4⟩ := hf
      simp only [V, fnI] at h3
      obtain ⟨ax, cx, hfx, hax, hcx⟩ := h3
      simp only [VL] at hax hcx
      have hax' : ax = #[] := by apply Array.ext'; simpa using hax
      subst hax'
      simp only [maxId, mx_eq] at h4
      obtain ⟨f', tmps, as, bd, y1, y2⟩ := hY l args m cr hcr ι I w (c.args.map a.eval) F (n - 1) hF hG hR (by omega) (by simpa using ha.1) ha.2
      have hrun : ((do let d ← resolve a.eval c o.type; invoke d.target d.args) : Sem Next).run P w = .ok (.round (ι l).cb f' tmps as bd) w := by
        simp [resolve, hcal, hfx, Deferred.ofValue, invoke, y1]
      rw [hrun]
      refine ⟨fun e => (by rw [hF.depth] at e; cases e), y2.mono fun en w' he => ?_⟩
      cases cr with
      | ret v m' =>
        cases en with
        | returned x =>
          obtain ⟨ι', I', q1, q2, q3, q4⟩ := he
          exact (hA' _ rfl).val v m' rfl x w' ι' I' q1 q2 q3 q4
        | panicked ch => exact he.elim
        | outgrown => exact he.elim
      | pan v m' =>
        cases en with
        | returned x => exact he.elim
        | panicked ch =>
          obtain ⟨x, ι', I', rfl, q1, q2, q3, q4⟩ := he
          exact (hA' _ rfl).pan v m' rfl x w' ι' I' q1 q2 q3 q4
        | outgrown => exact he.elim
    · cases hcr
      cases hres
      have h3 := hf.1
      simp only [V] at h3
      have hrun : ((do let d ← resolve a.eval c o.type; invoke d.target d.args) : Sem Next).run P w = .halt (.panic (.iface P.rt.errorString (strVal "invalid memory address or nil pointer dereference"))) w := by
        simp [resolve, hcal, h3, Deferred.ofValue, invoke, runtimePanic, goPanic]
      rw [hrun]
      exact hA.pan _ _ rfl _ w ι I (by simp only [V]; exact ⟨_, _, rfl⟩) (by simp [maxId]) hR (Ext.refl _ _ _ _)
    · cases hcr
  · rename_i rc name hcal
    dsimp only at h
    split at h
    case h_2 => cases h
    rename_i args rv hargs hrv
    obtain ⟨cr, hcr, hres⟩ := resOf_inv h
    have ha := rhoL_sound (a := a) hG hE hargs
    have hf := rho_sound (a := a) hG hE hrv
    have hA' : ∀ res, resOf (some cr) = some res → After P F o a w ι I m res K Q := fun res hr => by rw [hres] at hr; cases hr; exact hA
    unfold callI at hcr
    split at hcr
    case h_2 => cases hcr
    rename_i t v
    split at hcr
    case h_2 => cases hcr
    rename_i g p d hm hd
    split at hcr
    case h_2 => cases hcr
    rename_i hp
    obtain ⟨h3, h4⟩ := hf
    simp only [V] at h3
    obtain ⟨y, hfx, hvy⟩ := h3
    simp only [maxId] at h4
    refine fnOk_wpIn (P := P) (xs := #[y] ++ c.args.map a.eval) hF ?_ (hC g _ m cr hcr ι I w _ hG hR ?_ ?_) hA'
    · have hmr := method_run hT hm hd hp y (P.types.size + 99) w
      have e1 : (#[a.eval rc] ++ c.args.map a.eval).extract 1 (#[a.eval rc] ++ c.args.map a.eval).size = c.args.map a.eval := by
        apply Array.ext'
        simp [Array.toList_extract, List.extract_eq_take_drop]
        exact List.take_of_length_le (by simp)
      have e0 : (#[a.eval rc] ++ c.args.map a.eval)[0]? = some (a.eval rc) := by rw [Array.getElem?_append_left (by simp)]; rfl
      have hcm : (callMethod (a.eval rc) name (c.args.map a.eval)).run P w = (callFunc g (#[y] ++ c.args.map a.eval)).run P w := by
        unfold callMethod
        rw [hfx]
        simp only [Sem.run_bind, run_program, Result.andThen_ok]
        have : P.types.size + Made.depth = P.types.size + 99 + 1 := rfl
        rw [this, hmr]
        rfl
      unfold resolve
      rw [hcal]
      simp only [Sem.run_bind, Sem.run_pure, Result.andThen_ok]
      unfold invoke
      simp only [e0, e1]
      exact hcm
    · simp only [Array.toList_append]
      exact VL_cons.2 ⟨hvy, by simpa using ha.1⟩
    · simp only [maxIds, mx_eq]; omega
  · cases h

end Go.Kn

namespace Go.Kn

variable {T : Tab} {P : Program} {ι ι' : Iota} {I I' : Imm} {m m' : Mem} {w w' : World}

/-- A block of the model's that no block of the evaluator stands for: the mark of a range over a function. -/
structure Hid (base : Option Nat) (ι : Iota) (m : Mem) (w : World) (k : Nat) : Prop where
  ge : ∃ b, base = some b ∧ b ≤ k
  lt : k < w.heap.size
  open_ : w.heap[k]? = some (.deferred (some []))
  free : ∀ b o, m.get b = some o → o.live = true → (ι b).cb ≠ k

theorem Hid.ext {base : Option Nat} {k : Nat} (h : Hid base ι m w k) (x : Ext ι I m w ι' I' m' w') : Hid base ι' m' w' k :=
  ⟨h.ge, Nat.lt_of_lt_of_le h.lt x.size, (x.frame k h.lt h.free).trans h.open_, fun b o hb hl e => by
    rcases x.foot b o hb hl with h1 | ⟨b0, o0, h1, h2, h3⟩
    · have := h.lt; omega
    · exact h.free b0 o0 h1 h2 (h3.trans e)⟩

/-- Deferred calls, with marks between them. -/
def DL (ι : Iota) (I : Imm) (mk : Nat → Prop) : List (NV × List NV) → List Deferred → Prop
  | ds, [] => ds = []
  | ds, d :: r => (∃ k, d.target = .collected k ∧ mk k ∧ DL ι I mk ds r) ∨ (∃ f args ds', ds = (f, args) :: ds' ∧ DR ι I f args d ∧ DL ι I mk ds' r)

def dsMax : List (NV × List NV) → Nat
  | [] => 0
  | (f, args) :: l => max (max (maxId f) (maxIds args)) (dsMax l)

theorem maxIds_fn {g : FuncId} {first cap : List NV} : maxId (.fn (.func g) first cap) = max (maxIds first) (maxIds cap) := by simp only [maxId, mx_eq]

theorem DR.ext {f : NV} {args : List NV} {d : Deferred} (h : DR ι I f args d) (x : Ext ι I m w ι' I' m' w') (h1 : maxId f ≤ m.n) (h2 : maxIds args ≤ m.n) : DR ι' I' f args d := by
  obtain ⟨g, first, cap, cx, rfl, q1, q2, q3⟩ := h
  rw [maxIds_fn] at h1
  exact ⟨g, first, cap, cx, rfl, q1, x.VL (by omega) q2, x.VL (by rw [maxIds_append]; omega) q3⟩

theorem DL.ext {mk mk' : Nat → Prop} (hm : ∀ k, mk k → mk' k) (x : Ext ι I m w ι' I' m' w') : ∀ {r : List Deferred} {ds : List (NV × List NV)}, dsMax ds ≤ m.n → DL ι I mk ds r → DL ι' I' mk' ds r
  | [], ds, _, h => h
  | d :: r, ds, hb, h => by
    rcases h with ⟨k, h1, h2, h3⟩ | ⟨f, args, ds', rfl, h2, h3⟩
    · exact .inl ⟨k, h1, hm k h2, DL.ext hm x hb h3⟩
    · simp only [dsMax] at hb
      exact .inr ⟨f, args, ds', rfl, h2.ext x (by omega) (by omega), DL.ext hm x (by omega) h3⟩

/-- The marks among deferred calls. -/
def marksOf (ds : List Deferred) : List Nat := ds.filterMap fun d => match d.target with
  | .collected k => some k
  | _ => none

/-- A frame. -/
structure FR (base : Option Nat) (ι : Iota) (I : Imm) (m : Mem) (w : World) (e : Env) (fr : Fr) (a : Act) : Prop where
  env : ER ι I m e a.tmps
  ds : DL ι I (Hid base ι m w) fr.ds a.defers
  bnd : dsMax fr.ds ≤ m.n
  nod : (marksOf a.defers).Nodup

theorem FR.ext {base : Option Nat} {e : Env} {fr : Fr} {a : Act} (h : FR base ι I m w e fr a) (x : Ext ι I m w ι' I' m' w') : FR base ι' I' m' w' e fr a :=
  ⟨h.env.ext x, DL.ext (fun _ hk => hk.ext x) x h.bnd h.ds, Nat.le_trans h.bnd x.n, h.nod⟩

theorem put_defers (a : Act) (d : Option Nat) (x : Value) : (a.put d x).defers = a.defers := by cases d <;> rfl

theorem FR.put {base : Option Nat} {e : Env} {fr : Fr} {a : Act} (h : FR base ι I m w e fr a) {d : Option Nat} {v : NV} {x : Value} (hd : ∀ k, d = some k → k < a.tmps.size) (hv : V ι I v x) (hb : maxId v ≤ m.n) : FR base ι I m w (putE e d v) fr (a.put d x) :=
  ⟨h.env.put hd hv hb, by rw [put_defers]; exact h.ds, h.bnd, by rw [put_defers]; exact h.nod⟩

theorem FR.clean {base : Option Nat} {e : Env} {fr : Fr} {a : Act} (h : FR base ι I m w e fr a) (L : Nat) : FR base ι I m w (cleanE e L) fr a :=
  ⟨h.env.clean L, h.ds, h.bnd, h.nod⟩

/-- How code is left. -/
def ExR (ι : Iota) (I : Imm) (m : Mem) : Ex → Exit → Prop
  | .norm, e => e = .normal
  | .exit id, e => e = .exit id
  | .ret, e => e = .ret
  | .pan v, e => ∃ x, e = .panic [{ v := x, recovered := false }] ∧ V ι I v x ∧ maxId v ≤ m.n

/-- What is asked at code's end. -/
def Post (base : Option Nat) (size : Nat) (ι : Iota) (I : Imm) (m : Mem) (w : World) (Q : Exit → Act → World → Prop) (out : Out) : Prop :=
  ∀ a' w' ι' I' ex, R ι' I' out.mem w' → FR base ι' I' out.mem w' out.env out.fr a' → Ext ι I m w ι' I' out.mem w' → a'.tmps.size = size → ExR ι' I' out.mem out.ex ex → Q ex a' w'

theorem Post.ext {base : Option Nat} {size : Nat} {Q : Exit → Act → World → Prop} {out : Out} (h : Post base size ι I m w Q out) (x : Ext ι I m w ι' I' m' w') : Post base size ι' I' m' w' Q out :=
  fun a' w'' ι'' I'' ex h1 h2 h3 h4 h5 => h a' w'' ι'' I'' ex h1 h2 (x.trans h3) h4 h5

theorem wanted_sound {e : Env} {a : Act} (hE : ER ι I m e a.tmps) {ops : Array Oper} {o : Oper} {b : Bool} (h : (wantsB ops.toList o.guard).f e = some b) : Region.wanted o (yielded ops a.tmps) = b := by
  unfold wantsB at h
  unfold Region.wanted
  split at h
  · rename_i hg; rw [hg]; cases h; rfl
  · rename_i j wv hg
    rw [hg]
    simp only
    split at h
    case h_2 => cases h
    rename_i oj hoj
    rw [nth_eq, Array.getElem?_toList] at hoj
    split at h
    case h_2 => cases h
    rename_i d hd
    dsimp only at h
    unfold boolIs at h
    unfold yielded
    simp only [hoj, Option.bind_some, hd]
    split at h
    · rename_i q hq
      cases h
      obtain ⟨x, hx, hv⟩ := hE.rel d _ hq
      simp only [V] at hv; subst hv
      simp only [hx]
      cases q <;> cases wv <;> rfl
    · rename_i l hu
      cases h
      obtain ⟨x, hx, hv⟩ := hE.rel d _ hu
      simp only [V] at hv
      obtain ⟨ar, rfl, _⟩ := hv
      simp only [hx]
      rfl
    · cases h

/-- A region's operations from number k on. -/
theorem opsB_sound (hT : TabOk T P) {X : Ctx} (hC : CallOk T P X.C) (hY : YieldOk T P X.Y) {F : Fence} (hF : WF F) {n : Nat} {base : Option Nat} {size : Nat} {ops : Array Oper} {Q : Exit → Act → World → Prop}
    (hdst : ∀ o ∈ ops.toList, ∀ d, o.dst = some d → d < size) (hro : F.round = none ∨ ∀ o ∈ ops.toList, ∀ c, o.op ≠ .defer c) :
    ∀ (rest : List Oper) (k : Nat), ops.toList.drop k = rest → ∀ {ι : Iota} {I : Imm} {m : Mem} {w : World} {e : Env} {fr : Fr} {a : Act} {out : Out}, GlobOk T I → R ι I m w → FR base ι I m w e fr a → a.tmps.size = size → fr.rc = none →
      (opsB T ops.toList rest).f X e m fr = some out → Post base size ι I m w Q out → wpOpsIn F n P ops Q (List.range' k rest.length) a w
  | [], k, hk, ι, I, m, w, e, fr, a, out, hG, hR, hfr, hsz, hrc, h, hP => by
    simp only [opsB, Option.some.injEq] at h; subst h
    simp only [List.length_nil, List.range'_zero, wpOpsIn]
    exact hP a w ι I .normal hR hfr (Ext.refl _ _ _ _) hsz rfl
  | o :: rest, k, hk, ι, I, m, w, e, fr, a, out, hG, hR, hfr, hsz, hrc, h, hP => by
    have hko : ops[k]? = some o := by
      have : ops.toList[k]? = some o := by
        have := congrArg (·[0]?) hk
        simpa using this
      rwa [Array.getElem?_toList] at this
    have hmem : o ∈ ops.toList := List.mem_of_getElem? (by rw [Array.getElem?_toList]; exact hko : ops.toList[k]? = some o)
    have hk' : ops.toList.drop (k + 1) = rest := by
      have := congrArg List.tail hk
      simpa using this
    have hd : ∀ d, o.dst = some d → d < a.tmps.size := fun d hd => hsz ▸ hdst o hmem d hd
    simp only [opsB] at h
    simp only [List.length_cons, List.range'_succ, wpOpsIn, hko]
    split at h
    · rename_i hw
      have hwt := wanted_sound (a := a) hfr.env hw
      simp only [hwt, if_true]
      cases hr : (stepB T o.op).f X e m with
      | none => rw [hr] at h; cases h
      | some r =>
        rw [hr] at h
        have hA : After P F o a w ι I m r (wpOpsIn F n P ops Q (List.range' (k + 1) rest.length)) Q := by
          refine ⟨fun v m' hv x w' ι' I' q1 q2 q3 q4 => ?_, fun v m' hv x w' ι' I' q1 q2 q3 q4 => ?_, fun f args m' hv hm d q1 q2 q3 => ?_, fun m' hv => ?_⟩
          · subst hv
            simp only [goOn] at h
            exact opsB_sound hT hC hY hF hdst hro rest (k + 1) hk' (hG.mono q4.imm) q3 ((hfr.ext q4).put hd q1 q2) (by rw [put_size]; exact hsz) hrc h (hP.ext q4)
          · subst hv
            simp only [goOn, Option.some.injEq] at h; subst h
            exact hP a w' ι' I' _ q3 (hfr.ext q4) q4 hsz ⟨x, rfl, q1, q2⟩
          · subst hv hm
            simp only [goOn] at h
            have hun : V ι I (.tup []) undef := by simp only [V, undef]; exact ⟨_, rfl, by simp [VL]⟩
            have hfr' : FR base ι I m' w e { fr with ds := (f, args) :: fr.ds } { a with defers := d :: a.defers } :=
              ⟨hfr.env, .inr ⟨f, args, fr.ds, rfl, q1, hfr.ds⟩, by have := hfr.bnd; simp only [dsMax]; omega, by
                obtain ⟨g, first, cap, cx, _, ht, _⟩ := q1
                have := hfr.nod
                simpa [marksOf, ht] using this⟩
            have hd' : ∀ k, o.dst = some k → k < ({ a with defers := d :: a.defers } : Act).tmps.size := hd
            exact opsB_sound hT hC hY hF hdst hro rest (k + 1) hk' hG hR (hfr'.put hd' hun (by simp [maxId, maxIds])) (by rw [put_size]; exact hsz) hrc h hP
          · subst hv
            simp only [goOn, recN, hrc] at h
            cases h
        unfold stepB at hr
        split at hr
        · rename_i c ho
          split at hr
          · exact call_wpIn hT hG hR hfr.env hC hY hF ho hr hA
          · have hop : (opN T o.op).f e m = some r := by rw [ho]; exact hr
            exact op_wpIn hF (.inr fun c' hc' => by rw [ho] at hc'; cases hc') (opN_sound hT hG hR hfr.env hop) hA
        · refine op_wpIn hF ?_ (opN_sound hT hG hR hfr.env hr) hA
          rcases hro with h1 | h1
          · exact .inl h1
          · exact .inr (h1 o hmem)
    · rename_i hw
      have hwt := wanted_sound (a := a) hfr.env hw
      simp only [hwt, Bool.false_eq_true, if_false]
      refine ⟨fun f _ => hF.fn f, ?_⟩
      have hun : V ι I (.tup []) undef := by simp only [V, undef]; exact ⟨_, rfl, by simp [VL]⟩
      exact opsB_sound hT hC hY hF hdst hro rest (k + 1) hk' hG hR (hfr.put hd hun (by simp [maxId, maxIds])) (by rw [put_size]; exact hsz) hrc h hP
    · cases h

end Go.Kn
