/- Part of the proof: the evaluator, its soundness, its runs. -/
import Derived.Test.YtpbhfabagkpaaaaGreatDoorE2
import Derived.Sort.LoopGhostIn

namespace Go.Kn

variable {T : Tab} {P : Program} {ι ι' : Iota} {I I' : Imm} {m m' : Mem} {w w' : World}

theorem opsOk_dst {n : Nat} {rd : Bool} : ∀ {l : List Oper}, opsOk n rd l = true → (∀ o ∈ l, ∀ d, o.dst = some d → d < n) ∧ (rd = true → ∀ o ∈ l, ∀ c, o.op ≠ .defer c)
  | [], _ => ⟨fun o h => (by cases h), fun _ o h => (by cases h)⟩
  | o :: l, h => by
    simp only [opsOk, Bool.and_eq_true] at h
    obtain ⟨⟨h1, h2⟩, h3⟩ := h
    obtain ⟨k1, k2⟩ := opsOk_dst h3
    constructor
    · intro o' ho d hd
      rcases List.mem_cons.1 ho with rfl | ho
      · rw [hd] at h1; exact Nat.le_of_ble_eq_true h1
      · exact k1 o' ho d hd
    · intro hr o' ho c hc
      rcases List.mem_cons.1 ho with rfl | ho
      · subst hr
        rw [hc] at h2
        simp [isDefer] at h2
      · exact k2 hr o' ho c hc

/-- The mode of recovering is as it was: none. -/
theorem goOn_rc {d : Option Nat} {next : Run} {X : Ctx} {e : Env} {fr : Fr} {r : Option OpRes} {out : Out} (hn : ∀ e m fr out, fr.rc = none → next X e m fr = some out → out.fr.rc = none) (hrc : fr.rc = none) (h : goOn d next X e fr r = some out) : out.fr.rc = none := by
  unfold goOn at h
  split at h
  · exact hn _ _ _ _ hrc h
  · cases h; exact hrc
  · exact hn _ _ _ _ (by exact hrc) h
  · unfold recN at h
    rw [hrc] at h
    cases h
  · cases h

theorem opsB_rc {ops : List Oper} {X : Ctx} : ∀ {rest : List Oper} {e : Env} {m : Mem} {fr : Fr} {out : Out}, fr.rc = none → (opsB T ops rest).f X e m fr = some out → out.fr.rc = none
  | [], e, m, fr, out, hrc, h => by simp only [opsB, Option.some.injEq] at h; subst h; exact hrc
  | o :: rest, e, m, fr, out, hrc, h => by
    simp only [opsB] at h
    split at h
    · exact goOn_rc (fun e m fr out h1 h2 => opsB_rc h1 h2) hrc h
    · exact opsB_rc hrc h
    · cases h

theorem regionB_rc {keep : Nat} {ops : Array Oper} {draw : Bool} {X : Ctx} {e : Env} {m : Mem} {fr : Fr} {out : Out} (hrc : fr.rc = none) (h : (regionB T keep ops draw).f X e m fr = some out) : out.fr.rc = none := by
  cases draw
  · exact opsB_rc hrc h
  · simp only [regionB, outOf] at h
    split at h
    · cases h; exact hrc
    · cases h

theorem endLoopN_fr {l : Nat} {e : Env} {fr : Fr} {out : Out} (h : endLoopN l e m fr = some out) : out.fr = fr := by
  unfold endLoopN at h
  split at h
  · split at h <;> first | (cases h; rfl) | cases h
  · cases h

theorem rangeN_fr {ps : List Nat} {as bd : Code} {f : NV} {X : Ctx} {e : Env} {fr : Fr} {out : Out} (h : rangeN ps as bd f X e m fr = some out) : out.fr = fr := by
  unfold rangeN at h
  split at h
  case h_2 => cases h
  split at h
  · exact endLoopN_fr h
  · cases h; rfl
  · cases h

theorem loopN_rc {body : Run} {X : Ctx} (hb : ∀ e m fr out, fr.rc = none → body X e m fr = some out → out.fr.rc = none) : ∀ {n : Nat} {e : Env} {m : Mem} {fr : Fr} {out : Out}, fr.rc = none → loopN body n X e m fr = some out → out.fr.rc = none
  | 0, e, m, fr, out, hrc, h => by cases h
  | n + 1, e, m, fr, out, hrc, h => by
    simp only [loopN] at h
    cases hr : body X e m fr with
    | none => rw [hr] at h; cases h
    | some o1 =>
      rw [hr] at h
      have h1 := hb _ _ _ _ hrc hr
      obtain ⟨ex, e1, m1, fr1⟩ := o1
      cases ex with
      | norm => exact loopN_rc hb h1 h
      | _ => simp only [thenN, Option.some.injEq] at h; subst h; exact h1

theorem execB_rc {keep : Nat} {X : Ctx} : ∀ {c : Code} {e : Env} {m : Mem} {fr : Fr} {out : Out}, fr.rc = none → (execB T keep c).f X e m fr = some out → out.fr.rc = none := by
  intro c
  induction c with
  | skip => intro e m fr out hrc h; simp only [execB, Option.some.injEq] at h; subst h; exact hrc
  | label l => intro e m fr out hrc h; simp only [execB, Option.some.injEq] at h; subst h; exact hrc
  | region id ops draw => intro e m fr out hrc h; exact regionB_rc hrc h
  | seq a b iha ihb =>
    intro e m fr out hrc h
    simp only [execB] at h
    cases hr : (execB T keep a).f X e m fr with
    | none => rw [hr] at h; cases h
    | some o1 =>
      rw [hr] at h
      have h1 := iha hrc hr
      obtain ⟨ex, e1, m1, fr1⟩ := o1
      cases ex with
      | norm => exact ihb h1 h
      | _ => simp only [thenN, Option.some.injEq] at h; subst h; exact h1
  | cond c a b iha ihb =>
    intro e m fr out hrc h
    simp only [execB, condN] at h
    split at h
    · exact iha hrc h
    · exact ihb hrc h
    · cases h
  | block id a iha =>
    intro e m fr out hrc h
    simp only [execB] at h
    cases hr : (execB T keep a).f X e m fr with
    | none => rw [hr] at h; cases h
    | some o1 =>
      rw [hr] at h
      have h1 := iha hrc hr
      obtain ⟨ex, e1, m1, fr1⟩ := o1
      unfold inBlock at h
      split at h
      · rename_i heq
        cases heq
        split at h <;> (cases h; exact h1)
      · cases h; exact h1
  | loop a iha =>
    intro e m fr out hrc h
    exact loopN_rc (fun e m fr out h1 h2 => iha h1 h2) hrc h
  | exit id => intro e m fr out hrc h; simp only [execB, Option.some.injEq] at h; subst h; exact hrc
  | ret => intro e m fr out hrc h; simp only [execB, Option.some.injEq] at h; subst h; exact hrc
  | rangeFunc f ps as bd iha ihb =>
    intro e m fr out hrc h
    simp only [execB] at h
    split at h
    · rw [rangeN_fr h]; exact hrc
    · cases h
  | _ => intro e m fr out hrc h; simp only [execB] at h; cases h

/-- A region whose order is open does what the evaluator says, in whatever order. -/
def DrawOk (T : Tab) (P : Program) : Prop :=
  ∀ (X : Ctx), CallOk T P X.C → YieldOk T P X.Y → ∀ (F : Fence), WF F → ∀ {n : Nat} {base : Option Nat} {size id : Nat} {ops : Array Oper} {Q : Exit → Act → World → Prop},
    (∀ o ∈ ops.toList, ∀ d, o.dst = some d → d < size) → (F.round = none ∨ ∀ o ∈ ops.toList, ∀ c, o.op ≠ .defer c) →
    ∀ {ι : Iota} {I : Imm} {m : Mem} {w : World} {e : Env} {fr : Fr} {a : Act} {out : Out}, GlobOk T I → R ι I m w → FR base ι I m w e fr a → a.tmps.size = size → fr.rc = none →
      outOf fr ((drawB T ops).f X e m) = some out → Post base size ι I m w Q out → (Code.region id ops true).wpIn F n P Q a w

/-- The statement 'range over a function'. -/
def RangeOk (T : Tab) (P : Program) : Prop :=
  ∀ (X : Ctx), EnterOk T P X.C → ∀ (F : Fence), WF F → F.round = none → ∀ {n : Nat} {base : Option Nat} {size : Nat} {f : Operand} {ps : Array Nat} {as bd : Code} {Q : Exit → Act → World → Prop},
    psOk size ps.toList = true → codeOk size true as = true → codeOk size true bd = true →
    ∀ {ι : Iota} {I : Imm} {m : Mem} {w : World} {e : Env} {fr : Fr} {a : Act} {out : Out} {fv : NV}, GlobOk T I → R ι I m w → FR base ι I m w e fr a → a.tmps.size = size → fr.rc = none → (∃ b, base = some b ∧ b ≤ w.heap.size) →
      (rho T f).f e = some fv → rangeN ps.toList as bd fv X e m fr = some out → Post base size ι I m w Q out → (Code.rangeFunc f ps as bd).wpIn F n P Q a w

/-- Either no mark can come to be, or marks are told from what lay there before. -/
def BS (base : Option Nat) (c : Code) (w : World) : Prop := flatC c = true ∨ ∃ b, base = some b ∧ b ≤ w.heap.size

theorem BS.mono {base : Option Nat} {c : Code} (h : BS base c w) (hs : w.heap.size ≤ w'.heap.size) : BS base c w' := by
  rcases h with h | ⟨b, h1, h2⟩
  · exact .inl h
  · exact .inr ⟨b, h1, Nat.le_trans h2 hs⟩

theorem BS.sub {base : Option Nat} {c x : Code} (h : BS base c w) (hf : flatC c = true → flatC x = true) : BS base x w := by
  rcases h with h | h
  · exact .inl (hf h)
  · exact .inr h

theorem execB_sound (hT : TabOk T P) (hDr : DrawOk T P) (hRg : RangeOk T P) {X : Ctx} (hC : CallOk T P X.C) (hN : EnterOk T P X.C) (hY : YieldOk T P X.Y) {F : Fence} (hF : WF F) {n : Nat} {base : Option Nat} {size keep : Nat} {rd : Bool} (hrd : F.round = none ∨ rd = true) :
    ∀ (c : Code), codeOk size rd c = true → ∀ {Q : Exit → Act → World → Prop} {ι : Iota} {I : Imm} {m : Mem} {w : World} {e : Env} {fr : Fr} {a : Act} {out : Out}, GlobOk T I → R ι I m w → FR base ι I m w e fr a → a.tmps.size = size → fr.rc = none → BS base c w →
      (execB T keep c).f X e m fr = some out → Post base size ι I m w Q out → c.wpIn F n P Q a w := by
  intro c
  induction c with
  | skip =>
    intro hok Q ι I m w e fr a out hG hR hfr hsz hrc hbs h hP
    simp only [execB, Option.some.injEq] at h; subst h
    exact wpIn_skip (hP a w ι I .normal hR hfr (Ext.refl _ _ _ _) hsz rfl)
  | label l =>
    intro hok Q ι I m w e fr a out hG hR hfr hsz hrc hbs h hP
    simp only [execB, Option.some.injEq] at h; subst h
    exact wpIn_label (hP a w ι I .normal hR hfr (Ext.refl _ _ _ _) hsz rfl)
  | exit id =>
    intro hok Q ι I m w e fr a out hG hR hfr hsz hrc hbs h hP
    simp only [execB, Option.some.injEq] at h; subst h
    exact wpIn_exit (hP a w ι I (.exit id) hR hfr (Ext.refl _ _ _ _) hsz rfl)
  | ret =>
    intro hok Q ι I m w e fr a out hG hR hfr hsz hrc hbs h hP
    simp only [execB, Option.some.injEq] at h; subst h
    exact wpIn_ret (hP a w ι I .ret hR hfr (Ext.refl _ _ _ _) hsz rfl)
  | region id ops draw =>
    intro hok Q ι I m w e fr a out hG hR hfr hsz hrc hbs h hP
    simp only [codeOk] at hok
    obtain ⟨hd, hdf⟩ := opsOk_dst hok
    have hro : F.round = none ∨ ∀ o ∈ ops.toList, ∀ c, o.op ≠ .defer c := by
      rcases hrd with h1 | h1
      · exact .inl h1
      · exact .inr (hdf h1)
    cases draw
    · refine wpIn_region ?_
      have := opsB_sound (n := n) hT hC hY hF hd hro ops.toList 0 rfl hG hR (hfr.clean keep) hsz hrc h hP
      rw [List.range_eq_range']
      simpa using this
    · exact hDr X hC hY F hF hd hro hG hR (hfr.clean keep) hsz hrc h hP
  | seq x y ihx ihy =>
    intro hok Q ι I m w e fr a out hG hR hfr hsz hrc hbs h hP
    simp only [codeOk, Bool.and_eq_true] at hok
    simp only [execB] at h
    cases hr : (execB T keep x).f X e m fr with
    | none => rw [hr] at h; cases h
    | some o1 =>
      rw [hr] at h
      have hrc1 := execB_rc hrc hr
      have hbx : BS base x w := hbs.sub fun hf => by simp only [flatC, Bool.and_eq_true] at hf; exact hf.1
      have hby : BS base y w := hbs.sub fun hf => by simp only [flatC, Bool.and_eq_true] at hf; exact hf.2
      refine wpIn_seq (ihx hok.1 hG hR hfr hsz hrc hbx hr ?_)
      intro a' w' ι' I' ex q1 q2 q3 q4 q5
      obtain ⟨ex1, e1, m1, fr1⟩ := o1
      cases ex1 with
      | norm =>
        simp only [ExR] at q5; subst q5
        exact ihy hok.2 (hG.mono q3.imm) q1 q2 q4 hrc1 (hby.mono q3.size) h (hP.ext q3)
      | exit i =>
        simp only [thenN, Option.some.injEq] at h; subst h
        have := hP a' w' ι' I' ex q1 q2 q3 q4 q5
        simp only [ExR] at q5; subst q5; exact this
      | ret =>
        simp only [thenN, Option.some.injEq] at h; subst h
        have := hP a' w' ι' I' ex q1 q2 q3 q4 q5
        simp only [ExR] at q5; subst q5; exact this
      | pan v =>
        simp only [thenN, Option.some.injEq] at h; subst h
        have := hP a' w' ι' I' ex q1 q2 q3 q4 q5
        obtain ⟨x, rfl, _⟩ := q5; exact this
  | cond c x y ihx ihy =>
    intro hok Q ι I m w e fr a out hG hR hfr hsz hrc hbs h hP
    simp only [codeOk, Bool.and_eq_true] at hok
    simp only [execB, condN] at h
    split at h
    · rename_i hc
      have := (rho_sound (a := a) hG hfr.env hc).1
      simp only [V] at this
      exact wpIn_cond_true this (ihx hok.1 hG hR hfr hsz hrc (hbs.sub fun hf => by simp only [flatC, Bool.and_eq_true] at hf; exact hf.1) h hP)
    · rename_i hc
      have := (rho_sound (a := a) hG hfr.env hc).1
      simp only [V] at this
      exact wpIn_cond_false this (ihy hok.2 hG hR hfr hsz hrc (hbs.sub fun hf => by simp only [flatC, Bool.and_eq_true] at hf; exact hf.2) h hP)
    · cases h
  | block id x ihx =>
    intro hok Q ι I m w e fr a out hG hR hfr hsz hrc hbs h hP
    simp only [codeOk] at hok
    simp only [execB] at h
    cases hr : (execB T keep x).f X e m fr with
    | none => rw [hr] at h; cases h
    | some o1 =>
      rw [hr] at h
      refine wpIn_block (ihx hok hG hR hfr hsz hrc hbs hr ?_)
      intro a' w' ι' I' ex q1 q2 q3 q4 q5
      obtain ⟨ex1, e1, m1, fr1⟩ := o1
      cases ex1 with
      | exit i =>
        simp only [ExR] at q5; subst q5
        simp only [inBlock] at h
        simp only [Exit.inBlock]
        split at h
        · rename_i hi
          have hi := Nat.eq_of_beq_eq_true hi
          cases h
          rw [if_pos hi]
          exact hP a' w' ι' I' .normal q1 q2 q3 q4 rfl
        · rename_i hi
          have hi : i ≠ id := fun e => by subst e; simp at hi
          cases h
          rw [if_neg hi]
          exact hP a' w' ι' I' (.exit i) q1 q2 q3 q4 rfl
      | norm =>
        simp only [inBlock, Option.some.injEq] at h; subst h
        have := hP a' w' ι' I' ex q1 q2 q3 q4 q5
        simp only [ExR] at q5; subst q5; exact this
      | ret =>
        simp only [inBlock, Option.some.injEq] at h; subst h
        have := hP a' w' ι' I' ex q1 q2 q3 q4 q5
        simp only [ExR] at q5; subst q5; exact this
      | pan v =>
        simp only [inBlock, Option.some.injEq] at h; subst h
        have := hP a' w' ι' I' ex q1 q2 q3 q4 q5
        obtain ⟨x, rfl, _⟩ := q5; exact this
  | loop x ihx =>
    intro hok Q ι I m w e fr a out hG hR hfr hsz hrc hbs h hP
    simp only [codeOk] at hok
    have h : loopN (execB T keep x).f fuelL X e m fr = some out := h
    refine wpIn_loop_ghost (fun k a w => ∃ ι I m e fr, GlobOk T I ∧ R ι I m w ∧ FR base ι I m w e fr a ∧ a.tmps.size = size ∧ fr.rc = none ∧ BS base x w ∧ loopN (execB T keep x).f k X e m fr = some out ∧ Post base size ι I m w Q out) fuelL ⟨ι, I, m, e, fr, hG, hR, hfr, hsz, hrc, hbs.sub fun hf => hf, h, hP⟩ ?_
    rintro k a w ⟨ι, I, m, e, fr, hG, hR, hfr, hsz, hrc, hbs, h, hP⟩
    cases k with
    | zero => cases h
    | succ k =>
      simp only [loopN] at h
      cases hr : (execB T keep x).f X e m fr with
      | none => rw [hr] at h; cases h
      | some o1 =>
        rw [hr] at h
        have hrc1 := execB_rc hrc hr
        refine ihx hok hG hR hfr hsz hrc hbs hr ?_
        intro a' w' ι' I' ex q1 q2 q3 q4 q5
        obtain ⟨ex1, e1, m1, fr1⟩ := o1
        cases ex1 with
        | norm =>
          simp only [ExR] at q5; subst q5
          exact ⟨k, Nat.lt_succ_self k, ι', I', m1, e1, fr1, hG.mono q3.imm, q1, q2, q4, hrc1, hbs.mono q3.size, h, hP.ext q3⟩
        | exit i =>
          simp only [thenN, Option.some.injEq] at h; subst h
          have := hP a' w' ι' I' ex q1 q2 q3 q4 q5
          simp only [ExR] at q5; subst q5; exact this
        | ret =>
          simp only [thenN, Option.some.injEq] at h; subst h
          have := hP a' w' ι' I' ex q1 q2 q3 q4 q5
          simp only [ExR] at q5; subst q5; exact this
        | pan v =>
          simp only [thenN, Option.some.injEq] at h; subst h
          have := hP a' w' ι' I' ex q1 q2 q3 q4 q5
          obtain ⟨x, rfl, _⟩ := q5; exact this
  | rangeFunc f ps as bd iha ihb =>
    intro hok Q ι I m w e fr a out hG hR hfr hsz hrc hbs h hP
    simp only [codeOk, Bool.and_eq_true] at hok
    have hro : F.round = none := by
      rcases hrd with h1 | h1
      · exact h1
      · subst h1; simp at hok
    simp only [execB] at h
    split at h
    · rename_i fv hfv
      have hbr : ∃ b, base = some b ∧ b ≤ w.heap.size := by
        rcases hbs with hb | hb
        · simp [flatC] at hb
        · exact hb
      exact hRg X hN F hF hro hok.2.1.1 hok.2.1.2 hok.2.2 hG hR hfr hsz hrc hbr hfv h hP
    · cases h
  | _ =>
    intro hok Q ι I m w e fr a out hG hR hfr hsz hrc hbs h hP
    simp only [execB] at h; cases h

end Go.Kn

namespace Go.Kn

variable {T : Tab} {P : Program} {ι ι' : Iota} {I I' : Imm} {m m' : Mem} {w w' : World}

theorem loadVar_run (hT : TabOk T P) (hR : R ι I m w) {t : TypeId} {p v : NV} {x : Value} (hp : V ι I p x) (h : (loadN T t).f m p = some v) :
    ∃ ad y, x = .pointer (some ad) ∧ (loadVar t ad).run P w = .ok y w ∧ V ι I v y ∧ maxId v ≤ m.n := by
  unfold loadN at h
  split at h
  case h_2 => cases h
  rename_i d n hd hn
  split at h
  · rename_i ha
    simp only at h
    split at h
    case h_2 => cases h
    rename_i cs hcs
    cases h
    obtain ⟨cb, co, rfl, hc, hlen, hb⟩ := readN_sound hR hp hcs
    obtain ⟨xs, h1, h2, h3⟩ := hc.list
    have hl := run_loadCells_at (P := P) (n := n) (by omega) h3
    exact ⟨_, .agg xs.toArray, rfl, by simp [loadVar, isAgg_run (hT.und _ _ hd), ha, hT.cellsOf hn, hl], packV h2 ha, by simpa [maxId] using hb⟩
  · rename_i ha
    simp only at h
    split at h
    case h_2 => cases h
    rename_i cs hcs
    obtain ⟨cb, co, rfl, hc, hlen, hb⟩ := readN_sound hR hp hcs
    match cs, hlen, h with
    | [u], _, h =>
      simp only [one, Option.some.injEq] at h; subst h
      obtain ⟨y, hy, hvy⟩ := hc 0 u (by simp)
      simp only [Nat.add_zero] at hy
      exact ⟨_, y, rfl, by simp [loadVar, isAgg_run (hT.und _ _ hd), ha, hy], hvy, by simpa [maxIds, mx_eq] using hb⟩

theorem consO_inv {v : Option NV} {r : Option (List NV)} {l : List NV} (h : consO v r = some l) : ∃ u s, v = some u ∧ r = some s ∧ l = u :: s := by
  unfold consO at h
  split at h
  · cases h; exact ⟨_, _, rfl, rfl, rfl⟩
  · cases h

/-- One result of a function, as the model reads it. -/
def resO (tmps : Array Value) : ResultVar → Sem Value
  | .tmp t => pure (tmps.getD t undef)
  | .cell a t => do loadVar t (← asAddr (tmps.getD a undef))

theorem resultsL_sound (hT : TabOk T P) (hR : R ι I m w) {e : Env} {tmps : Array Value} (hE : ER ι I m e tmps) : ∀ {rs : List ResultVar} {l : List NV}, resultsL T m e rs = some l →
    ∃ xs, (rs.mapM (resO tmps)).run P w = .ok xs w ∧ VL ι I l xs ∧ maxIds l ≤ m.n
  | [], l, h => by
    simp only [resultsL, Option.some.injEq] at h; subst h
    exact ⟨[], by simp, by simp [VL], by simp [maxIds]⟩
  | .tmp t :: rs, l, h => by
    simp only [resultsL] at h
    obtain ⟨u, s, h1, h2, rfl⟩ := consO_inv h
    obtain ⟨x, hx, hv⟩ := hE.rel t u h1
    obtain ⟨xs, q1, q2, q3⟩ := resultsL_sound hT hR hE h2
    refine ⟨x :: xs, ?_, VL_cons.2 ⟨hv, q2⟩, by have := lookupE_max h1; have := hE.bnd; simp only [maxIds, mx_eq]; omega⟩
    have hg : tmps.getD t undef = x := by simp [Array.getD_eq_getD_getElem?, hx]
    simp only [List.mapM_cons, Sem.run_bind, Sem.run_pure, Result.andThen_ok, resO, hg, q1]
  | .cell a t :: rs, l, h => by
    simp only [resultsL] at h
    obtain ⟨u, s, h1, h2, rfl⟩ := consO_inv h
    unfold cellO at h1
    split at h1
    case h_2 => cases h1
    rename_i p hp
    obtain ⟨x, hx, hv⟩ := hE.rel a p hp
    obtain ⟨ad, y, rfl, hl, hvy, hb⟩ := loadVar_run hT hR hv h1
    obtain ⟨xs, q1, q2, q3⟩ := resultsL_sound hT hR hE h2
    refine ⟨y :: xs, ?_, VL_cons.2 ⟨hvy, q2⟩, by simp only [maxIds, mx_eq]; omega⟩
    have hg : tmps.getD a undef = .pointer (some ad) := by simp [Array.getD_eq_getD_getElem?, hx]
    simp only [List.mapM_cons, Sem.run_bind, Sem.run_pure, Result.andThen_ok, resO, hg, asAddr, hl, q1]

theorem resultsN_sound (hT : TabOk T P) (hR : R ι I m w) {e : Env} {tmps : Array Value} (hE : ER ι I m e tmps) {fn : Func} {v : NV} (h : resultsN T m e fn.results.toList = some v) :
    ∃ x, (results fn tmps).run P w = .ok x w ∧ V ι I v x ∧ maxId v ≤ m.n := by
  unfold resultsN at h
  split at h
  · rename_i u hl
    cases h
    obtain ⟨xs, q1, q2, q3⟩ := resultsL_sound hT hR hE hl
    simp only [VL] at q2
    obtain ⟨x, s, rfl, hv, rfl⟩ := q2
    refine ⟨x, ?_, hv, by simpa [maxIds, mx_eq] using q3⟩
    unfold results
    rw [Array.mapM_eq_mapM_toList]
    simp only [Sem.run_bind, Sem.run_map]
    show ((Sem.run P (List.mapM (resO tmps) fn.results.toList) w).andThen _).andThen _ = _
    rw [q1]
    rfl
  · rename_i vs hne hl
    cases h
    obtain ⟨xs, q1, q2, q3⟩ := resultsL_sound hT hR hE hl
    have hlen := VL_length q2
    have hn1 : xs.toArray.size ≠ 1 := by
      intro h1
      simp at h1
      match vs, hlen, hne with
      | [u], _, hne => exact hne u rfl
      | [], hlen, _ => simp at hlen; omega
      | _ :: _ :: _, hlen, _ => simp at hlen; omega
    refine ⟨.tuple xs.toArray, ?_, by simp only [V]; exact ⟨_, rfl, by simpa using q2⟩, by simpa [maxId] using q3⟩
    unfold results
    rw [Array.mapM_eq_mapM_toList]
    simp only [Sem.run_bind, Sem.run_map]
    show ((Sem.run P (List.mapM (resO tmps) fn.results.toList) w).andThen _).andThen _ = _
    rw [q1]
    simp only [Result.andThen_ok, Sem.run_pure]
    rw [dif_neg hn1]
  · cases h

/-- A hidden block may be set. -/
theorem R.hide (hR : R ι I m w) {base : Option Nat} {k : Nat} (hk : Hid base ι m w k) (ob : Obj) : R ι I m (w.putObj k ob) := by
  have hother : ∀ j, j ≠ k → (w.putObj k ob).heap[j]? = w.heap[j]? := fun j hj => World.putObj_heap_other hj
  refine ⟨hR.len, fun cb o x hx => ?_, fun b o hb => ?_, hR.inj, hR.apart, hR.bnd⟩
  · have hx' := hR.imm cb o x hx
    have hne : cb ≠ k := by
      rintro rfl
      unfold World.cell? at hx'
      simp only [hk.open_] at hx'
      cases hx'
    rw [World.cell?_of_block (w := w) (w' := w.putObj k ob) (a := ⟨cb, o, none⟩) (hother cb hne)]
    exact hx'
  · by_cases hl : o.live = true
    · exact BR_world (by simp) (hother _ (hk.free b o hb hl)) (hR.blk b o hb)
    · cases o <;> first | trivial | exact absurd rfl hl

theorem Ext.hide {ι0 : Iota} {I0 : Imm} {m0 : Mem} {w0 : World} (x : Ext ι0 I0 m0 w0 ι I m w) {k : Nat} (hk : w0.heap.size ≤ k) (ob : Obj) : Ext ι0 I0 m0 w0 ι I m (w.putObj k ob) :=
  ⟨x.iota, x.n, x.imm, by simpa using x.size, fun j hj hf => by rw [World.putObj_heap_other (by omega)]; exact x.frame j hj hf, x.foot, x.os, x.output, x.tape, x.ifoot⟩

/-- Deferred calls of a frame that is being left, with what is panicked with. -/
def ModeR (ι : Iota) (I : Imm) (m : Mem) : Option NV → FrameMode → Prop
  | none, u => u = .returning
  | some v, u => ∃ x, u = .panicking [{ v := x, recovered := false }] ∧ V ι I v x ∧ maxId v ≤ m.n

theorem ModeR.ext {p : Option NV} {u : FrameMode} (h : ModeR ι I m p u) (x : Ext ι I m w ι' I' m' w') : ModeR ι' I' m' p u := by
  cases p with
  | none => exact h
  | some v =>
    obtain ⟨y, rfl, hv, hb⟩ := h
    exact ⟨y, rfl, x.V hb hv, Nat.le_trans hb x.n⟩

theorem ModeR.run {p : Option NV} {u : FrameMode} (h : ModeR ι I m p u) : u ≠ .run := by
  cases p with
  | none => rw [h]; simp
  | some v => obtain ⟨y, rfl, _⟩ := h; simp

theorem ModeR.settle {p : Option NV} {u : FrameMode} (h : ModeR ι I m p u) : settle u = u := by
  cases p with
  | none => rw [h]; rfl
  | some v => obtain ⟨y, rfl, _⟩ := h; rfl

/-- A deferred call does what the evaluator says. -/
def DeferOk (T : Tab) (P : Program) (D : CallerD) : Prop :=
  ∀ p f args m v m' took, D (some p) f args m = some (.ret v m', took) → ∀ ι I w (xs : Array Value) (u : FrameMode) (F : Fence) (n : Nat), WF F → F.round = none → GlobOk T I → R ι I m w → VL ι I args xs.toList → maxIds args ≤ m.n → ModeR ι I m p u →
    (callFunc f xs).run P w = .ok (.enter f xs) w ∧ CallsDIn F n P f xs u w fun e u' w' =>
      match e with
      | .returned _ => (∃ ι' I', R ι' I' m' w' ∧ Ext ι I m w ι' I' m' w') ∧ Go.settle u' = if took then .returning else u
      | _ => False

theorem Hid.other {base : Option Nat} {k j : Nat} (h : Hid base ι m w j) (hne : j ≠ k) (ob : Obj) : Hid base ι m (w.putObj k ob) j :=
  ⟨h.ge, by simpa using h.lt, by rw [World.putObj_heap_other hne]; exact h.open_, h.free⟩

theorem DL.marks {mk mk' : Nat → Prop} : ∀ {r : List Deferred} {ds : List (NV × List NV)}, (∀ k ∈ marksOf r, mk k → mk' k) → DL ι I mk ds r → DL ι I mk' ds r
  | [], ds, _, h => h
  | d :: r, ds, hm, h => by
    rcases h with ⟨k, h1, h2, h3⟩ | ⟨f, args, ds', rfl, h2, h3⟩
    · refine .inl ⟨k, h1, hm k (by simp [marksOf, h1]) h2, DL.marks (fun j hj => hm j ?_) h3⟩
      simp only [marksOf, List.filterMap_cons, h1] at hj ⊢
      exact List.mem_cons_of_mem _ hj
    · have ht := h2
      obtain ⟨g, first, cap, cx, _, ht, _⟩ := ht
      refine .inr ⟨f, args, ds', rfl, h2, DL.marks (fun j hj => hm j ?_) h3⟩
      simp only [marksOf, List.filterMap_cons, ht] at hj ⊢
      exact hj

theorem leaveN_sound (hT : TabOk T P) {D : CallerD} (hD : DeferOk T P D) {F : Fence} (hF : WF F) (hro : F.round = none) {n : Nat} {fn : Func} {e : Env} {tmps : Array Value} {ι0 : Iota} {I0 : Imm} {m0 : Mem} {w0 : World} {r : CallRes} (hG0 : GlobOk T I0) :
    ∀ (ds : List Deferred) {dn : List (NV × List NV)} {p : Option NV} {u : FrameMode} {ι : Iota} {I : Imm} {m : Mem} {w : World}, R ι I m w → Ext ι0 I0 m0 w0 ι I m w → ER ι I m e tmps → DL ι I (Hid (some w0.heap.size) ι m w) dn ds → (marksOf ds).Nodup → dsMax dn ≤ m.n → ModeR ι I m p u →
      leaveN T D fn.results.toList e dn p m = some r → LeavesInM F n P fn tmps (CR ι0 I0 m0 w0 r) ds u w
  | [], dn, p, u, ι, I, m, w, hR, hx, hE, hdl, hnd, hb, hm, h => by
    simp only [DL] at hdl; subst hdl
    simp only [LeavesInM]
    cases p with
    | none =>
      simp only [ModeR] at hm; subst hm
      simp only [leaveN] at h
      split at h
      case h_2 => cases h
      rename_i v hv
      cases h
      obtain ⟨x, q1, q2, q3⟩ := resultsN_sound hT hR hE hv
      exact ⟨x, q1, ι, I, q2, q3, hR, hx⟩
    | some v =>
      obtain ⟨x, rfl, q1, q2⟩ := hm
      simp only [leaveN, Option.some.injEq] at h; subst h
      exact ⟨x, ι, I, rfl, q1, q2, hR, hx⟩
  | d :: ds, dn, p, u, ι, I, m, w, hR, hx, hE, hdl, hnd, hb, hm, h => by
    refine ⟨hm.run, ?_⟩
    rcases hdl with ⟨k, h1, h2, h3⟩ | ⟨f, args, dn', rfl, h2, h3⟩
    · have hmk : marksOf (d :: ds) = k :: marksOf ds := by simp [marksOf, h1]
      rw [hmk, List.nodup_cons] at hnd
      refine .inl ⟨k, _, h1, run_takeDeferred h2.open_, ?_⟩
      exact leaveN_sound hT hD hF hro hG0 ds (hR.hide h2 _) (hx.hide (by obtain ⟨b, hb, hle⟩ := h2.ge; cases hb; exact hle) _) hE (DL.marks (fun j hj hh => hh.other (k := k) (fun e => hnd.1 (by subst e; exact hj)) _) h3) hnd.2 hb hm h
    · obtain ⟨g, first, cap, cx, rfl, ht, hcx, hax⟩ := h2
      have hmk : marksOf (d :: ds) = marksOf ds := by simp [marksOf, ht]
      rw [hmk] at hnd
      simp only [dsMax, maxIds_fn] at hb
      simp only [leaveN] at h
      refine .inr ⟨fun e => (by rw [hF.depth] at e; cases e), ?_⟩
      have hvl : VL ι I (first ++ args ++ cap) (d.args ++ cx).toList := by rw [Array.toList_append]; exact VL_append hax hcx
      have hbd : maxIds (first ++ args ++ cap) ≤ m.n := by rw [maxIds_append, maxIds_append]; omega
      have go : ∀ v m' took, D (some p) g (first ++ args ++ cap) m = some (.ret v m', took) → leaveN T D fn.results.toList e dn' (if took then none else p) m' = some r →
          ∃ fv cap f args, d.target = .fn fv cap ∧ (invoke d.target d.args).run P w = .ok (.enter f args) w ∧ (∀ g, d.target.leads P w d.args = some g → F.fn g) ∧
            CallsDIn F (n - 1) P f args u w fun
              | .returned _, u', w' => LeavesInM F n P fn tmps (CR ι0 I0 m0 w0 r) ds (settle u') w'
              | .panicked chain, u', w' => LeavesInM F n P fn tmps (CR ι0 I0 m0 w0 r) ds (raised u' chain) w'
              | .outgrown, _, w' => CR ι0 I0 m0 w0 r .outgrown w' := by
        intro v m' took hd hl
        obtain ⟨c1, c2⟩ := hD p g _ m v m' took hd ι I w (d.args ++ cx) u F (n - 1) hF hro (hG0.mono hx.imm) hR hvl hbd hm
        refine ⟨.func g, cx, g, d.args ++ cx, ht, ?_, fun g _ => hF.fn g, c2.mono fun en u' w' he => ?_⟩
        · rw [ht]; exact c1
        · cases en with
          | returned x =>
            obtain ⟨⟨ι', I', r1, r2⟩, r3⟩ := he
            simp only
            rw [r3]
            refine leaveN_sound hT hD hF hro hG0 ds r1 (hx.trans r2) (hE.ext r2) (DL.ext (fun _ hk => hk.ext r2) r2 (by omega) h3) hnd (by have := r2.n; omega) ?_ hl
            cases took
            · exact hm.ext r2
            · rfl
          | panicked c => exact he.elim
          | outgrown => exact he.elim
      split at h
      · rename_i v m' hd; exact go v m' true hd h
      · rename_i v m' hd; exact go v m' false hd h
      · cases h

end Go.Kn

namespace Go.Kn

variable {T : Tab} {P : Program} {ι ι' : Iota} {I I' : Imm} {m m' : Mem} {w w' : World}

theorem escOk_max {n b : Nat} (hb : b < n) : ∀ {l : List (Nat × Nat)}, escOk n l = true → escMax b l ≤ n ∧ escMax b (escCut n l) = escMax b l
  | [], _ => by simp [escMax, escCut]
  | (c, j) :: l, h => by
    simp only [escOk, Bool.and_eq_true, Bool.or_eq_true] at h
    obtain ⟨h1, h2⟩ := h
    obtain ⟨k1, k2⟩ := escOk_max hb h2
    by_cases hc : b = c
    · subst hc
      have hle : Nat.ble n b = false := by
        cases hh : Nat.ble n b with
        | false => rfl
        | true => have := Nat.le_of_ble_eq_true hh; omega
      have hj : j ≤ n := by
        rcases h1 with h1 | h1
        · rw [hle] at h1; cases h1
        · exact Nat.le_of_ble_eq_true h1
      simp only [escMax, escCut, hle, if_true, k2]
      exact ⟨by omega, trivial⟩
    · simp only [escMax, if_neg hc]
      refine ⟨k1, ?_⟩
      simp only [escCut]
      split
      · exact k2
      · simp only [escMax, if_neg hc]; exact k2

theorem drop_get (hl : m.bs.length = m.n) {n b : Nat} (hn : n ≤ m.n) (es : List (Nat × Nat)) : (Mem.mk (m.bs.drop (m.n - n)) n es).get b = if b < n then m.get b else none := by
  rw [Mem.get_eq, Mem.get_eq]
  simp only
  by_cases h : b < n
  · rw [if_pos h, if_pos h, if_pos (by omega), List.getElem?_drop]
    congr 1; omega
  · rw [if_neg h, if_neg h]

/-- The blocks that a call made go, where nothing names them. -/
theorem drop_sound {ι0 : Iota} {I0 : Imm} {m0 : Mem} {w0 : World} (hR : R ι I m w) (hx : Ext ι0 I0 m0 w0 ι I m w) {v : NV} (hb : maxId v ≤ m.n) :
    R ι I (m.drop m0.n v) w ∧ Ext ι0 I0 m0 w0 ι I (m.drop m0.n v) w ∧ maxId v ≤ (m.drop m0.n v).n := by
  unfold Mem.drop
  split
  case h_2 => exact ⟨hR, hx, hb⟩
  rename_i hc
  simp only [Bool.and_eq_true] at hc
  obtain ⟨⟨h1, h2⟩, h3⟩ := hc
  have h1 := Nat.le_of_ble_eq_true h1
  have h3 := Nat.le_of_ble_eq_true h3
  have hget : ∀ b, (Mem.mk (m.bs.drop (m.n - m0.n)) m0.n (escCut m0.n m.esc)).get b = if b < m0.n then m.get b else none := fun b => drop_get hR.len h3 _
  have hsub : ∀ b o, (Mem.mk (m.bs.drop (m.n - m0.n)) m0.n (escCut m0.n m.esc)).get b = some o → b < m0.n ∧ m.get b = some o := fun b o h => by
    rw [hget] at h
    split at h
    · rename_i hb'; exact ⟨hb', h⟩
    · cases h
  refine ⟨⟨by simp [hR.len]; omega, hR.imm, fun b o h => hR.blk b o (hsub b o h).2, fun b b' o o' q1 q2 => hR.inj b b' o o' (hsub b o q1).2 (hsub b' o' q2).2, fun b o h => hR.apart b o (hsub b o h).2, fun b o h => ?_⟩,
    ⟨hx.iota, Nat.le_refl _, hx.imm, hx.size, hx.frame, fun b o h => hx.foot b o (hsub b o h).2, hx.os, hx.output, hx.tape, hx.ifoot⟩, h1⟩
  obtain ⟨q1, q2⟩ := hsub b o h
  obtain ⟨k1, k2⟩ := hR.bnd b o q2
  obtain ⟨e1, e2⟩ := escOk_max q1 h2
  simp only
  rw [e2]
  exact ⟨by omega, k2⟩

theorem opsOk_mono {n n' : Nat} (hn : n ≤ n') {rd : Bool} : ∀ {l : List Oper}, opsOk n rd l = true → opsOk n' rd l = true
  | [], _ => rfl
  | o :: l, h => by
    simp only [opsOk, Bool.and_eq_true] at h ⊢
    refine ⟨⟨?_, h.1.2⟩, opsOk_mono hn h.2⟩
    have h1 := h.1.1
    split at h1
    · rfl
    · rename_i d hd
      exact Nat.ble_eq_true_of_le (Nat.le_trans (Nat.le_of_ble_eq_true h1) hn)

theorem psOk_mono {n n' : Nat} (hn : n ≤ n') : ∀ {l : List Nat}, psOk n l = true → psOk n' l = true
  | [], _ => rfl
  | p :: l, h => by
    simp only [psOk, Bool.and_eq_true] at h ⊢
    exact ⟨⟨Nat.ble_eq_true_of_le (Nat.le_trans (Nat.le_of_ble_eq_true h.1.1) hn), h.1.2⟩, psOk_mono hn h.2⟩

theorem codeOk_mono {n n' : Nat} (hn : n ≤ n') : ∀ {c : Code} {rd : Bool}, codeOk n rd c = true → codeOk n' rd c = true := by
  intro c
  induction c with
  | region id ops draw => intro rd h; exact opsOk_mono hn h
  | seq a b iha ihb => intro rd h; simp only [codeOk, Bool.and_eq_true] at h ⊢; exact ⟨iha h.1, ihb h.2⟩
  | cond c a b iha ihb => intro rd h; simp only [codeOk, Bool.and_eq_true] at h ⊢; exact ⟨iha h.1, ihb h.2⟩
  | block id a iha => intro rd h; exact iha h
  | loop a iha => intro rd h; exact iha h
  | rangeFunc f ps as bd iha ihb => intro rd h; simp only [codeOk, Bool.and_eq_true] at h ⊢; exact ⟨h.1, ⟨psOk_mono hn h.2.1.1, iha h.2.1.2⟩, ihb h.2.2⟩
  | _ => intro rd h; rfl

theorem lookup_envOf : ∀ {l : List NV} {k t : Nat} {v : NV}, lookupE (envOf k l) t = some v → k ≤ t ∧ l[t - k]? = some v
  | [], k, t, v, h => by simp [envOf, lookupE] at h
  | u :: l, k, t, v, h => by
    simp only [envOf, lookupE] at h
    split at h
    · rename_i hb
      have := Nat.eq_of_beq_eq_true hb
      subst this
      cases h
      exact ⟨Nat.le_refl _, by simp⟩
    · obtain ⟨h1, h2⟩ := lookup_envOf h
      refine ⟨by omega, ?_⟩
      rw [show t - k = (t - (k + 1)) + 1 by omega, List.getElem?_cons_succ]
      exact h2

theorem maxIdE_envOf : ∀ {l : List NV} {k : Nat}, maxIdE (envOf k l) = maxIds l
  | [], k => by simp [envOf, maxIdE, maxIds]
  | u :: l, k => by simp only [envOf, maxIdE, maxIds, mx_eq, maxIdE_envOf]

theorem callFunc_enter {f : FuncId} {fn : Func} (hf : P.funcs[f]? = some fn) (hn : fn.name ≠ "runtime.NumGoroutine") {c : Code} (hb : fn.body = some c) (xs : Array Value) (w : World) : (callFunc f xs).run P w = .ok (.enter f xs) w := by
  unfold callFunc
  simp only [Sem.run_bind, run_program, Result.andThen_ok, hf]
  have h1 : (fn.name == "runtime.NumGoroutine") = false := by simpa using hn
  simp only [h1, Bool.false_eq_true, if_false, hb, Option.isNone_some]
  rfl

/-- What the table's text of a function is. -/
theorem funB_inv (hT : TabOk T P) {f : FuncId} {fb : FB} (h : (funB T f).f = some fb) : ∃ fn c, P.funcs[f]? = some fn ∧ fn.name ≠ "runtime.NumGoroutine" ∧ fn.body = some c ∧ codeOk fn.ntmps false c = true ∧ fb = ⟨(execB T (T.keep f) c).f, fn.results.toList, (execS T (T.keep f) c).f, flatC c⟩ := by
  unfold funB at h
  split at h
  case h_2 => cases h
  rename_i fn hfn
  split at h
  case h_2 => cases h
  rename_i c hc
  split at h
  case h_2 => cases h
  rename_i hok
  cases h
  obtain ⟨h1, h2⟩ := hT.fn f fn hfn
  exact ⟨fn, c, h1, h2, hc, hok, rfl⟩

theorem frame0 {args : List NV} {xs : Array Value} (hv : VL ι I args xs.toList) (hb : maxIds args ≤ m.n) (k : Nat) (base : Option Nat) (rc : Option (Option NV)) (tk : Bool) : FR base ι I m w (envOf 0 args) ⟨[], rc, tk⟩ { tmps := xs ++ Array.replicate k undef, defers := [] } := by
  refine ⟨⟨fun t v h => ?_, by rw [maxIdE_envOf]; exact hb⟩, rfl, by simp [dsMax], by simp [marksOf]⟩
  obtain ⟨h1, h2⟩ := lookup_envOf h
  simp only [Nat.sub_zero] at h2
  obtain ⟨x, hx, hvx⟩ := VL_get hv h2
  rw [Array.getElem?_toList] at hx
  have hlt := (Array.getElem?_eq_some_iff.1 hx).1
  exact ⟨x, by rw [Array.getElem?_append_left hlt]; exact hx, hvx⟩

theorem leaveO_inv {D : CallerD} {rs : List ResultVar} {n : Nat} {out : Out} {r : CallRes} {took : Bool} (h : leaveO T D rs n (some out) = some (r, took)) :
    ∃ p cr, leaveN T D rs out.env out.fr.ds p out.mem = some cr ∧ (((out.ex = .norm ∨ out.ex = .ret) ∧ p = none) ∨ ∃ v, out.ex = .pan v ∧ p = some v) ∧ dropR n out.fr.took (some cr) = some (r, took) := by
  obtain ⟨ex, e, m, fr⟩ := out
  have go : ∀ p, dropR n fr.took (leaveN T D rs e fr.ds p m) = some (r, took) → ∃ cr, leaveN T D rs e fr.ds p m = some cr ∧ dropR n fr.took (some cr) = some (r, took) := fun p hp => by
    cases hl : leaveN T D rs e fr.ds p m with
    | none => rw [hl] at hp; cases hp
    | some cr => rw [hl] at hp; exact ⟨cr, rfl, hp⟩
  cases ex with
  | norm => obtain ⟨cr, h1, h2⟩ := go none h; exact ⟨none, cr, h1, .inl ⟨.inl rfl, rfl⟩, h2⟩
  | ret => obtain ⟨cr, h1, h2⟩ := go none h; exact ⟨none, cr, h1, .inl ⟨.inr rfl, rfl⟩, h2⟩
  | pan v => obtain ⟨cr, h1, h2⟩ := go (some v) h; exact ⟨some v, cr, h1, .inr ⟨v, rfl, rfl⟩, h2⟩
  | exit i => cases h

theorem dropR_sound {ι0 : Iota} {I0 : Imm} {m0 : Mem} {w0 : World} {cr r : CallRes} {t t' : Bool} (h : dropR m0.n t (some cr) = some (r, t')) {e : Ending} {w' : World} (hc : CR ι0 I0 m0 w0 cr e w') : CR ι0 I0 m0 w0 r e w' := by
  cases cr with
  | ret v m =>
    simp only [dropR, Option.some.injEq, Prod.mk.injEq] at h
    obtain ⟨rfl, _⟩ := h
    cases e with
    | returned x =>
      obtain ⟨ι', I', q1, q2, q3, q4⟩ := hc
      obtain ⟨k1, k2, k3⟩ := drop_sound q3 q4 q2
      exact ⟨ι', I', q1, k3, k1, k2⟩
    | panicked c => exact hc.elim
    | outgrown => exact hc.elim
  | pan v m =>
    simp only [dropR, Option.some.injEq, Prod.mk.injEq] at h
    obtain ⟨rfl, _⟩ := h
    cases e with
    | returned x => exact hc.elim
    | panicked c =>
      obtain ⟨x, ι', I', rfl, q1, q2, q3, q4⟩ := hc
      obtain ⟨k1, k2, k3⟩ := drop_sound q3 q4 q2
      exact ⟨x, ι', I', rfl, q1, k3, k1, k2⟩
    | outgrown => exact hc.elim

theorem wide_WF : WF Fence.wide := ⟨fun _ => trivial, rfl, rfl⟩

theorem stepF_sound (hT : TabOk T P) (hDr : DrawOk T P) (hRg : RangeOk T P) {L : Lv} (hC : CallOk T P L.ctx.C) (hN : EnterOk T P L.ctx.C) (hY : YieldOk T P L.ctx.Y) (hD : DeferOk T P L.F) {f : FuncId} {args : List NV} {r : CallRes} {took : Bool} (h : stepF T L none f args m = some (r, took))
    {xs : Array Value} (hG : GlobOk T I) (hR : R ι I m w) (hv : VL ι I args xs.toList) (hb : maxIds args ≤ m.n) : (callFunc f xs).run P w = .ok (.enter f xs) w ∧ Calls P f xs w (CR ι I m w r) := by
  unfold stepF at h
  split at h
  case h_2 => cases h
  rename_i fb hfb
  obtain ⟨fn, c, hf, hname, hbody, hok, rfl⟩ := funB_inv hT hfb
  refine ⟨callFunc_enter hf hname hbody xs w, ?_⟩
  simp only at h
  cases hr : (execB T (T.keep f) c).f L.ctx (envOf 0 args) m ⟨[], none, false⟩ with
  | none => rw [hr] at h; cases h
  | some out =>
    rw [hr] at h
    obtain ⟨p, cr, hl, hp, hdr⟩ := leaveO_inv h
    have hsz : (xs ++ Array.replicate (fn.ntmps - xs.size) undef).size ≥ fn.ntmps := by simp; omega
    refine ((callsIn_wide (n := 0)).1 (callsIn_of_wp_marks (R := CR ι I m w cr) hf hbody trivial ?_)).mono fun e w' he => dropR_sound hdr he
    refine execB_sound (n := 0) (base := some w.heap.size) (size := (xs ++ Array.replicate (fn.ntmps - xs.size) undef).size) hT hDr hRg hC hN hY wide_WF (.inl rfl) c (codeOk_mono hsz hok) hG hR (frame0 hv hb _ _ none false) rfl rfl (.inr ⟨_, rfl, Nat.le_refl _⟩) hr ?_
    intro a' w' ι' I' ex q1 q2 q3 q4 q5
    have fin : ∀ (u : FrameMode), ModeR ι' I' out.mem p u → LeavesInM Fence.wide 0 P fn a'.tmps (CR ι I m w cr) a'.defers u w' := fun u hm =>
      leaveN_sound (n := 0) hT hD wide_WF rfl hG a'.defers q1 q3 q2.env q2.ds q2.nod q2.bnd hm hl
    rcases hp with ⟨h1 | h1, rfl⟩ | ⟨v, h1, rfl⟩
    · rw [h1] at q5
      simp only [ExR] at q5; subst q5
      exact fin .returning rfl
    · rw [h1] at q5
      simp only [ExR] at q5; subst q5
      exact fin .returning rfl
    · rw [h1] at q5
      obtain ⟨x, rfl, e1, e2⟩ := q5
      exact fin _ ⟨x, rfl, e1, e2⟩

end Go.Kn

namespace Go.Kn

variable {T : Tab} {P : Program} {ι ι' : Iota} {I I' : Imm} {m m' : Mem} {w w' : World}

/-- A block of the model's that the evaluator has none for. -/
theorem R.alloc (hR : R ι I m w) (ob : Obj) : R ι I m (w.alloc ob) ∧ Ext ι I m w ι I m (w.alloc ob) := by
  constructor
  · refine ⟨hR.len, fun cb k x hx => ?_, fun b o hb => ?_, hR.inj, hR.apart, hR.bnd⟩
    · have := hR.imm cb k x hx
      rw [World.cell?_of_block (w := w) (w' := w.alloc ob) (a := ⟨cb, k, none⟩) (World.heap_alloc_lt w ob (imm_lt this))]
      exact this
    · by_cases hl : o.live = true
      · exact BR_world (by simp) (World.heap_alloc_lt w ob (BR_lt hl (hR.blk b o hb))) (hR.blk b o hb)
      · cases o <;> first | trivial | exact absurd rfl hl
  · exact ⟨fun _ _ => rfl, Nat.le_refl _, fun _ _ _ h => h, by simp, fun k hk _ => World.heap_alloc_lt w ob hk, fun b o hb hl => .inr ⟨b, o, hb, hl, rfl⟩, rfl, rfl, rfl, fun _ o x h => .inr (.inl ⟨o, x, h⟩)⟩

theorem DL.all {mk : Nat → Prop} : ∀ {r : List Deferred} {ds : List (NV × List NV)}, DL ι I mk ds r → ∀ k ∈ marksOf r, mk k
  | [], ds, h, k, hk => by simp [marksOf] at hk
  | d :: r, ds, h, k, hk => by
    rcases h with ⟨j, h1, h2, h3⟩ | ⟨f, args, ds', rfl, h2, h3⟩
    · simp only [marksOf, List.filterMap_cons, h1] at hk
      rcases List.mem_cons.1 hk with rfl | hk
      · exact h2
      · exact DL.all h3 k hk
    · obtain ⟨g, first, cap, cx, _, ht, _⟩ := h2
      simp only [marksOf, List.filterMap_cons, ht] at hk
      exact DL.all h3 k hk

theorem rangeOk : RangeOk T P := by
  intro X hN F hF hro n base size f ps as bd Q hps hco hcb ι I m w e fr a out fv hG hR hfr hsz hrc hbs hfv h hP
  unfold rangeN at h
  split at h
  case h_2 => cases h
  rename_i g first cap
  obtain ⟨h3, h4⟩ := rho_sound (a := a) hG hfr.env hfv
  simp only [V, fnI] at h3
  obtain ⟨ax, cx, hfx, hax, hcx⟩ := h3
  rw [maxIds_fn] at h4
  refine wpIn_rangeFunc fun fn hfn => ?_
  obtain ⟨hR1, hE1⟩ := R.alloc hR (.deferred (some []))
  have hR2 := R.push hR1 (.loop e ps.toList as bd none) (.loop { state := .ready, pending := none, fn, tmps := a.tmps, params := ps, assign := as, body := bd, defers := w.heap.size }) ⟨w.heap.size + 1, 0, 0, 0⟩ (by simp) rfl hfr.env.bnd
    ⟨fn, a.tmps, w.heap.size, by
      have := World.alloc_heap_new (w.alloc (.deferred (some []))) (.loop { state := .ready, pending := none, fn, tmps := a.tmps, params := ps, assign := as, body := bd, defers := w.heap.size })
      simpa using this, EnvR_congr (fun _ _ _ h => h) (fun b hb => upd_lt _ _ (Nat.lt_of_lt_of_le hb hfr.env.bnd)) hfr.env.rel, by rw [hsz]; exact hps, by rw [hsz]; exact hco, by rw [hsz]; exact hcb⟩
  obtain ⟨hR2, hE2⟩ := hR2
  have hE12 := hE1.trans hE2
  generalize hw2 : (w.alloc (.deferred (some []))).alloc (.loop { state := .ready, pending := none, fn, tmps := a.tmps, params := ps, assign := as, body := bd, defers := w.heap.size }) = w2 at hR2 hE2 hE12
  have hyv : V (upd ι m.n ⟨w.heap.size + 1, 0, 0, 0⟩) I (.fn (.yield m.n) [] []) (.func (.yield (w.heap.size + 1)) #[] #[]) := by
    simp only [V, fnI, upd_same]
    exact ⟨#[], #[], rfl, by simp [VL], by simp [VL]⟩
  have hpn : (m.push (.loop e ps.toList as bd none)).n = m.n + 1 := rfl
  cases hcall : X.C g (first ++ [.fn (.yield m.n) [] []] ++ cap) (m.push (.loop e ps.toList as bd none)) with
  | none => rw [hcall] at h; cases h
  | some r =>
    rw [hcall] at h
    obtain ⟨c1, c2⟩ := hN g _ _ r hcall (upd ι m.n ⟨w.heap.size + 1, 0, 0, 0⟩) I w2 (ax ++ #[.func (.yield (w.heap.size + 1)) #[] #[]] ++ cx) (hG.mono hE12.imm) hR2
      (by simp only [Array.toList_append]; exact VL_append (VL_append (hE12.VL (by omega) hax) (VL_cons.2 ⟨hyv, by simp [VL]⟩)) (hE12.VL (by omega) hcx))
      (by rw [maxIds_append, maxIds_append, hpn]; simp only [maxIds, maxId, mx_eq]; omega)
    have hid : Hid base (upd ι m.n ⟨w.heap.size + 1, 0, 0, 0⟩) (m.push (.loop e ps.toList as bd none)) w2 w.heap.size := by
      refine ⟨hbs, by rw [← hw2]; simp; omega, ?_, fun b o hb hl he => ?_⟩
      · rw [← hw2, World.heap_alloc_lt _ _ (by simp)]
        exact World.alloc_heap_new w _
      · rw [Mem.get_push] at hb
        split at hb
        · rename_i hbn; subst hbn; rw [upd_same] at he; simp at he
        · rw [upd_lt _ _ (Mem.get_lt hb)] at he
          have := BR_lt hl (hR.blk b o hb)
          omega
    have hnod : (marksOf ({ target := .collected w.heap.size, args := #[] } :: a.defers)).Nodup := by
      have e1 : marksOf ({ target := .collected w.heap.size, args := #[] } :: a.defers) = w.heap.size :: marksOf a.defers := rfl
      rw [e1, List.nodup_cons]
      exact ⟨fun hm => Nat.lt_irrefl _ (DL.all hfr.ds _ hm).lt, hfr.nod⟩
    have hfr' : ∀ {ι' I' m' w'}, Ext (upd ι m.n ⟨w.heap.size + 1, 0, 0, 0⟩) I (m.push (.loop e ps.toList as bd none)) w2 ι' I' m' w' → FR base ι' I' m' w' e fr { a with defers := [{ target := .collected w.heap.size, args := #[] }] ++ a.defers } := fun {ι' I' m' w'} x =>
      ⟨hfr.env.ext (hE12.trans x), .inl ⟨_, rfl, hid.ext x, DL.ext (fun _ hk => hk.ext (hE12.trans x)) (hE12.trans x) hfr.bnd hfr.ds⟩, Nat.le_trans hfr.bnd (hE12.trans x).n, hnod⟩
    generalize hys : ax ++ #[.func (.yield (w.heap.size + 1)) #[] #[]] = ys at c1 c2
    have hinv : (invoke (.fn (.func g) cx) ys).run P w2 = .ok (.enter g (ys ++ cx)) w2 := c1
    have hent : (Instr.enterLoop fn a.tmps ps as bd F.round).run P w = .ok (w.heap.size + 1, [{ target := .collected w.heap.size, args := #[] }]) w2 := by
      rw [hro, run_enterLoop_outer, hw2]
    have hres : (resolve a.eval (rangeCall f (w.heap.size + 1)) 0).run P w2 = .ok { target := .fn (.func g) cx, args := ys } w2 := by
      have hcv : ∀ v, a.eval (.const v) = v := fun _ => rfl
      rw [← hys]
      simp [resolve, rangeCall, hfx, Deferred.ofValue, hcv]
    have hpost : ∀ en w3, CR (upd ι m.n ⟨w.heap.size + 1, 0, 0, 0⟩) I (m.push (.loop e ps.toList as bd none)) w2 r en w3 → rangePost F n P (w.heap.size + 1) Q { a with defers := [{ target := .collected w.heap.size, args := #[] }] ++ a.defers } en w3 := by
      intro en w3 he
      cases r with
      | ret v m' =>
        cases en with
        | panicked c => exact he.elim
        | outgrown => exact he.elim
        | returned x =>
          obtain ⟨ι', I', q1, q2, q3, q4⟩ := he
          simp only at h
          unfold endLoopN at h
          split at h
          case h_2 => cases h
          rename_i e' ps' as' bd' pend hg
          have hloc : ι' m.n = ⟨w.heap.size + 1, 0, 0, 0⟩ := by rw [q4.iota m.n (by rw [hpn]; omega), upd_same]
          obtain ⟨f1, t1, d1, hb1, _⟩ := q3.blk m.n _ hg
          rw [hloc] at hb1
          have hend := run_endLoop (P := P) hb1 (by cases pend <;> simp)
          have hset := R.setObj q3 hg rfl 0 (o := .dead) (ob := .loop { state := .exhausted, pending := pend, fn := f1, tmps := t1, params := ps'.toArray, assign := as', body := bd', defers := d1 }) (by simp [mbMax]) (by omega) (fun _ _ => trivial)
          rw [note_zero, hloc] at hset
          obtain ⟨s1, s2⟩ := hset
          have hfin := hfr' (q4.trans s2)
          have hext := (hE12.trans q4).trans s2
          refine ⟨pend, _, hend, ?_⟩
          split at h
          · cases h
            exact hP _ _ _ _ .normal s1 hfin hext hsz rfl
          · rename_i id
            cases h
            exact wpIn_exit (hP _ _ _ _ (.exit id) s1 hfin hext hsz rfl)
          · cases h
            exact wpIn_ret (hP _ _ _ _ .ret s1 hfin hext hsz rfl)
          · cases h
      | pan v m' =>
        cases en with
        | returned x => exact he.elim
        | outgrown => exact he.elim
        | panicked c =>
          obtain ⟨x, ι', I', rfl, q1, q2, q3, q4⟩ := he
          simp only [Option.some.injEq] at h; subst h
          exact hP _ _ _ _ _ q3 (hfr' q4) (hE12.trans q4) hsz ⟨x, rfl, q1, q2⟩
    exact ⟨w.heap.size + 1, [{ target := .collected w.heap.size, args := #[] }], w2, { target := .fn (.func g) cx, args := ys }, w2, g, ys ++ cx, w2, hent, hres, fun f' _ => hF.fn f', hinv, fun e => (by rw [hF.depth] at e; cases e), hF.callsIn (c2.mono hpost)⟩

end Go.Kn

namespace Go.Kn

variable {T : Tab} {P : Program} {ι ι' : Iota} {I I' : Imm} {m m' : Mem} {w w' : World}

theorem maxE_eq : ∀ e : Env, maxE e = maxIdE e
  | [] => rfl
  | (_, v) :: l => by simp only [maxE, maxIdE, mx_eq, maxE_eq l]

/-- A loop's block comes back. -/
theorem R.revive (hR : R ι I m w) {l : Nat} (hl : l < m.n) (hdead : ∀ o, m.get l = some o → o.live = false) {o : MB} {ob : Obj} (hlt : (ι l).cb < w.heap.size) (hfree : ∀ b o', m.get b = some o' → o'.live = true → (ι b).cb ≠ (ι l).cb)
    (hI : ∀ k, I (ι l).cb k = none) {j : Nat} (hb : mbMax o ≤ j) (hj : j ≤ m.n) (hB : ∀ w' : World, w'.heap[(ι l).cb]? = some ob → BR ι I w' (ι l) o) :
    R ι I ((m.put l o).note l j) (w.putObj (ι l).cb ob) := by
  have hother : ∀ k, k ≠ (ι l).cb → (w.putObj (ι l).cb ob).heap[k]? = w.heap[k]? := fun k hk => World.putObj_heap_other hk
  have hget : ∀ b', ((m.put l o).note l j).get b' = if b' = l then some o else m.get b' := fun b' => by rw [Mem.get_note, Mem.get_put hR.len hl]
  have hnn : ((m.put l o).note l j).n = m.n := by rw [Mem.n_note]; rfl
  refine ⟨?_, fun cb k x hx => ?_, fun b' o' hg' => ?_, fun b1 b2 o1 o2 h1 h2 l1 l2 e => ?_, fun b' o' hg' hl' k => ?_, fun b' o' hg' => ?_⟩
  · rw [Mem.bs_note, Mem.n_note]; simp [Mem.put, setNth_eq, hR.len]
  · have hx' := hR.imm cb k x hx
    have hne : cb ≠ (ι l).cb := fun e => by rw [e, hI k] at hx; cases hx
    rw [World.cell?_of_block (w := w) (w' := w.putObj (ι l).cb ob) (a := ⟨cb, k, none⟩) (hother cb hne)]
    exact hx'
  · rw [hget] at hg'
    split at hg'
    · rename_i e; subst e; cases hg'; exact hB _ (World.putObj_heap_same hlt)
    · by_cases hl' : o'.live = true
      · exact BR_world (by simp) (hother _ (hfree b' o' hg' hl')) (hR.blk b' o' hg')
      · cases o' <;> first | trivial | exact absurd rfl hl'
  · rw [hget] at h1 h2
    split at h1 <;> split at h2
    · rename_i e1 e2; rw [e1, e2]
    · rename_i e1 e2; subst e1; exact absurd e.symm (hfree b2 o2 h2 l2)
    · rename_i e1 e2; subst e2; exact absurd e (hfree b1 o1 h1 l1)
    · exact hR.inj b1 b2 o1 o2 h1 h2 l1 l2 e
  · rw [hget] at hg'
    split at hg'
    · rename_i e; subst e; exact hI k
    · exact hR.apart b' o' hg' hl' k
  · rw [hnn]
    rw [hget] at hg'
    have h3 := Mem.escMax_note (m.put l o) l j b'
    have h4 : (m.put l o).esc = m.esc := rfl
    rw [h4] at h3
    split at hg'
    · rename_i e; subst e; cases hg'
      have h2 := Mem.note_le (m.put b' o) b' j
      omega
    · have h1 := hR.bnd b' o' hg'
      omega

theorem notIn_ne {p : Nat} : ∀ {l : List Nat}, notIn p l = true → ∀ q ∈ l, p ≠ q
  | [], _, q, hq => by cases hq
  | r :: l, h, q, hq => by
    simp only [notIn, Bool.and_eq_true, Bool.not_eq_true'] at h
    rcases List.mem_cons.1 hq with rfl | hq
    · rintro rfl; have h1 := h.1; simp at h1
    · exact notIn_ne h.2 q hq

theorem set_comm (t : Array Value) {p q : Nat} (h : p ≠ q) (x y : Value) : (t.setIfInBounds p x).setIfInBounds q y = (t.setIfInBounds q y).setIfInBounds p x := by
  apply Array.ext_getElem?
  intro i
  simp only [Array.getElem?_setIfInBounds, Array.size_setIfInBounds]
  by_cases h1 : q = i <;> by_cases h2 : p = i
  · exact absurd (h2.trans h1.symm) h
  · simp [h1, h2]
  · simp [h1, h2]
  · simp [h1, h2]

theorem fold_set {p : Nat} {x : Value} : ∀ {ps : List Nat} {xs : List Value} {t : Array Value}, (∀ q ∈ ps, p ≠ q) →
    (ps.zip xs).foldl (fun (t : Array Value) (p : Nat × Value) => t.setIfInBounds p.1 p.2) (t.setIfInBounds p x) = ((ps.zip xs).foldl (fun (t : Array Value) (p : Nat × Value) => t.setIfInBounds p.1 p.2) t).setIfInBounds p x
  | [], xs, t, _ => by simp
  | q :: ps, [], t, _ => by simp
  | q :: ps, y :: xs, t, h => by
    simp only [List.zip_cons_cons, List.foldl_cons]
    rw [set_comm t (h q (by simp)), fold_set fun r hr => h r (by simp [hr])]

/-- Parameters' values, in the frame's variables. -/
theorem zip_sound {n : Nat} : ∀ {ps : List Nat} {vs : List NV} {e e' : Env} {xs : List Value} {tmps : Array Value}, psOk n ps = true → tmps.size = n → zipE ps vs e = some e' → VL ι I vs xs → EnvR ι I e tmps →
    EnvR ι I e' ((ps.zip xs).foldl (fun (t : Array Value) (p : Nat × Value) => t.setIfInBounds p.1 p.2) tmps) ∧ ps.length = vs.length ∧ maxIdE e' ≤ max (maxIdE e) (maxIds vs) ∧
      ((ps.zip xs).foldl (fun (t : Array Value) (p : Nat × Value) => t.setIfInBounds p.1 p.2) tmps).size = n
  | [], [], e, e', xs, tmps, hp, hs, h, hv, hE => by
    simp only [zipE, Option.some.injEq] at h; subst h
    simp only [VL] at hv; subst hv
    exact ⟨hE, rfl, by omega, hs⟩
  | p :: ps, v :: vs, e, e', xs, tmps, hp, hs, h, hv, hE => by
    simp only [zipE] at h
    split at h
    case h_2 => cases h
    rename_i r hr
    cases h
    simp only [VL] at hv
    obtain ⟨x, s, rfl, hvx, hvs⟩ := hv
    simp only [psOk, Bool.and_eq_true] at hp
    have hpn : p < n := Nat.le_of_ble_eq_true hp.1.1
    obtain ⟨h1, h2, h3, h4⟩ := zip_sound hp.2 hs hr hvs hE
    simp only [List.zip_cons_cons, List.foldl_cons]
    rw [fold_set (notIn_ne hp.1.2)]
    refine ⟨fun t u hu => ?_, by simp [h2], by simp only [maxIdE, maxIds, mx_eq]; omega, by simpa using h4⟩
    simp only [lookupE] at hu
    simp only [Array.getElem?_setIfInBounds]
    split at hu
    · rename_i hb
      have := Nat.eq_of_beq_eq_true hb
      subst this
      cases hu
      exact ⟨x, by simp [h4, hpn], hvx⟩
    · rename_i hb
      have hne : p ≠ t := fun e => by subst e; simp at hb
      rw [if_neg hne]
      exact h1 t u hu
  | [], _ :: _, e, e', xs, tmps, hp, hs, h, hv, hE => by simp [zipE] at h
  | _ :: _, [], e, e', xs, tmps, hp, hs, h, hv, hE => by simp [zipE] at h

end Go.Kn

namespace Go.Kn

variable {T : Tab} {P : Program} {ι ι' : Iota} {I I' : Imm} {m m' : Mem} {w w' : World}

theorem roundO_inv {l : Nat} {e0 : Env} {ps : List Nat} {as bd : Code} {o : Option Out} {r : CallRes} (h : roundO l e0 ps as bd o = some r) :
    ∃ out j b, o = some out ∧ ((out.ex = .norm ∧ j = none) ∨ (∃ id, out.ex = .exit id ∧ j = some (.exit id)) ∨ (out.ex = .ret ∧ j = some .ret)) ∧ b = j.isNone ∧ r = .ret (.bool b) ((out.mem.put l (.loop e0 ps as bd j)).note l (maxE e0)) := by
  unfold roundO at h
  split at h
  case h_2 => cases h
  rename_i ex e m fr
  split at h
  case h_2 => cases h
  split at h
  · cases h; exact ⟨_, none, true, rfl, .inl ⟨rfl, rfl⟩, rfl, rfl⟩
  · rename_i id; cases h; exact ⟨_, some (.exit id), false, rfl, .inr (.inl ⟨id, rfl, rfl⟩), rfl, rfl⟩
  · cases h; exact ⟨_, some .ret, false, rfl, .inr (.inr ⟨rfl, rfl⟩), rfl, rfl⟩
  · cases h

theorem stepY_sound (hT : TabOk T P) (hDr : DrawOk T P) (hRg : RangeOk T P) {L : Lv} (hC : CallOk T P L.ctx.C) (hN : EnterOk T P L.ctx.C) (hY : YieldOk T P L.ctx.Y) : YieldOk T P (stepY T L) := by
  intro l args m r h ι I w xs F n hF hG hR hl hv hb
  unfold stepY at h
  split at h
  case h_2 => cases h
  rename_i e ps as bd hg
  split at h
  case h_2 => cases h
  rename_i e' he'
  obtain ⟨f1, t1, d1, hb1, hE, hps, hco, hcb⟩ := hR.blk l _ hg
  obtain ⟨z1, z2, z3, z4⟩ := zip_sound hps rfl he' hv hE
  have hlen := VL_length hv
  have hcl := BR_lt rfl (hR.blk l _ hg)
  have hfold : ((ps.toArray.zip xs).foldl (fun tmps (x : Tmp × Value) => match x with | (t, a) => tmps.setIfInBounds t a) t1) = (ps.zip xs.toList).foldl (fun (t : Array Value) (p : Nat × Value) => t.setIfInBounds p.1 p.2) t1 := by
    rw [← Array.foldl_toList, Array.toList_zip]
  refine ⟨f1, _, as, bd, run_yield hb1 (by simp at hlen ⊢; omega), ?_⟩
  refine roundIn_of_wpIn (hF.fn f1) ?_
  simp only
  have hbE : maxIdE e ≤ m.n := (hR.bnd l _ hg).1
  unfold bodyY at h
  split at h
  case h_2 => cases h
  rename_i e1 m1 fr1 hr1
  split at h
  case h_2 => cases h
  rename_i e0 ps0 as0 bd0 hg1
  obtain ⟨out2, j, b, hr2, hex, hjb, rfl⟩ := roundO_inv h
  have hWF : WF (F.inRound (ι l).cb) := ⟨hF.fn, hF.depth, hF.alive⟩
  have hfr0 : FR (some 0) ι I m w e' ⟨[], none, false⟩ { tmps := (ps.zip xs.toList).foldl (fun (t : Array Value) (p : Nat × Value) => t.setIfInBounds p.1 p.2) t1, defers := [] } :=
    ⟨⟨z1, by omega⟩, rfl, by simp [dsMax], by simp [marksOf]⟩
  have hasg := execB_sound (F := F.inRound (ι l).cb) (n := n) (rd := true) (base := some 0) (size := t1.size) (keep := allOnes) hT hDr hRg hC hN hY hWF (.inr rfl) as hco
    (Q := Exit.then (fun a₁ w₁ => ∃ w₂, (Instr.beginRound (ι l).cb).run P w₁ = .ok () w₂ ∧ bd.wpIn (F.inRound (ι l).cb) n P (roundPost P (ι l).cb (CR ι I m w (.ret (.bool b) ((out2.mem.put l (.loop e0 ps0 as0 bd0 j)).note l (maxE e0))))) a₁ w₂) (fun _ _ _ => False))
    hG hR hfr0 z4 rfl (.inr ⟨0, rfl, Nat.zero_le _⟩) hr1 ?_
  · rw [← hfold] at hasg; exact hasg
  intro a1 w1 ι1 I1 ex q1 q2 q3 q4 q5
  simp only [ExR] at q5; subst q5
  have hι1 : ι1 l = ι l := q3.iota l hl
  have hl1 : l < m1.n := Nat.lt_of_lt_of_le hl q3.n
  obtain ⟨f2, t2, d2, hb2, hE2, hps2, hco2, hcb2⟩ := q1.blk l _ hg1
  rw [hι1] at hb2
  refine ⟨_, run_beginRound hb2 rfl, ?_⟩
  have hset := R.setObj q1 hg1 rfl 0 (o := .dead) (ob := .loop { state := .busy, pending := none, fn := f2, tmps := t2, params := ps0.toArray, assign := as0, body := bd0, defers := d2 }) (by simp [mbMax]) (by omega) (fun _ _ => trivial)
  rw [note_zero, hι1] at hset
  obtain ⟨s1, s2⟩ := hset
  have hrc1 := execB_rc (T := T) (keep := allOnes) rfl hr1
  have hcb1 : (ι l).cb < w1.heap.size := Nat.lt_of_lt_of_le hcl q3.size
  refine execB_sound (F := F.inRound (ι l).cb) (n := n) (rd := true) (base := some 0) (size := t1.size) (keep := allOnes) hT hDr hRg hC hN hY hWF (.inr rfl) bd hcb ((hG.mono q3.imm).mono s2.imm) s1 (q2.ext s2) q4 hrc1 (.inr ⟨0, rfl, Nat.zero_le _⟩) hr2 ?_
  intro a3 w3 ι3 I3 ex3 p1 p2 p3 p4 p5
  have hι3 : ι3 l = ι l := (p3.iota l (by simpa [Mem.put] using hl1)).trans hι1
  have hl3 : l < out2.mem.n := Nat.lt_of_lt_of_le (by simpa [Mem.put] using hl1) p3.n
  have hget1 : ∀ b', (m1.put l .dead).get b' = if b' = l then some .dead else m1.get b' := fun b' => Mem.get_put q1.len hl1 _ b'
  have hfree1 : ∀ b' o', (m1.put l .dead).get b' = some o' → o'.live = true → (ι1 b').cb ≠ (ι l).cb := fun b' o' hb' hl' he => by
    rw [hget1] at hb'
    split at hb'
    · cases hb'; cases hl'
    · rename_i hne
      exact hne (q1.inj b' l o' _ hb' hg1 hl' rfl (by rw [he, hι1]))
  have hb3 : w3.heap[(ι l).cb]? = some (.loop { state := .busy, pending := none, fn := f2, tmps := t2, params := ps0.toArray, assign := as0, body := bd0, defers := d2 }) := by
    rw [p3.frame (ι l).cb (by simpa using hcb1) hfree1]
    exact World.putObj_heap_same hcb1
  have hend := fun jump => run_endRound (P := P) jump hb3
  have hfree3 : ∀ b' o', out2.mem.get b' = some o' → o'.live = true → (ι3 b').cb ≠ (ι3 l).cb := fun b' o' hb' hl' he => by
    rw [hι3] at he
    rcases p3.foot b' o' hb' hl' with h1 | ⟨b0, o0, h1, h2, h3⟩
    · have : (w1.putObj (ι l).cb (.loop { state := .busy, pending := none, fn := f2, tmps := t2, params := ps0.toArray, assign := as0, body := bd0, defers := d2 })).heap.size = w1.heap.size := by simp
      have h1' : w1.heap.size ≤ (ι3 b').cb := by rw [← this]; exact h1
      omega
    · exact hfree1 b0 o0 h1 h2 (h3.trans he)
  have hdead3 : ∀ o, out2.mem.get l = some o → o.live = false := fun o ho => by
    cases hlv : o.live with
    | false => rfl
    | true => exact absurd rfl (hfree3 l o ho hlv)
  have hI3 : ∀ k, I3 (ι3 l).cb k = none := fun k => by
    rw [hι3]
    cases hI : I3 (ι l).cb k with
    | none => rfl
    | some x =>
      have := p1.imm _ _ _ hI
      unfold World.cell? at this
      simp only [hb3] at this
      cases this
  have hb0 : maxIdE e0 ≤ out2.mem.n := Nat.le_trans (q1.bnd l _ hg1).1 (by have := p3.n; simpa [Mem.put] using this)
  have hxall := (q3.trans s2).trans p3
  have hrev := fun (ob : Obj) (hob : ∀ w' : World, w'.heap[(ι3 l).cb]? = some ob → BR ι3 I3 w' (ι3 l) (.loop e0 ps0 as0 bd0 j)) => R.revive p1 hl3 hdead3 (o := .loop e0 ps0 as0 bd0 j) (ob := ob) (j := maxE e0) (by rw [hι3]; exact (Array.getElem?_eq_some_iff.1 hb3).1) hfree3 hI3 (by simp only [mbMax]; rw [maxE_eq]; exact Nat.le_refl _) (by rw [maxE_eq]; exact hb0) hob
  have hbr : ∀ w' : World, w'.heap[(ι3 l).cb]? = some (.loop { state := if j.isNone then .ready else .done, pending := j, fn := f2, tmps := t2, params := ps0.toArray, assign := as0, body := bd0, defers := d2 }) → BR ι3 I3 w' (ι3 l) (.loop e0 ps0 as0 bd0 j) := fun w' hw' =>
    ⟨f2, t2, d2, hw', EnvR_congr (s2.trans p3).imm (fun b hb => (s2.trans p3).iota b (Nat.lt_of_lt_of_le hb (q1.bnd l _ hg1).1)) hE2, hps2, hco2, hcb2⟩
  have hfin : CR ι I m w (.ret (.bool b) ((out2.mem.put l (.loop e0 ps0 as0 bd0 j)).note l (maxE e0))) (.returned (.bool j.isNone)) (w3.putObj (ι l).cb (.loop { state := if j.isNone then .ready else .done, pending := j, fn := f2, tmps := t2, params := ps0.toArray, assign := as0, body := bd0, defers := d2 })) := by
    refine ⟨ι3, I3, by simp [V, hjb], by simp [maxId], ?_, ?_⟩
    · have := hrev _ hbr
      rw [hι3] at this
      exact this
    · refine ⟨hxall.iota, ?_, hxall.imm, by simpa using hxall.size, fun k hk hf => ?_, fun b' o' hb' hl' => ?_, hxall.os, hxall.output, hxall.tape, hxall.ifoot⟩
      · rw [Mem.n_note]; exact hxall.n
      · rw [World.putObj_heap_other (fun e => hf l _ hg rfl e.symm)]
        exact hxall.frame k hk hf
      · rw [Mem.get_note, Mem.get_put p1.len hl3] at hb'
        split at hb'
        · rename_i e; subst e; exact .inr ⟨b', _, hg, rfl, by rw [hι3]⟩
        · exact hxall.foot b' o' hb' hl'
  rcases hex with ⟨x1, rfl⟩ | ⟨id, x1, rfl⟩ | ⟨x1, rfl⟩
  · rw [x1] at p5; simp only [ExR] at p5; subst p5
    exact ⟨_, _, hend none, hfin⟩
  · rw [x1] at p5; simp only [ExR] at p5; subst p5
    exact ⟨_, _, hend (some (.exit id)), hfin⟩
  · rw [x1] at p5; simp only [ExR] at p5; subst p5
    exact ⟨_, _, hend (some .ret), hfin⟩

end Go.Kn

namespace Go.Kn

variable {T : Tab} {P : Program} {ι ι' : Iota} {I I' : Imm} {m m' : Mem} {w w' : World}

/-- The mode of the frame that called the deferred function: as it was, or recovered. -/
def SM (p0 : Option NV) (u : FrameMode) (p : Option NV) (t : Bool) (u' : FrameMode) : Prop :=
  (t = false ∧ p = p0 ∧ u' = u) ∨ (t = true ∧ p = none ∧ ∃ v x, p0 = some v ∧ u = .panicking [{ v := x, recovered := false }] ∧ u' = .panicking [{ v := x, recovered := true }])

/-- What is asked at the end of a deferred function's code. -/
def PostS (size : Nat) (ι : Iota) (I : Imm) (m : Mem) (w : World) (p0 : Option NV) (u : FrameMode) (c0 : Frame) (cs : List Frame) (Q : Exit → Act → List Frame → World → Prop) (out : OutS) : Prop :=
  ∀ a' w' ι' I' ex u', R ι' I' out.mem w' → FR none ι' I' out.mem w' out.env ⟨[], none, false⟩ a' → Ext ι I m w ι' I' out.mem w' → a'.tmps.size = size → ExR ι' I' out.mem out.ex ex → SM p0 u out.p out.took u' → Q ex a' ({ c0 with mode := u' } :: cs) w'

theorem SM.settle {p0 p : Option NV} {u u' : FrameMode} {t : Bool} (hm : ModeR ι I m p0 u) (h : SM p0 u p t u') : Go.settle u' = if t then .returning else u := by
  rcases h with ⟨rfl, _, rfl⟩ | ⟨rfl, _, v, x, _, _, rfl⟩
  · exact hm.settle
  · rfl

theorem recoverD_sm {p0 p : Option NV} {u u' : FrameMode} {t : Bool} {c0 : Frame} {cs : List Frame} (hm : ModeR ι I m p0 u) (h : SM p0 u p t u') :
    match p with
    | some v => ∃ x u'', recoverD ({ c0 with mode := u' } :: cs) = some (x, { c0 with mode := u'' } :: cs) ∧ V ι I v x ∧ maxId v ≤ m.n ∧ SM p0 u none true u''
    | none => recoverD ({ c0 with mode := u' } :: cs) = none := by
  rcases h with ⟨rfl, rfl, rfl⟩ | ⟨rfl, rfl, v, x, rfl, rfl, rfl⟩
  · cases p with
    | none => simp only [ModeR] at hm; subst hm; simp [recoverD]
    | some v =>
      obtain ⟨x, rfl, h1, h2⟩ := hm
      exact ⟨x, .panicking [{ v := x, recovered := true }], by simp [recoverD], h1, h2, .inr ⟨rfl, rfl, v, x, rfl, rfl, rfl⟩⟩
  · simp [recoverD]

theorem PostS.ext {size : Nat} {p0 : Option NV} {u : FrameMode} {c0 : Frame} {cs : List Frame} {Q : Exit → Act → List Frame → World → Prop} {out : OutS} (h : PostS size ι I m w p0 u c0 cs Q out) (x : Ext ι I m w ι' I' m' w') : PostS size ι' I' m' w' p0 u c0 cs Q out :=
  fun a' w'' ι'' I'' ex u' h1 h2 h3 h4 h5 h6 => h a' w'' ι'' I'' ex u' h1 h2 (x.trans h3) h4 h5 h6

theorem opsS_sound (hT : TabOk T P) {X : Ctx} {F : Fence} (hF : WF F) {n size : Nat} {ops : Array Oper} {p0 : Option NV} {u : FrameMode} {c0 : Frame} {cs : List Frame} {Q : Exit → Act → List Frame → World → Prop} (hdst : ∀ o ∈ ops.toList, ∀ d, o.dst = some d → d < size) :
    ∀ (rest : List Oper) (k : Nat), ops.toList.drop k = rest → ∀ {ι : Iota} {I : Imm} {m : Mem} {w : World} {e : Env} {a : Act} {p : Option NV} {t : Bool} {u' : FrameMode} {out : OutS}, GlobOk T I → R ι I m w → FR none ι I m w e ⟨[], none, false⟩ a → a.tmps.size = size → ModeR ι I m p0 u → SM p0 u p t u' →
      (opsS T ops.toList rest).f X e m p t = some out → PostS size ι I m w p0 u c0 cs Q out → wpOpsSIn F n P ops Q (List.range' k rest.length) a ({ c0 with mode := u' } :: cs) w
  | [], k, hk, ι, I, m, w, e, a, p, t, u', out, hG, hR, hfr, hsz, hm, hsm, h, hP => by
    simp only [opsS, Option.some.injEq] at h; subst h
    simp only [List.length_nil, List.range'_zero, wpOpsSIn]
    exact hP a w ι I .normal u' hR hfr (Ext.refl _ _ _ _) hsz rfl hsm
  | o :: rest, k, hk, ι, I, m, w, e, a, p, t, u', out, hG, hR, hfr, hsz, hm, hsm, h, hP => by
    have hko : ops[k]? = some o := by
      have : ops.toList[k]? = some o := by
        have := congrArg (·[0]?) hk
        simpa using this
      rwa [Array.getElem?_toList] at this
    have hmem : o ∈ ops.toList := List.mem_of_getElem? (by rw [Array.getElem?_toList]; exact hko : ops.toList[k]? = some o)
    have hk' : ops.toList.drop (k + 1) = rest := by
      have := congrArg List.tail hk
      simpa using this
    have hd : ∀ d, o.dst = some d → d < a.tmps.size := fun d hd => hsz ▸ hdst o hmem d hd
    have hun : V ι I (.tup []) undef := by simp only [V, undef]; exact ⟨_, rfl, by simp [VL]⟩
    simp only [opsS] at h
    simp only [List.length_cons, List.range'_succ, wpOpsSIn, hko]
    refine ⟨fun f _ => hF.fn f, ?_⟩
    split at h
    · rename_i hw
      have hwt := wanted_sound (a := a) hfr.env hw
      simp only [hwt, if_true]
      cases hr : (opN T o.op).f e m with
      | none => rw [hr] at h; cases h
      | some r =>
        rw [hr] at h
        have hs := opN_sound hT hG hR hfr.env hr
        cases r with
        | val v m' =>
          obtain ⟨nx, x, w', ι', I', h1, h2, h3, h4, h5, h6⟩ := hs
          simp only [goS] at h
          have := opsS_sound hT (n := n) (X := X) hF hdst rest (k + 1) hk' (hG.mono h6.imm) h5 ((hfr.ext h6).put hd h3 h4) (by rw [put_size]; exact hsz) (hm.ext h6) hsm h (hP.ext h6)
          rw [h1]
          rcases h2 with rfl | ⟨rfl, rfl⟩
          · exact this
          · exact this
        | pan v m' =>
          obtain ⟨x, w', h1, h2, h3, rfl, h5, h6⟩ := hs
          simp only [goS, Option.some.injEq] at h; subst h
          rw [h1]
          exact hP a w' ι I _ u' h5 (hfr.ext h6) h6 hsz ⟨x, rfl, h2, h3⟩ hsm
        | defer f args m' => simp only [goS] at h; cases h
        | recover m' =>
          obtain ⟨rfl, h1⟩ := hs
          rw [h1]
          have hrec := recoverD_sm (c0 := c0) (cs := cs) hm hsm
          simp only [goS] at h
          cases p with
          | some v =>
            obtain ⟨x, u'', r1, r2, r3, r4⟩ := hrec
            simp only [r1]
            exact opsS_sound hT (n := n) (X := X) hF hdst rest (k + 1) hk' hG hR (hfr.put hd r2 r3) (by rw [put_size]; exact hsz) hm r4 h hP
          | none =>
            simp only at hrec
            simp only [hrec]
            exact opsS_sound hT (n := n) (X := X) hF hdst rest (k + 1) hk' hG hR (hfr.put hd (by simp [V]) (by simp [maxId])) (by rw [put_size]; exact hsz) hm hsm h hP
    · rename_i hw
      have hwt := wanted_sound (a := a) hfr.env hw
      simp only [hwt, Bool.false_eq_true, if_false]
      exact opsS_sound hT (n := n) (X := X) hF hdst rest (k + 1) hk' hG hR (hfr.put hd hun (by simp [maxId, maxIds])) (by rw [put_size]; exact hsz) hm hsm h hP
    · cases h

/-- Code that doesn't recover, in a deferred function. -/
theorem liftS_sound (hT : TabOk T P) (hDr : DrawOk T P) (hRg : RangeOk T P) {X : Ctx} (hC : CallOk T P X.C) (hN : EnterOk T P X.C) (hY : YieldOk T P X.Y) {F : Fence} (hF : WF F) (hro : F.round = none) {n size keep : Nat} {p0 : Option NV} {u : FrameMode} {c0 : Frame} {cs : List Frame} {Q : Exit → Act → List Frame → World → Prop} {c : Code} (hok : codeOk size true c = true) (hfl : flatC c = true)
    {e : Env} {a : Act} {p : Option NV} {t : Bool} {u' : FrameMode} {out : OutS} (hG : GlobOk T I) (hR : R ι I m w) (hfr : FR none ι I m w e ⟨[], none, false⟩ a) (hsz : a.tmps.size = size) (hsm : SM p0 u p t u')
    (h : liftS (execB T keep c).f X e m p t = some out) (hP : PostS size ι I m w p0 u c0 cs Q out) : c.wpSIn F n P Q a ({ c0 with mode := u' } :: cs) w := by
  unfold liftS at h
  split at h
  case h_2 => cases h
  rename_i ex e' m' fr' hr
  split at h
  case h_2 => cases h
  rename_i hds
  cases h
  refine wpSIn_of_wpIn hro (execB_sound (rd := true) (keep := keep) hT hDr hRg hC hN hY hF (.inl hro) c hok hG hR hfr hsz rfl (.inl hfl) hr ?_)
  intro a' w' ι' I' ex' q1 q2 q3 q4 q5
  exact hP a' w' ι' I' ex' u' q1 ⟨q2.env, by have := q2.ds; rw [hds] at this; exact this, by simp [dsMax], q2.nod⟩ q3 q4 q5 hsm

theorem execS_sound (hT : TabOk T P) (hDr : DrawOk T P) (hRg : RangeOk T P) {X : Ctx} (hC : CallOk T P X.C) (hN : EnterOk T P X.C) (hY : YieldOk T P X.Y) {F : Fence} (hF : WF F) (hro : F.round = none) {n size keep : Nat} {p0 : Option NV} {u : FrameMode} {c0 : Frame} {cs : List Frame} :
    ∀ (c : Code), codeOk size true c = true → flatC c = true → ∀ {Q : Exit → Act → List Frame → World → Prop} {ι : Iota} {I : Imm} {m : Mem} {w : World} {e : Env} {a : Act} {p : Option NV} {t : Bool} {u' : FrameMode} {out : OutS}, GlobOk T I → R ι I m w → FR none ι I m w e ⟨[], none, false⟩ a → a.tmps.size = size → ModeR ι I m p0 u → SM p0 u p t u' →
      (execS T keep c).f X e m p t = some out → PostS size ι I m w p0 u c0 cs Q out → c.wpSIn F n P Q a ({ c0 with mode := u' } :: cs) w := by
  intro c
  induction c with
  | region id ops draw =>
    intro hok hfl Q ι I m w e a p t u' out hG hR hfr hsz hm hsm h hP
    simp only [execS] at h
    split at h
    · exact liftS_sound hT hDr hRg hC hN hY hF hro hok hfl hG hR hfr hsz hsm h hP
    · split at h
      · obtain ⟨hd, _⟩ := opsOk_dst hok
        refine wpSIn_region ?_
        have := opsS_sound (n := n) (X := X) (F := F) (cs := cs) hT hF hd ops.toList 0 rfl hG hR (hfr.clean keep) hsz hm hsm h hP
        rw [List.range_eq_range']
        simpa using this
      · cases h
  | seq x y ihx ihy =>
    intro hok hfl Q ι I m w e a p t u' out hG hR hfr hsz hm hsm h hP
    simp only [execS] at h
    split at h
    · exact liftS_sound hT hDr hRg hC hN hY hF hro hok hfl hG hR hfr hsz hsm h hP
    · simp only [codeOk, Bool.and_eq_true] at hok
      simp only [flatC, Bool.and_eq_true] at hfl
      simp only at h
      cases hr : (execS T keep x).f X e m p t with
      | none => rw [hr] at h; cases h
      | some o1 =>
        rw [hr] at h
        refine wpSIn_seq (ihx hok.1 hfl.1 hG hR hfr hsz hm hsm hr ?_)
        intro a' w' ι' I' ex u2 q1 q2 q3 q4 q5 q6
        obtain ⟨ex1, e1, m1, p1, t1⟩ := o1
        cases ex1 with
        | norm =>
          simp only [ExR] at q5; subst q5
          exact ihy hok.2 hfl.2 (hG.mono q3.imm) q1 q2 q4 (hm.ext q3) q6 h (hP.ext q3)
        | exit i =>
          simp only [thenS, Option.some.injEq] at h; subst h
          have := hP a' w' ι' I' ex u2 q1 q2 q3 q4 q5 q6
          simp only [ExR] at q5; subst q5; exact this
        | ret =>
          simp only [thenS, Option.some.injEq] at h; subst h
          have := hP a' w' ι' I' ex u2 q1 q2 q3 q4 q5 q6
          simp only [ExR] at q5; subst q5; exact this
        | pan v =>
          simp only [thenS, Option.some.injEq] at h; subst h
          have := hP a' w' ι' I' ex u2 q1 q2 q3 q4 q5 q6
          obtain ⟨x, rfl, _⟩ := q5; exact this
  | _ =>
    intro hok hfl Q ι I m w e a p t u' out hG hR hfr hsz hm hsm h hP
    unfold execS at h
    split at h
    · exact liftS_sound (keep := keep) hT hDr hRg hC hN hY hF hro hok hfl hG hR hfr hsz hsm h hP
    · cases h

theorem opsOk_flat {n : Nat} : ∀ {l : List Oper}, opsOk n false l = true → opsOk 0 true (l.map fun o => { o with dst := none }) = true → opsOk n true l = true
  | [], _, _ => rfl
  | o :: l, h, hf => by
    simp only [opsOk, List.map_cons, Bool.and_eq_true] at h hf ⊢
    exact ⟨⟨h.1.1, hf.1.2⟩, opsOk_flat h.2 hf.2⟩

theorem codeOk_flat {n : Nat} : ∀ {c : Code}, codeOk n false c = true → flatC c = true → codeOk n true c = true := by
  intro c
  induction c with
  | region id ops draw => intro h hf; exact opsOk_flat h hf
  | seq a b iha ihb => intro h hf; simp only [codeOk, flatC, Bool.and_eq_true] at h hf ⊢; exact ⟨iha h.1 hf.1, ihb h.2 hf.2⟩
  | cond c a b iha ihb => intro h hf; simp only [codeOk, flatC, Bool.and_eq_true] at h hf ⊢; exact ⟨iha h.1 hf.1, ihb h.2 hf.2⟩
  | block id a iha => intro h hf; exact iha h hf
  | loop a iha => intro h hf; exact iha h hf
  | rangeFunc f ps as bd iha ihb => intro h hf; simp [flatC] at hf
  | _ => intro h hf; rfl

theorem DL.none_nil : ∀ {r : List Deferred}, DL ι I (Hid none ι m w) [] r → r = []
  | [], _ => rfl
  | d :: r, h => by
    rcases h with ⟨k, _, h2, _⟩ | ⟨f, args, ds', h1, _⟩
    · obtain ⟨b, hb, _⟩ := h2.ge; cases hb
    · cases h1

theorem leaveS_inv {rs : List ResultVar} {n : Nat} {out : OutS} {r : CallRes} {took : Bool} (h : leaveS T rs n (some out) = some (r, took)) :
    (out.ex = .norm ∨ out.ex = .ret) ∧ ∃ v, resultsN T out.mem out.env rs = some v ∧ r = .ret v (out.mem.drop n v) ∧ took = out.took := by
  obtain ⟨ex, e, m, p, t⟩ := out
  unfold leaveS at h
  cases ex with
  | norm =>
    simp only at h
    split at h
    · rename_i v hv; cases h; exact ⟨.inl rfl, v, hv, rfl, rfl⟩
    · cases h
  | ret =>
    simp only at h
    split at h
    · rename_i v hv; cases h; exact ⟨.inr rfl, v, hv, rfl, rfl⟩
    · cases h
  | _ => simp only at h; cases h

theorem stepF_defer (hT : TabOk T P) (hDr : DrawOk T P) (hRg : RangeOk T P) {L : Lv} (hC : CallOk T P L.ctx.C) (hN : EnterOk T P L.ctx.C) (hY : YieldOk T P L.ctx.Y) : DeferOk T P (stepF T L) := by
  intro p f args m v m' took h ι I w xs u F n hF hro hG hR hv hb hm
  unfold stepF at h
  split at h
  case h_2 => cases h
  rename_i fb hfb
  obtain ⟨fn, c, hf, hname, hbody, hok, rfl⟩ := funB_inv hT hfb
  refine ⟨callFunc_enter hf hname hbody xs w, ?_⟩
  simp only at h
  split at h
  case h_2 => cases h
  rename_i hfl
  cases hr : (execS T (T.keep f) c).f L.ctx (envOf 0 args) m p false with
  | none => rw [hr] at h; cases h
  | some out =>
    rw [hr] at h
    obtain ⟨hex, v0, hv0, hret, rfl⟩ := leaveS_inv h
    cases hret
    have hsz : (xs ++ Array.replicate (fn.ntmps - xs.size) undef).size ≥ fn.ntmps := by simp; omega
    refine callsDIn_of_wpSIn hf hbody (hF.fn f) fun c₀ cs hu => ?_
    have hc0 : ({ c₀ with mode := u } : Frame) = c₀ := by subst hu; rfl
    have key := execS_sound (n := n) (keep := T.keep f) (size := (xs ++ Array.replicate (fn.ntmps - xs.size) undef).size) (p0 := p) (u := u) (c0 := c₀) (cs := cs) (p := p) (t := false) (u' := u) (out := out)
      (Q := bodyPostS P fn c₀ cs fun e u' w' => match e with
      | .returned _ => (∃ ι' I', R ι' I' (out.mem.drop m.n v) w' ∧ Ext ι I m w ι' I' (out.mem.drop m.n v) w') ∧ Go.settle u' = if out.took then .returning else u
      | _ => False)
      hT hDr hRg hC hN hY hF hro c (codeOk_flat (codeOk_mono hsz hok) hfl) hfl hG hR (frame0 hv hb _ none none false) rfl hm (.inl ⟨rfl, rfl, rfl⟩) hr ?_
    · rw [hc0] at key; exact key
    · intro a' w' ι' I' ex u' q1 q2 q3 q4 q5 q6
      have hd : a'.defers = [] := DL.none_nil q2.ds
      obtain ⟨x, r1, r2, r3⟩ := resultsN_sound hT q1 q2.env (fn := fn) hv0
      obtain ⟨k1, k2, k3⟩ := drop_sound q1 q3 r3
      have hfin : a'.defers = [] ∧ ∃ u'', ({ c₀ with mode := u' } :: cs : List Frame) = { c₀ with mode := u'' } :: cs ∧ ∃ y, (results fn a'.tmps).run P w' = .ok y w' ∧ ((∃ ι' I', R ι' I' (out.mem.drop m.n v) w' ∧ Ext ι I m w ι' I' (out.mem.drop m.n v) w') ∧ Go.settle u'' = if out.took then .returning else u) :=
        ⟨hd, u', rfl, x, r1, ⟨ι', I', k1, k2⟩, SM.settle hm q6⟩
      rcases hex with h1 | h1
      · rw [h1] at q5; simp only [ExR] at q5; subst q5
        exact hfin
      · rw [h1] at q5; simp only [ExR] at q5; subst q5
        exact hfin

end Go.Kn

namespace Go.Kn

variable {T : Tab} {P : Program} {ι ι' : Iota} {I I' : Imm} {m m' : Mem} {w w' : World}

/-! ### Equal values -/

mutual
theorem beqV_eq : ∀ {v u : NV}, beqV v u = true → v = u := by
  intro v u h
  unfold beqV at h
  split at h <;> first
    | cases h
    | skip
  all_goals (try simp only [Bool.and_eq_true, beq_iff_eq, decide_eq_true_eq] at h)
  · exact congrArg _ h
  · obtain ⟨rfl, rfl⟩ := h; rfl
  · exact congrArg _ h
  · rfl
  · obtain ⟨h1, h2⟩ := h; rw [Nat.eq_of_beq_eq_true h1, Nat.eq_of_beq_eq_true h2]
  · obtain ⟨h1, h2⟩ := h; rw [beqVs_eq h1, Nat.eq_of_beq_eq_true h2]
  · obtain ⟨⟨rfl, h1⟩, h2⟩ := h; rw [Nat.eq_of_beq_eq_true h1, beqVs_eq h2]
  · obtain ⟨⟨⟨h1, h2⟩, h3⟩, h4⟩ := h; rw [Nat.eq_of_beq_eq_true h1, Nat.eq_of_beq_eq_true h2, Nat.eq_of_beq_eq_true h3, Nat.eq_of_beq_eq_true h4]
  · rfl
  · rw [Nat.eq_of_beq_eq_true h]
  · rfl
  · obtain ⟨h1, h2⟩ := h; rw [Nat.eq_of_beq_eq_true h1, beqV_eq h2]
  · rfl
  · rw [beqVs_eq h]
  · rw [beqVs_eq h]
theorem beqVs_eq : ∀ {l r : List NV}, beqVs l r = true → l = r := by
  intro l r h
  unfold beqVs at h
  split at h <;> first
    | cases h
    | skip
  · rfl
  · simp only [Bool.and_eq_true] at h
    rw [beqV_eq h.1, beqVs_eq h.2]
end

/-! ### An operation hangs on the variables that it looks at alone -/

def AgreeOn (xs : List Nat) (e e' : Env) : Prop := ∀ x ∈ xs, lookupE e x = lookupE e' x

theorem tmpsOf_mem : ∀ {l : List Operand} {t : Nat}, .tmp t ∈ l → t ∈ tmpsOf l
  | [], _, h => by cases h
  | x :: l, t, h => by
    rcases List.mem_cons.1 h with rfl | h
    · exact List.mem_cons_self
    · have := tmpsOf_mem h
      cases x <;> simp [tmpsOf, this]

theorem rho_congr {x : Operand} {e e' : Env} (h : ∀ t, x = .tmp t → lookupE e t = lookupE e' t) : (rho T x).f e = (rho T x).f e' := by
  cases x with
  | tmp t => exact h t rfl
  | const v => simp only [rho]; split <;> rfl
  | global g => simp only [rho]; split <;> rfl
  | func f => rfl

theorem rhoL_congr {e e' : Env} : ∀ {l : List Operand}, (∀ x ∈ l, ∀ t, x = .tmp t → lookupE e t = lookupE e' t) → (rhoL T l).f e = (rhoL T l).f e'
  | [], _ => rfl
  | x :: l, h => by
    simp only [rhoL]
    rw [rho_congr (h x List.mem_cons_self), rhoL_congr (fun y hy => h y (List.mem_cons_of_mem _ hy))]

theorem rhoP_congr {e e' : Env} : ∀ {l : List (Nat × Operand)}, (∀ x ∈ l, ∀ t, x.2 = .tmp t → lookupE e t = lookupE e' t) → (rhoP T l).f e = (rhoP T l).f e'
  | [], _ => rfl
  | (i, x) :: l, h => by
    simp only [rhoP]
    rw [rho_congr (h (i, x) List.mem_cons_self), rhoP_congr (fun y hy => h y (List.mem_cons_of_mem _ hy))]

theorem rhoO_congr {e e' : Env} {x : Option Operand} (h : ∀ y, x = some y → ∀ t, y = .tmp t → lookupE e t = lookupE e' t) : (rhoO T x).f e = (rhoO T x).f e' := by
  cases x with
  | none => rfl
  | some x => simp only [rhoO]; rw [rho_congr (h x rfl)]

theorem o1_congr {e e' : Env} {x : Operand} {k : Mem → NV → Option OpRes} {m : Mem} (h : ∀ t, x = .tmp t → lookupE e t = lookupE e' t) : o1 T x k e m = o1 T x k e' m := by
  unfold o1; rw [rho_congr h]
theorem o2_congr {e e' : Env} {x y : Operand} {k : Mem → NV → NV → Option OpRes} {m : Mem} (h : ∀ t, x = .tmp t → lookupE e t = lookupE e' t) (h2 : ∀ t, y = .tmp t → lookupE e t = lookupE e' t) : o2 T x y k e m = o2 T x y k e' m := by
  unfold o2; rw [rho_congr h, rho_congr h2]
theorem o3_congr {e e' : Env} {x y z : Operand} {k : Mem → NV → NV → NV → Option OpRes} {m : Mem} (h : ∀ t, x = .tmp t → lookupE e t = lookupE e' t) (h2 : ∀ t, y = .tmp t → lookupE e t = lookupE e' t) (h3 : ∀ t, z = .tmp t → lookupE e t = lookupE e' t) : o3 T x y z k e m = o3 T x y z k e' m := by
  unfold o3; rw [rho_congr h, rho_congr h2, rho_congr h3]

theorem opN_congr {o : Op} {e e' : Env} {m : Mem} (h : ∀ x ∈ o.operands.toList, ∀ t, x = .tmp t → lookupE e t = lookupE e' t) : (opN T o).f e m = (opN T o).f e' m := by
  cases o <;> simp only [Op.operands, Call.operands] at h <;> simp only [opN]
  case alloc t => unfold oAlloc; split <;> rfl
  case pick c a b =>
    unfold oPickX o1 oPickO
    rw [rho_congr (h c (by simp)), rho_congr (h a (by simp)), rho_congr (h b (by simp))]
  case build t ps => unfold oP; rw [rhoP_congr (fun x hx => h x.2 (by simpa using ⟨x.1, by simpa using hx⟩))]
  case buildSlice t n ps => unfold oP; rw [rhoP_congr (fun x hx => h x.2 (by simpa using ⟨x.1, by simpa using hx⟩))]
  case makeFunc f a b =>
    unfold oMakeFunc
    split
    · simp only
      rw [rhoL_congr (fun x hx => h x (by simp only [Array.toList_append, List.mem_append]; simp only [hx, true_or, or_true])), rhoL_congr (fun x hx => h x (by simp only [Array.toList_append, List.mem_append]; simp only [hx, true_or, or_true]))]
    · rfl
  case makeMap t r => cases r <;> rfl
  case slice t x lo hi mx =>
    unfold oSliceO
    rw [rho_congr (h x (by simp)), rhoO_congr (fun y hy => h y (by simp [hy])), rhoO_congr (fun y hy => h y (by simp [hy])), rhoO_congr (fun y hy => h y (by simp [hy]))]
  case next x s =>
    cases s
    · rfl
    · exact o1_congr (h x (by simp))
  case defer c =>
    unfold oDefer
    split
    · rename_i f hf
      simp only [hf] at h
      simp only
      rw [rho_congr (h f (by simp)), rhoL_congr (fun x hx => h x (by simp [hx]))]
    · rfl
  case call c =>
    split
    · rename_i b hb
      simp only [hb] at h
      simp only [oL]
      rw [rhoL_congr (fun x hx => h x (by simp [hx]))]
    · rfl
  all_goals first
    | rfl
    | (exact o1_congr (h _ (by simp)))
    | (exact o2_congr (h _ (by simp)) (h _ (by simp)))
    | (exact o3_congr (h _ (by simp)) (h _ (by simp)) (h _ (by simp)))

theorem stepB_congr {o : Op} {X : Ctx} {e e' : Env} {m : Mem} (h : ∀ x ∈ o.operands.toList, ∀ t, x = .tmp t → lookupE e t = lookupE e' t) : (stepB T o).f X e m = (stepB T o).f X e' m := by
  unfold stepB
  split
  · rename_i c
    simp only [Op.operands] at h
    split
    · unfold callB
      unfold Call.operands at h
      split
      · rename_i f hf
        simp only [hf] at h
        simp only
        rw [rho_congr (h f (by simp)), rhoL_congr (fun x hx => h x (by simp [hx]))]
      · rename_i r n hf
        simp only [hf] at h
        simp only
        rw [rho_congr (h r (by simp)), rhoL_congr (fun x hx => h x (by simp [hx]))]
      · rfl
    · exact opN_congr (o := .call c) (by simpa only [Op.operands] using h)
  · exact opN_congr h

theorem looksL_mem {ops : List Oper} {o : Oper} {t : Nat} (h : .tmp t ∈ o.op.operands.toList) : t ∈ looksL ops o := by
  have := tmpsOf_mem h
  unfold looksL
  split
  · split
    · split
      · exact List.mem_cons_of_mem _ this
      · exact this
    · exact this
  · exact this

theorem AgreeOn.opers {ops : List Oper} {o : Oper} {e e' : Env} (h : AgreeOn (looksL ops o) e e') : ∀ x ∈ o.op.operands.toList, ∀ t, x = .tmp t → lookupE e t = lookupE e' t := by
  rintro x hx t rfl
  exact h t (looksL_mem hx)

theorem wantsB_congr {ops : List Oper} {o : Oper} {e e' : Env} (h : AgreeOn (looksL ops o) e e') : (wantsB ops o.guard).f e = (wantsB ops o.guard).f e' := by
  unfold wantsB
  split
  · rfl
  · rename_i j wv hg
    split
    · rename_i oj hoj
      split
      · rename_i d hd
        have : lookupE e d = lookupE e' d := h d (by unfold looksL; simp [hg, hoj, hd])
        simp only [this]
      · rfl
    · rfl

/-! ### Operations that leave the memory as it is -/

theorem valOf_mem {v : Option NV} {u : NV} (h : valOf m v = some (.val u m')) : m' = m := by
  unfold valOf at h; split at h <;> cases h; rfl

theorem scalRes_mem {v : Option Scal} {u : NV} (h : scalRes m v = some (.val u m')) : m' = m := by
  unfold scalRes at h; split at h <;> cases h; rfl

/-- It leaves the memory as it is. -/
def Stays (r : Option OpRes) (m : Mem) : Prop := ∀ v m', r = some (.val v m') → m' = m

theorem o1_stays {x : Operand} {k : Mem → NV → Option OpRes} {e : Env} {m : Mem} (h : ∀ v, Stays (k m v) m) : Stays (o1 T x k e m) m := by
  unfold o1; split
  · exact h _
  · intro v m' h; cases h
theorem o2_stays {x y : Operand} {k : Mem → NV → NV → Option OpRes} {e : Env} {m : Mem} (h : ∀ v u, Stays (k m v u) m) : Stays (o2 T x y k e m) m := by
  unfold o2; split
  · split
    · exact h _ _
    · intro v m' h; cases h
  · intro v m' h; cases h

theorem oSliceStr_stays {s : List UInt8} {lo hi : Option NV} : Stays (oSliceStr m s lo hi) m := by
  unfold oSliceStr
  intro v m' h
  repeat' (split at h)
  all_goals first | (cases h; done) | (cases h; rfl)
theorem oSliceVec_stays {size : Nat} {n : Bool} {len : Nat} {cs : List NV} {lo hi : Option NV} : Stays (oSliceVec m size n len cs lo hi) m := by
  unfold oSliceVec
  intro v m' h
  repeat' (split at h)
  all_goals first | (cases h; done) | (cases h; rfl)
theorem oSliceMsl_stays {size b off len sz : Nat} {lo hi : Option NV} : Stays (oSliceMsl m size b off len sz lo hi) m := by
  unfold oSliceMsl
  intro v m' h
  repeat' (split at h)
  all_goals first | (cases h; done) | (cases h; rfl)
theorem oSliceArr_stays {n size b off : Nat} {lo hi : Option NV} : Stays (oSliceArr m n size b off lo hi) m := by
  unfold oSliceArr
  intro v m' h
  repeat' (split at h)
  all_goals first | (cases h; done) | (cases h; rfl)

theorem oSlice_stays {t : TypeId} {x : NV} {lo hi : Option NV} : Stays ((oSlice T t).f m x lo hi) m := by
  unfold oSlice
  split
  · simp only; split
    · exact oSliceStr_stays
    · intro v m' h; cases h
  · split
    · simp only; split
      · exact oSliceVec_stays
      · exact oSliceMsl_stays
      · intro v m' h; cases h
    · intro v m' h; cases h
  · split
    · simp only; split
      · exact oSliceArr_stays
      · intro v m' h; cases h
    · intro v m' h; cases h
  · intro v m' h; cases h

theorem kind0_stays {o : Op} {e : Env} (hk : kindB T o = 0) : Stays ((opN T o).f e m) m := by
  unfold kindB at hk
  split at hk <;> first | (cases hk; done) | (split at hk <;> cases hk; done) | skip
  all_goals simp only [opN]
  · exact o1_stays fun v u m' h => by unfold oMove at h; cases h; rfl
  · exact o1_stays fun v u m' h => by unfold oMove at h; cases h; rfl
  · exact o1_stays fun v u m' h => by unfold oPickO at h; exact valOf_mem h
  · unfold oP
    split
    · exact fun u m' h => valOf_mem h
    · intro v m' h; cases h
  · exact o1_stays fun v u m' h => valOf_mem h
  · refine o1_stays fun v u m' h => ?_
    unfold oNilCheck at h
    repeat' (split at h)
    all_goals first | (cases h; done) | (cases h; rfl)
  · exact o2_stays fun v u x m' h => scalRes_mem h
  · exact o1_stays fun v u m' h => scalRes_mem h
  · refine o1_stays fun v u m' h => ?_
    unfold oMakeInterface at h
    repeat' (split at h)
    all_goals first | (cases h; done) | (cases h; rfl)
  · unfold oMakeFunc
    intro v m' h
    split at h
    · simp only at h
      repeat' (split at h)
      all_goals first | (cases h; done) | (cases h; rfl)
    · cases h
  · exact o1_stays fun v u m' h => valOf_mem h
  · exact o1_stays fun v u m' h => valOf_mem h
  · refine o2_stays fun v u x m' h => ?_
    unfold oIndexAddr at h
    repeat' (first | split at h | simp only at h)
    all_goals first | (cases h; done) | (cases h; rfl)
  · refine o2_stays fun v u x m' h => ?_
    unfold oIndex at h
    repeat' (first | split at h | simp only at h)
    all_goals first | (cases h; done) | (cases h; rfl)
  · refine o2_stays fun v u x m' h => ?_
    unfold oLookup at h
    repeat' (first | split at h | simp only at h)
    all_goals first | (cases h; done) | (cases h; rfl)
  · refine o1_stays fun v u m' h => ?_
    unfold oTypeAssert at h
    repeat' (first | split at h | simp only at h)
    all_goals first | (cases h; done) | (cases h; rfl)
  · exact o1_stays fun v u m' h => valOf_mem h
  · unfold oSliceO
    split
    · exact oSlice_stays
    · intro v m' h
      unfold oSlice3 at h
      repeat' (first | split at h | simp only at h)
      all_goals first | (cases h; done) | (cases h; rfl)
    · intro v m' h; cases h
  · split at hk <;> first | (cases hk; done) | skip
    all_goals
      rename_i hd
      refine o1_stays fun v u m' h => ?_
      unfold oConvert at h
      rw [hd] at h
      cases hs : T.und _ with
      | none => rw [hs] at h; cases h
      | some sd =>
        rw [hs] at h
        simp only [toStr] at h
        repeat' (first | split at h | simp only [toStr] at h)
        all_goals first | (cases h; done) | (cases h; rfl)
  · split at hk
    · rename_i b hb
      try rw [hb]
      try simp only
      split at hk <;> first | (cases hk; done) | skip
      all_goals
        unfold oL
        split
        · intro v m' h
          simp only [builtinN] at h
          first
            | (unfold oMin at h; split at h
               · rename_i hm; obtain ⟨z, _, hz⟩ := Option.map_eq_some_iff.1 h; cases hz; rfl
               · cases h)
            | (unfold oMax at h; split at h
               · rename_i hm; obtain ⟨z, _, hz⟩ := Option.map_eq_some_iff.1 h; cases hz; rfl
               · cases h)
            | (split at h
               · simp only [at1, oLen] at h
                 repeat' (first | split at h | simp only at h)
                 all_goals first | (cases h; done) | (cases h; rfl)
               · cases h)
        · intro v m' h; cases h
    · cases hk

theorem oBuildVec_stays {t : TypeId} {len : Nat} {ps : List (Nat × NV)} : Stays ((oBuildVec T t len).f m ps) m := by
  unfold oBuildVec
  intro v m' h
  repeat' (first | split at h | simp only at h)
  all_goals first | (cases h; done) | (cases h; rfl)

theorem opV_stays {o : Op} {e : Env} : Stays ((opV T o).f e m) m := by
  unfold opV
  split
  · simp only [oP]
    split
    · exact oBuildVec_stays
    · intro v m' h; cases h
  · intro v m' h; cases h

/-- A new row that is never written. -/
theorem R.imm_new (hR : R ι I m w) {cs : List NV} {arr : Array Value} {el : TypeId} (hv : VL ι I cs arr.toList) :
    ∃ I', R ι I' m (w.alloc (.cells arr el)) ∧ Ext ι I m w ι I' m (w.alloc (.cells arr el)) ∧ VI ι I' cs w.heap.size 0 := by
  let I' : Imm := fun cb o => if cb = w.heap.size then arr[o]? else I cb o
  have hI : ∀ cb o x, I cb o = some x → I' cb o = some x := fun cb o x hx => by
    have := imm_lt (hR.imm _ _ _ hx)
    simp only [I']
    rw [if_neg (by omega)]
    exact hx
  have hold : ∀ k, k < w.heap.size → (w.alloc (.cells arr el)).heap[k]? = w.heap[k]? := fun k hk => World.heap_alloc_lt w _ hk
  refine ⟨I', ⟨hR.len, fun cb o x hx => ?_, fun b o hb => ?_, hR.inj, fun b o hb hl k => ?_, hR.bnd⟩, ⟨fun _ _ => rfl, Nat.le_refl _, hI, by simp, fun k hk _ => hold k hk, fun b o hb hl => .inr ⟨b, o, hb, hl, rfl⟩, rfl, rfl, rfl, fun cb o x hx => ?_⟩, ?_⟩
  · simp only [I'] at hx
    split at hx
    · rename_i e
      subst e
      rw [World.cell?_alloc_new]
      exact hx
    · have := hR.imm _ _ _ hx
      rw [World.cell?_of_block (w := w) (w' := w.alloc (.cells arr el)) (a := ⟨cb, o, none⟩) (hold _ (imm_lt this))]
      exact this
  · by_cases hl : o.live = true
    · exact BR_congr hI (fun _ _ => rfl) (BR_world (by simp) (hold _ (BR_lt hl (hR.blk b o hb))) (hR.blk b o hb))
    · cases o <;> first | trivial | exact absurd rfl hl
  · have := BR_lt hl (hR.blk b o hb)
    simp only [I']
    rw [if_neg (by omega)]
    exact hR.apart b o hb hl k
  · simp only [I'] at hx
    split at hx
    · rename_i e; exact .inl (by omega)
    · exact .inr (.inl ⟨o, x, hx⟩)
  · have key : ∀ (l : List NV) (k : Nat) (r : List Value), VL ι I l r → (∀ i, arr[k + i]? = r[i]?) → VI ι I' l w.heap.size k := by
      intro l
      induction l with
      | nil => intro k r _ _; simp [VI]
      | cons v l ih =>
        intro k r h hr
        simp only [VL] at h
        obtain ⟨x, s, rfl, h1, h2⟩ := h
        simp only [VI]
        refine ⟨⟨x, ?_, V_congr hI (fun _ _ => rfl) h1⟩, ih (k + 1) s h2 fun i => ?_⟩
        · have := hr 0
          simp only [I', if_pos]
          simpa using this
        · have := hr (i + 1)
          rw [show k + 1 + i = k + (i + 1) by omega, this]
          rfl
    exact key cs 0 arr.toList hv fun i => by simp

theorem oBuildVec_sound (hT : TabOk T P) (hR : R ι I m w) {t : TypeId} {len : Nat} {ps : List (Nat × NV)} {xs : Array (Nat × Value)} {r : OpRes} (hx : VP ι I ps xs.toList) (hb : maxIdsQ ps ≤ m.n) (h : (oBuildVec T t len).f m ps = some r) : SV P (Instr.buildSlice t len xs) w ι I m r := by
  unfold oBuildVec at h
  split at h
  case h_2 => cases h
  rename_i el size he
  obtain ⟨hu, hs⟩ := elemOf_sound hT he
  split at h
  case h_2 => cases h
  rename_i z hz
  split at h
  case h_2 => cases h
  rename_i hc
  simp only [Bool.and_eq_true] at hc
  have hzs := Nat.eq_of_beq_eq_true hc.1
  have hsm := Nat.le_of_ble_eq_true hc.2
  simp only at h
  split at h
  case h_2 => cases h
  rename_i cs hcs
  split at h
  case h_2 => cases h
  rename_i hmx
  have hmx := Nat.eq_of_beq_eq_true hmx
  cases h
  obtain ⟨v, h1, h2, h3, h4⟩ := zeroRow (ι := ι) (I := I) hT hz w
  have hlen := fillN_length hcs
  rw [repl_length, hzs] at hlen
  have hbig : ¬ (len * size > 2 ^ 24) := by omega
  have hrow : ∃ zero : Array Value, ((len * size = 0 ∧ zero = #[]) ∨ (len * size ≠ 0 ∧ zero = v.cells)) ∧ VL ι I (repl z len) ((Array.range (len * size)).map (fun i => zero[i % zero.size]!)).toList := by
    by_cases h0 : len * size = 0
    · refine ⟨#[], .inl ⟨h0, rfl⟩, ?_⟩
      have : repl z len = [] := List.eq_nil_of_length_eq_zero (by rw [repl_length, hzs]; exact h0)
      rw [this, h0]; simp [VL]
    · refine ⟨v.cells, .inr ⟨h0, rfl⟩, ?_⟩
      have e : size = v.cells.size := by omega
      have := range_rep v.cells len
      rw [Array.toList_map, Array.toList_range, e, this]
      exact VL_repl h2 len
  obtain ⟨zero, hz1, hz2⟩ := hrow
  obtain ⟨arr, k1, k2, k3⟩ := fill_sound (place' := fun i => some (i * size, size)) (fun i p hp => hp) hx hcs hz2
  have hl := VL_length k2
  simp only [Array.length_toList] at hl
  have hmz := repl_max h3 len
  obtain ⟨I', hn1, hn2, hn3⟩ := R.imm_new hR (el := el) k2
  refine ⟨.slice (some ⟨w.heap.size, 0, none⟩) len len, _, _, _, ?_, ?_, by simp [maxId], hn1, hn2⟩
  · unfold Instr.buildSlice
    simp only [Sem.run_bind, run_underlying hu, Result.andThen_ok, hT.cellsOf hs, hbig, if_false]
    rcases hz1 with ⟨h0, rfl⟩ | ⟨h0, rfl⟩
    · simp only [h0, if_true, Sem.run_bind, Sem.run_pure, Result.andThen_ok] at k1 ⊢
      simp only [k1, Sem.run_bind, run_newRow, Result.andThen_ok, Sem.run_pure]
    · simp only [h0, if_false, Sem.run_bind, Sem.run_pure, Result.andThen_ok, h1, k1, run_newRow]
  · simp only [V]
    exact ⟨hmx, w.heap.size, 0, len, rfl, Nat.le_refl _, hn3⟩

theorem opV_sound (hT : TabOk T P) (hG : GlobOk T I) (hR : R ι I m w) {e : Env} {a : Act} (hE : ER ι I m e a.tmps) {o : Oper} {r : OpRes} (h : (opV T o.op).f e m = some r) : SN P (execOp a.eval o) w ι I m r := by
  unfold opV at h
  split at h
  case h_2 => cases h
  rename_i t len ps ho
  obtain ⟨l, hl, hk⟩ := oP_inv h
  have rp := rhoP_sound (a := a) hG hE hl
  unfold execOp
  simp only [ho]
  exact (oBuildVec_sound hT hR (by simpa using rp.1) rp.2 hk).sn

theorem opD_sound (hT : TabOk T P) (hG : GlobOk T I) (hR : R ι I m w) {e : Env} {a : Act} (hE : ER ι I m e a.tmps) {d : DO} {r : OpRes} (h : (opD T d).f e m = some r) : SN P (execOp a.eval d.o) w ι I m r := by
  unfold opD at h
  split at h
  · exact opV_sound hT hG hR hE h
  · exact opN_sound hT hG hR hE h

theorem opV_congr {o : Op} {e e' : Env} {m : Mem} (h : ∀ x ∈ o.operands.toList, ∀ t, x = .tmp t → lookupE e t = lookupE e' t) : (opV T o).f e m = (opV T o).f e' m := by
  cases o <;> simp only [Op.operands, Call.operands] at h <;> simp only [opV]
  case buildSlice t n ps => unfold oP; rw [rhoP_congr (fun x hx => h x.2 (by simpa using ⟨x.1, by simpa using hx⟩))]

theorem opD_congr {d : DO} {ops : List Oper} {e e' : Env} {m : Mem} (h : AgreeOn (looksL ops d.o) e e') : (opD T d).f e m = (opD T d).f e' m := by
  unfold opD
  split
  · exact opV_congr h.opers
  · exact opN_congr h.opers

theorem opD_stays {d : DO} {e : Env} (h : d.v = true ∨ kindB T d.o.op = 0) : Stays ((opD T d).f e m) m := by
  unfold opD
  split
  · exact opV_stays
  · rename_i hv
    rcases h with h | h
    · rw [h] at hv; cases hv
    · exact kind0_stays h

/-- A new block, made at any time. -/
theorem alloc_run (hT : TabOk T P) {o : Oper} {a : Act} (hk : kindB T o.op = 2) (w : World) :
    ∃ cs arr el, (∀ e m, (opN T o.op).f e m = some (.val (.ptr m.n 0) (m.push (.cells cs)))) ∧ (∀ ι I, VL ι I cs arr.toList) ∧ maxIds cs = 0 ∧
      (execOp a.eval o).run P w = .ok (.value (.pointer (some ⟨w.heap.size, 0, none⟩))) (w.alloc (.cells arr el)) := by
  unfold kindB at hk
  split at hk <;> first | (cases hk; done) | skip
  · rename_i t ho
    split at hk
    case h_2 => cases hk
    rename_i z hz
    obtain ⟨i, v, x, h1, h2, h3, h4, h5, _⟩ := hT.zero t z hz
    subst h4
    refine ⟨x.cells, v.cells, t, fun e m => ?_, fun ι I => (ofValue_cells h3 h5).1, (ofValue_cells (ι := fun _ => default) (I := fun _ _ => none) h3 h5).2, ?_⟩
    · rw [ho]; simp only [opN, oAlloc, hz]
    · unfold execOp
      rw [ho]
      simp [Instr.alloc, zeroValue, run_typeInfo w h1, h2, newVar, run_newRow]
  · split at hk <;> cases hk
  · split at hk
    · split at hk <;> cases hk
    · cases hk

end Go.Kn

namespace Go.Kn

variable {T : Tab} {P : Program}

theorem testBit_lor (a b k : Nat) : (Nat.lor a b).testBit k = (a.testBit k || b.testBit k) := Nat.testBit_or a b k
theorem testBit_land (a b k : Nat) : (Nat.land a b).testBit k = (a.testBit k && b.testBit k) := Nat.testBit_and a b k

theorem subB_bit {a b k : Nat} (h : subB a b = true) (hk : a.testBit k = true) : b.testBit k = true := by
  have e := Nat.eq_of_beq_eq_true h
  rw [← e, testBit_land] at hk
  simp only [Bool.and_eq_true] at hk
  exact hk.2

theorem maskD_mem : ∀ {l : List DO} {j : Nat}, (maskD l).testBit j = true → ∃ c ∈ l, c.i = j
  | [], j, h => by simp [maskD] at h
  | d :: l, j, h => by
    simp only [maskD, testBit_lor, Bool.or_eq_true] at h
    rcases h with h | h
    · have : (2 ^ d.i).testBit j = true := h
      rw [Nat.testBit_two_pow] at this
      exact ⟨d, List.mem_cons_self, by simpa using this⟩
    · obtain ⟨c, hc, e⟩ := maskD_mem h
      exact ⟨c, List.mem_cons_of_mem _ hc, e⟩

theorem firstD_mem {k done : Nat} : ∀ {l : List DO} {d : DO} {r : List DO}, firstD k done l = some (d, r) → d ∈ l ∧ ∀ c ∈ r, c ∈ l
  | [], d, r, h => by cases h
  | x :: l, d, r, h => by
    simp only [firstD] at h
    split at h
    · cases h; exact ⟨List.mem_cons_self, fun c hc => List.mem_cons_of_mem _ hc⟩
    · split at h
      · rename_i c r' hf
        cases h
        obtain ⟨h1, h2⟩ := firstD_mem hf
        refine ⟨List.mem_cons_of_mem _ h1, fun c hc => ?_⟩
        rcases List.mem_cons.1 hc with rfl | hc
        · exact List.mem_cons_self
        · exact List.mem_cons_of_mem _ (h2 c hc)
      · cases h

theorem orderD_mem : ∀ {n done : Nat} {l : List DO} {d : DO}, d ∈ orderD n done l → d ∈ l
  | 0, done, l, d, h => by cases h
  | n + 1, done, l, d, h => by
    have key : ∀ {k : Nat} {c : DO} {r : List DO}, firstD k done l = some (c, r) → d ∈ c :: orderD n (Nat.lor (Nat.pow 2 c.i) done) r → d ∈ l := by
      intro k c r hf hd
      obtain ⟨h1, h2⟩ := firstD_mem hf
      rcases List.mem_cons.1 hd with rfl | hd
      · exact h1
      · exact h2 _ (orderD_mem hd)
    simp only [orderD] at h
    split at h
    · rename_i hf; exact key hf h
    · split at h
      · rename_i hf; exact key hf h
      · split at h
        · rename_i hf; exact key hf h
        · cases h

theorem dosL_mem {rw : Bool} {ops : List Oper} {b : Array Nat} : ∀ {l : List Oper} {i : Nat} {d : DO}, d ∈ dosL T rw ops b i l →
    ∃ j, l[j]? = some d.o ∧ d.i = i + j ∧ d.b = b.getD d.i 0 ∧ (d.k = 0 → d.v = true ∨ kindB T d.o.op = 0) ∧ (d.k ≠ 0 → d.k = kindB T d.o.op)
  | [], i, d, h => by cases h
  | o :: l, i, d, h => by
    simp only [dosL] at h
    rcases List.mem_cons.1 h with rfl | h
    · refine ⟨0, rfl, rfl, rfl, ?_, ?_⟩
      · simp only
        split
        · rename_i hr; intro _; exact .inl hr
        · intro h; exact .inr h
      · simp only
        split
        · intro h; exact absurd rfl h
        · intro _; rfl
    · obtain ⟨j, h1, h2, h3⟩ := dosL_mem h
      exact ⟨j + 1, by simpa using h1, by omega, h3⟩

/-- What the look at an order says of one operation, and of those ahead of it. -/
structure Ahead (ops : List Oper) (p : List DO) (d : DO) : Prop where
  pair : ∀ c ∈ p, pairOk ops d c = true
  bits : ∀ j, d.b.testBit j = true → ∃ c ∈ p, c.i = j
  edges : ∀ e ∈ d.o.after.toList, Region.binds .any e = true → ∃ c ∈ p, c.i = e.on
  push : pushOk d = true

theorem pairsOk_mem {ops : List Oper} {d : DO} : ∀ {l : List DO}, pairsOk ops d l = true → ∀ c ∈ l, pairOk ops d c = true
  | [], _, c, hc => by cases hc
  | x :: l, h, c, hc => by
    simp only [pairsOk, Bool.and_eq_true] at h
    rcases List.mem_cons.1 hc with rfl | hc
    · exact h.1
    · exact pairsOk_mem h.2 c hc

theorem edgesIn_mem {done : Nat} : ∀ {l : List Edge}, edgesIn done l = true → ∀ e ∈ l, Region.binds .any e = true → done.testBit e.on = true
  | [], _, e, he, _ => by cases he
  | x :: l, h, e, he, hb => by
    simp only [edgesIn, Bool.and_eq_true, Bool.or_eq_true, Bool.not_eq_true'] at h
    rcases List.mem_cons.1 he with rfl | he
    · rcases h.1 with h1 | h1
      · rw [h1] at hb; cases hb
      · exact h1
    · exact edgesIn_mem h.2 e he hb

theorem checkD_split {ops : List Oper} : ∀ {p : List DO} {seen : List DO} {d : DO} {q : List DO}, checkD ops seen (p ++ d :: q) = true → Ahead ops (p ++ seen) d
  | [], seen, d, q, h => by
    simp only [List.nil_append, checkD, Bool.and_eq_true] at h
    obtain ⟨⟨⟨⟨h1, h2⟩, h3⟩, h4⟩, _⟩ := h
    refine ⟨fun c hc => pairsOk_mem h1 c (by simpa using hc), fun j hj => ?_, fun e he hb => ?_, h4⟩
    · simpa using maskD_mem (subB_bit h2 hj)
    · simpa using maskD_mem (edgesIn_mem h3 e he hb)
  | x :: p, seen, d, q, h => by
    simp only [List.cons_append, checkD, Bool.and_eq_true] at h
    have := checkD_split (p := p) (seen := x :: seen) h.2
    have e : ∀ c, c ∈ p ++ x :: seen ↔ c ∈ x :: p ++ seen := fun c => by simp only [List.mem_append, List.mem_cons, List.cons_append]; exact or_left_comm
    exact ⟨fun c hc => this.pair c ((e c).2 (by simpa using hc)), fun j hj => let ⟨c, hc, hi⟩ := this.bits j hj; ⟨c, by simpa using (e c).1 hc, hi⟩, fun ed he hb => let ⟨c, hc, hi⟩ := this.edges ed he hb; ⟨c, by simpa using (e c).1 hc, hi⟩, this.push⟩

theorem ordAll_mem {c : DO} : ∀ {l : List DO}, ordAll c l = true → ∀ d ∈ l, d.k = 2 ∨ c.k = 0 ∨ d.b.testBit c.i = true
  | [], _, d, hd => by cases hd
  | x :: l, h, d, hd => by
    simp only [ordAll, Bool.and_eq_true, Bool.or_eq_true] at h
    rcases List.mem_cons.1 hd with rfl | hd
    · rcases h.1 with (h1 | h1) | h1
      · exact .inl (Nat.eq_of_beq_eq_true h1)
      · exact .inr (.inl (Nat.eq_of_beq_eq_true h1))
      · exact .inr (.inr h1)
    · exact ordAll_mem h.2 d hd

theorem stsOk_split : ∀ {p : List DO} {c : DO} {r : List DO}, stsOk (p ++ c :: r) = true → (∃ d, r = [d]) ∨ ∀ d ∈ r, d.k = 2 ∨ c.k = 0 ∨ d.b.testBit c.i = true
  | [], c, r, h => by
    simp only [List.nil_append, stsOk, Bool.and_eq_true] at h
    have h1 := h.1
    split at h1
    · exact .inl ⟨_, rfl⟩
    · exact .inr (ordAll_mem h1)
  | x :: p, c, r, h => by
    simp only [List.cons_append, stsOk, Bool.and_eq_true] at h
    exact stsOk_split h.2

/-- What is known of the order that the evaluator takes. -/
structure OrdOk (T : Tab) (ops : Array Oper) (l : List DO) : Prop where
  at_ : ∀ d ∈ l, ops[d.i]? = some d.o
  b : ∀ d ∈ l, d.b = (Region.before ops).getD d.i 0
  k0 : ∀ d ∈ l, d.k = 0 → d.v = true ∨ kindB T d.o.op = 0
  k2 : ∀ d ∈ l, d.k = 2 → kindB T d.o.op = 2
  ah : ∀ p d q, l = p ++ d :: q → Ahead ops.toList p d
  all : ∀ i, i < ops.size → ∃ d ∈ l, d.i = i
  st : ∀ p c r, l = p ++ c :: r → (∃ d, r = [d]) ∨ ∀ d ∈ r, d.k = 2 ∨ c.k = 0 ∨ d.b.testBit c.i = true

theorem ordOk1_sound {rw : Bool} {ops : Array Oper} {l : List DO} (h : ordOk1 ops l = true) (hl : ∀ d ∈ l, d ∈ ordOf T rw ops) : OrdOk T ops l := by
  unfold ordOk1 at h
  simp only [Bool.and_eq_true] at h
  have hm : ∀ d ∈ l, ∃ j, ops.toList[j]? = some d.o ∧ d.i = 0 + j ∧ d.b = (Region.before ops).getD d.i 0 ∧ (d.k = 0 → d.v = true ∨ kindB T d.o.op = 0) ∧ (d.k ≠ 0 → d.k = kindB T d.o.op) := fun d hd => dosL_mem (orderD_mem (hl d hd))
  refine ⟨fun d hd => ?_, fun d hd => ?_, fun d hd hk => ?_, fun d hd hk => ?_, fun p d q e => ?_, fun i hi => ?_, fun p c r e => ?_⟩
  · obtain ⟨j, h1, h2, _⟩ := hm d hd
    rw [h2, Nat.zero_add, ← Array.getElem?_toList]; exact h1
  · obtain ⟨j, _, _, h3, _⟩ := hm d hd; exact h3
  · obtain ⟨j, _, _, _, h4, _⟩ := hm d hd; exact h4 hk
  · obtain ⟨j, _, _, _, _, h5⟩ := hm d hd
    rw [← h5 (by omega)]; exact hk
  · have := checkD_split (p := p) (seen := []) (d := d) (q := q) (by rw [← e]; exact h.1.1)
    simpa using this
  · have e := Nat.eq_of_beq_eq_true h.1.2
    refine maskD_mem ?_
    rw [e]
    show (2 ^ ops.toList.length - 1).testBit i = true
    rw [Nat.testBit_two_pow_sub_one]
    simpa using hi
  · exact stsOk_split (p := p) (by rw [← e]; exact h.2)

theorem isPair_symm {c d : DO} (h : isPair c d = true) : isPair d c = true := by
  unfold isPair at h ⊢
  simp only [Bool.and_eq_true, Bool.not_eq_true'] at h ⊢
  exact ⟨⟨⟨h.1.1.2, h.1.1.1⟩, h.2⟩, h.1.2⟩

theorem swapD_app : ∀ {q : List DO} {c d : DO}, isPair c d = true → swapD (q ++ [c, d]) = q ++ [d, c]
  | [], c, d, h => by simp [swapD, h]
  | x :: q, c, d, h => by
    have := swapD_app (q := q) h
    simp only [List.cons_append, swapD]
    rw [← this]
    cases q with
    | nil => rfl
    | cons y q => cases q <;> rfl

theorem swapD_cases : ∀ (l : List DO), swapD l = l ∨ ∃ q c d, l = q ++ [c, d] ∧ isPair c d = true ∧ swapD l = q ++ [d, c]
  | [] => .inl rfl
  | [c] => .inl rfl
  | [c, d] => by
    cases h : isPair c d with
    | true => exact .inr ⟨[], c, d, rfl, h, swapD_app (q := []) h⟩
    | false => exact .inl (by simp [swapD, h])
  | c :: d :: e :: l => by
    rcases swapD_cases (d :: e :: l) with h | ⟨q, x, y, h1, h2, h3⟩
    · left
      show c :: swapD (d :: e :: l) = _
      rw [h]
    · right
      refine ⟨c :: q, x, y, by rw [h1]; rfl, h2, ?_⟩
      show c :: swapD (d :: e :: l) = _
      rw [h3]; rfl

/-- The orders that may be taken: two, where the last two stores aren't ordered. -/
structure Fam (T : Tab) (ops : Array Oper) (F : List DO → Prop) : Prop where
  ok : ∀ l, F l → OrdOk T ops l
  sw : ∀ q c d, F (q ++ [c, d]) → isPair c d = true → F (q ++ [d, c])

theorem ordOk_sound {rw : Bool} {ops : Array Oper} (h : ordOk ops (ordOf T rw ops) = true) : Fam T ops fun l => l = ordOf T rw ops ∨ l = swapD (ordOf T rw ops) := by
  unfold ordOk at h
  simp only [Bool.and_eq_true] at h
  have h1 := ordOk1_sound (T := T) (rw := rw) h.1 fun d hd => hd
  rcases swapD_cases (ordOf T rw ops) with e | ⟨q, c, d, e1, e2, e3⟩
  · refine ⟨fun l hl => ?_, fun q c d hq hp => ?_⟩
    · rcases hl with rfl | rfl
      · exact h1
      · rw [e]; exact h1
    · have hq : q ++ [c, d] = ordOf T rw ops := by rcases hq with h | h; exact h; rw [h, e]
      right
      rw [← hq, swapD_app hp]
  · have h2 := ordOk1_sound (T := T) (rw := rw) h.2 fun x hx => by
      rw [e3] at hx; rw [e1]
      simp only [List.mem_append, List.mem_cons, List.not_mem_nil, or_false] at hx ⊢
      rcases hx with h | h | h
      · exact .inl h
      · exact .inr (.inr h)
      · exact .inr (.inl h)
    refine ⟨fun l hl => ?_, fun q' c' d' hq hp => ?_⟩
    · rcases hl with rfl | rfl
      · exact h1
      · exact h2
    · rcases hq with hq | hq
      · right; rw [← hq, swapD_app hp]
      · left
        rw [e3] at hq
        have hl := List.append_inj' hq rfl
        obtain ⟨rfl, hl⟩ := hl
        simp only [List.cons.injEq, and_true] at hl
        obtain ⟨rfl, rfl⟩ := hl
        rw [e1]

/-- All that an operation stands behind is there, where what its edges name is there. -/
theorem before_sound {ops : Array Oper} {L : Nat → Prop} (hcl : ∀ (j : Nat) o, ops[j]? = some o → L j → ∀ e ∈ o.after.toList, Region.binds .any e = true → L e.on)
    {i : Nat} {o : Oper} (ho : ops[i]? = some o) (hi : ∀ e ∈ o.after.toList, Region.binds .any e = true → L e.on) : ∀ k, ((Region.before ops).getD i 0).testBit k = true → L k := by
  have inner : ∀ (acc : Array Nat), acc.size ≤ ops.size → (∀ (j : Nat) o, j < acc.size → ops[j]? = some o → (∀ e ∈ o.after.toList, Region.binds .any e = true → L e.on) → ∀ k, (acc.getD j 0).testBit k = true → L k) →
      ∀ (es : List Edge) (s : Nat), (∀ e ∈ es, Region.binds .any e = true → L e.on) → (∀ k, s.testBit k = true → L k) →
      ∀ k, (es.foldl (fun s e => if Region.binds .any e then s ||| 2 ^ e.on ||| acc.getD e.on 0 else s) s).testBit k = true → L k := by
    intro acc hsz hG es
    induction es with
    | nil => intro s _ hs k hk; exact hs k hk
    | cons e es ih =>
      intro s he hs k hk
      simp only [List.foldl_cons] at hk
      refine ih _ (fun e' he' => he e' (List.mem_cons_of_mem _ he')) ?_ k hk
      intro k' hk'
      split at hk'
      · rename_i hb
        rw [Nat.testBit_or, Nat.testBit_or, Bool.or_eq_true, Bool.or_eq_true] at hk'
        have hL := he e List.mem_cons_self hb
        rcases hk' with (h1 | h1) | h1
        · exact hs k' h1
        · rw [Nat.testBit_two_pow] at h1
          have : e.on = k' := by simpa using h1
          rw [← this]; exact hL
        · rcases Nat.lt_or_ge e.on acc.size with hlt | hge
          · have hoo : ∃ o', ops[e.on]? = some o' := ⟨_, Array.getElem?_eq_getElem (Nat.lt_of_lt_of_le hlt hsz)⟩
            obtain ⟨o', ho'⟩ := hoo
            exact hG e.on o' hlt ho' (hcl e.on o' ho' hL) k' h1
          · rw [Array.getD_eq_getD_getElem?, Array.getElem?_eq_none hge] at h1
            simp at h1
      · exact hs k' hk'
  have outer : ∀ (l pre : List Oper) (acc : Array Nat), ops.toList = pre ++ l → acc.size = pre.length → (∀ (j : Nat) o, j < acc.size → ops[j]? = some o → (∀ e ∈ o.after.toList, Region.binds .any e = true → L e.on) → ∀ k, (acc.getD j 0).testBit k = true → L k) →
      ∀ (j : Nat) o, ops[j]? = some o → (∀ e ∈ o.after.toList, Region.binds .any e = true → L e.on) → ∀ k, ((l.foldl (fun acc o => acc.push (o.after.foldl (fun s e => if Region.binds .any e then s ||| 2 ^ e.on ||| acc.getD e.on 0 else s) 0)) acc).getD j 0).testBit k = true → L k := by
    intro l
    induction l with
    | nil =>
      intro pre acc hpre hsz hG j o hj he k hk
      refine hG j o ?_ hj he k hk
      have := (Array.getElem?_eq_some_iff.1 hj).1
      have hl : ops.size = pre.length := by rw [← Array.length_toList, hpre]; simp
      omega
    | cons x l ih =>
      intro pre acc hpre hsz hG j o hj he k hk
      have hl : ops.size = pre.length + (l.length + 1) := by rw [← Array.length_toList, hpre]; simp
      refine ih (pre ++ [x]) _ (by rw [hpre]; simp) (by simp [hsz]) ?_ j o hj he k hk
      intro j' o' hj' ho' he' k' hk'
      rw [Array.size_push] at hj'
      rw [Array.getD_eq_getD_getElem?, Array.getElem?_push] at hk'
      split at hk'
      · rename_i hjs
        have hx : o' = x := by
          have : ops.toList[j']? = some o' := by rw [Array.getElem?_toList]; exact ho'
          rw [hpre, hjs, hsz, List.getElem?_append_right (Nat.le_refl _)] at this
          simp at this
          exact this.symm
        subst hx
        simp only [Option.getD_some] at hk'
        rw [← Array.foldl_toList] at hk'
        exact inner acc (by omega) hG o'.after.toList 0 he' (fun k h => by simp at h) k' hk'
      · rename_i hne
        exact hG j' o' (by omega) ho' he' k' (by rw [Array.getD_eq_getD_getElem?]; exact hk')
  intro k hk
  unfold Region.before at hk
  rw [← Array.foldl_toList] at hk
  exact outer ops.toList [] #[] rfl rfl (fun j o hj => by simp at hj) i o ho hi k hk

end Go.Kn
