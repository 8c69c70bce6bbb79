/- Part of the proof: the evaluator, its soundness, its runs. -/
import Derived.Test.YtpbhfabagkpaaaaGreatDoorE3
import Derived.OrdersIn

namespace Go.Kn

variable {T : Tab} {P : Program}

/-! ### Two operations of the order -/

theorem nodup_split {l : List DO} {c d : DO} (hc : c ∈ l) (hd : d ∈ l) : c = d ∨ (∃ p q, l = p ++ d :: q ∧ c ∈ p) ∨ ∃ p q, l = p ++ c :: q ∧ d ∈ p := by
  induction l with
  | nil => cases hc
  | cons x l ih =>
    rcases List.mem_cons.1 hc with hcx | hc1
    · rcases List.mem_cons.1 hd with hdx | hd1
      · exact .inl (hcx.trans hdx.symm)
      · obtain ⟨p, q, e⟩ := List.append_of_mem hd1
        exact .inr (.inl ⟨x :: p, q, by rw [e]; rfl, by rw [hcx]; exact List.mem_cons_self⟩)
    · rcases List.mem_cons.1 hd with hdx | hd1
      · obtain ⟨p, q, e⟩ := List.append_of_mem hc1
        exact .inr (.inr ⟨x :: p, q, by rw [e]; rfl, by rw [hdx]; exact List.mem_cons_self⟩)
      · rcases ih hc1 hd1 with h | ⟨p, q, e, h⟩ | ⟨p, q, e, h⟩
        · exact .inl h
        · exact .inr (.inl ⟨x :: p, q, by rw [e]; rfl, List.mem_cons_of_mem _ h⟩)
        · exact .inr (.inr ⟨x :: p, q, by rw [e]; rfl, List.mem_cons_of_mem _ h⟩)

theorem notIn_mem {x : Nat} : ∀ {l : List Nat}, notIn x l = true → x ∉ l
  | [], _ => by simp
  | y :: l, h => by
    simp only [notIn, Bool.and_eq_true, Bool.not_eq_true'] at h
    intro hx
    rcases List.mem_cons.1 hx with rfl | hx
    · have := h.1; simp at this
    · exact notIn_mem h.2 hx

structure PairF (ops : List Oper) (d c : DO) : Prop where
  ne : d.i ≠ c.i
  dst : ∀ x y, d.o.dst = some x → c.o.dst = some y → x ≠ y
  look : ∀ x, c.o.dst = some x → x ∈ looksL ops d.o → d.b.testBit c.i = true
  anti : ∀ x, d.o.dst = some x → x ∈ looksL ops c.o → d.b.testBit c.i = true
  ord : d.k = 2 ∨ c.k = 0 ∨ d.b.testBit c.i = true ∨ (isSt c = true ∧ isSt d = true)

theorem pairOk_inv {ops : List Oper} {d c : DO} (h : pairOk ops d c = true) : PairF ops d c := by
  unfold pairOk at h
  simp only [Bool.and_eq_true, Bool.or_eq_true, Bool.not_eq_true'] at h
  obtain ⟨⟨⟨⟨h1, h2⟩, h3⟩, h4⟩, h5⟩ := h
  refine ⟨fun e => by rw [e] at h1; simp at h1, fun x y hx hy e => ?_, fun x hx hl => ?_, fun x hx hl => ?_, ?_⟩
  · rw [hx, hy, e] at h2; simp [dstNe] at h2
  · rw [hx] at h3
    simp only [dstOk, Bool.or_eq_true] at h3
    rcases h3 with h | h
    · exact absurd hl (notIn_mem h)
    · exact h
  · rw [hx] at h4
    simp only [dstOk, Bool.or_eq_true] at h4
    rcases h4 with h | h
    · exact absurd hl (notIn_mem h)
    · exact h
  · rcases h5 with ((h | h) | h) | h
    · exact .inl (Nat.eq_of_beq_eq_true h)
    · exact .inr (.inl (Nat.eq_of_beq_eq_true h))
    · exact .inr (.inr (.inl h))
    · exact .inr (.inr (.inr h))

variable {ops : Array Oper} {l : List DO}

theorem OrdOk.pair (hO : OrdOk T ops l) {p q : List DO} {d c : DO} (e : l = p ++ d :: q) (hc : c ∈ p) : PairF ops.toList d c := pairOk_inv ((hO.ah p d q e).pair c hc)

theorem OrdOk.uniq (hO : OrdOk T ops l) {c d : DO} (hc : c ∈ l) (hd : d ∈ l) (h : c.i = d.i) : c = d := by
  rcases nodup_split hc hd with e | ⟨p, q, e, hp⟩ | ⟨p, q, e, hp⟩
  · exact e
  · exact absurd h.symm (hO.pair e hp).ne
  · exact absurd h (hO.pair e hp).ne

theorem OrdOk.dst (hO : OrdOk T ops l) {c d : DO} (hc : c ∈ l) (hd : d ∈ l) (h : c.i ≠ d.i) {x y : Nat} (hx : c.o.dst = some x) (hy : d.o.dst = some y) : x ≠ y := by
  rcases nodup_split hc hd with e | ⟨p, q, e, hp⟩ | ⟨p, q, e, hp⟩
  · subst e; exact absurd rfl h
  · exact fun e' => (hO.pair e hp).dst y x hy hx e'.symm
  · exact (hO.pair e hp).dst x y hx hy

/-- What d looks at is written by one that is ordered. -/
theorem OrdOk.look (hO : OrdOk T ops l) {c d : DO} (hc : c ∈ l) (hd : d ∈ l) (h : c.i ≠ d.i) {x : Nat} (hx : c.o.dst = some x) (hl : x ∈ looksL ops.toList d.o) : d.b.testBit c.i = true ∨ c.b.testBit d.i = true := by
  rcases nodup_split hc hd with e | ⟨p, q, e, hp⟩ | ⟨p, q, e, hp⟩
  · subst e; exact absurd rfl h
  · exact .inl ((hO.pair e hp).look x hx hl)
  · exact .inr ((hO.pair e hp).anti x hx hl)

theorem lookupE_put_same {e : Env} {x : Nat} {v : NV} : lookupE (putE e (some x) v) x = some v := by
  simp [putE, lookupE]
theorem lookupE_put_ne {e : Env} {d : Option Nat} {x : Nat} {v : NV} (h : d ≠ some x) : lookupE (putE e d v) x = lookupE e x := by
  cases d with
  | none => rfl
  | some y =>
    have hne : Nat.beq y x = false := by
      cases hb : Nat.beq y x with
      | false => rfl
      | true => exact absurd (by rw [Nat.eq_of_beq_eq_true hb]) h
    simp [putE, lookupE, hne]

def updV (val : Nat → NV) (i : Nat) (v : NV) : Nat → NV := fun j => if j = i then v else val j
theorem updV_same {val : Nat → NV} {i : Nat} {v : NV} : updV val i v i = v := by simp [updV]
theorem updV_ne {val : Nat → NV} {i j : Nat} {v : NV} (h : j ≠ i) : updV val i v j = val j := by simp [updV, h]

/-- The variables, the evaluator's own and the model's. -/
structure St (l : List DO) (e0 : Env) (done : List DO) (val : Nat → NV) (e E : Env) (L : Nat → Prop) : Prop where
  c1 : ∀ d ∈ done, ∀ x, d.o.dst = some x → lookupE e x = some (val d.i)
  c2 : ∀ x, (∀ d ∈ done, d.o.dst ≠ some x) → lookupE e x = lookupE e0 x
  l1 : ∀ d ∈ done, L d.i → ∀ x, d.o.dst = some x → lookupE E x = some (val d.i)
  l2 : ∀ x, (∀ d ∈ l, L d.i → d.o.dst ≠ some x) → lookupE E x = lookupE e0 x
  eb : ∀ B, maxIdE e0 ≤ B → (∀ d ∈ done, ∀ x, d.o.dst = some x → maxId (val d.i) ≤ B) → maxIdE e ≤ B

variable {e0 e E : Env} {done rest : List DO} {val : Nat → NV} {L : Nat → Prop} {d : DO}

theorem OrdOk.ahead_ne (hO : OrdOk T ops l) {r : List DO} (hl : l = done ++ d :: r) : ∀ c ∈ done, c.i ≠ d.i := fun c hc h => (hO.pair hl hc).ne h.symm

/-- The evaluator goes on by one. -/
theorem St.absorb (hO : OrdOk T ops l) {r : List DO} (hl : l = done ++ d :: r) (h : St l e0 done val e E L) (hL : ¬ L d.i) (v : NV) : St l e0 (done ++ [d]) (updV val d.i v) (putE e d.o.dst v) E L := by
  have hne := hO.ahead_ne hl
  have hmem : ∀ c ∈ done, c ∈ l := fun c hc => by rw [hl]; exact List.mem_append_left _ hc
  have hd : d ∈ l := by rw [hl]; simp
  refine ⟨fun c hc x hx => ?_, fun x hx => ?_, fun c hc hLc x hx => ?_, h.l2, fun B h1 h2 => ?_⟩
  · rcases List.mem_append.1 hc with hc | hc
    · rw [updV_ne (hne c hc), lookupE_put_ne fun e => hO.dst (hmem c hc) hd (hne c hc) hx e rfl]
      exact h.c1 c hc x hx
    · rw [List.mem_singleton] at hc; subst hc
      rw [hx, updV_same, lookupE_put_same]
  · rw [lookupE_put_ne (hx d (by simp))]
    exact h.c2 x fun c hc => hx c (List.mem_append_left _ hc)
  · rcases List.mem_append.1 hc with hc | hc
    · rw [updV_ne (hne c hc)]
      exact h.l1 c hc hLc x hx
    · rw [List.mem_singleton] at hc; subst hc
      exact absurd hLc hL
  · have h3 : maxIdE e ≤ B := h.eb B h1 fun c hc x hx => by
      have := h2 c (List.mem_append_left _ hc) x hx
      rwa [updV_ne (hne c hc)] at this
    cases hdst : d.o.dst with
    | none => exact h3
    | some x =>
      have := h2 d (by simp) x hdst
      rw [updV_same] at this
      simp only [putE, maxIdE]
      omega

/-- The model goes on by one that the evaluator has done. -/
theorem St.take (hO : OrdOk T ops l) (hl : l = done ++ rest) (h : St l e0 done val e E L) (hd : d ∈ done) : St l e0 done val e (putE E d.o.dst (val d.i)) (fun j => L j ∨ j = d.i) := by
  have hmem : ∀ c ∈ done, c ∈ l := fun c hc => by rw [hl]; exact List.mem_append_left _ hc
  refine ⟨h.c1, h.c2, fun c hc hLc x hx => ?_, fun x hx => ?_, h.eb⟩
  · by_cases e : c.i = d.i
    · have := hO.uniq (hmem c hc) (hmem d hd) e
      subst this
      rw [hx, lookupE_put_same]
    · have hLc : L c.i := by rcases hLc with h | h; exact h; exact absurd h e
      rw [lookupE_put_ne fun e' => hO.dst (hmem c hc) (hmem d hd) e hx e' rfl]
      exact h.l1 c hc hLc x hx
  · rw [lookupE_put_ne (hx d (hmem d hd) (.inr rfl))]
    exact h.l2 x fun c hc hLc => hx c hc (.inl hLc)

/-- The model goes on by one that the evaluator will do later. -/
theorem St.early (hO : OrdOk T ops l) (hl : l = done ++ rest) (h : St l e0 done val e E L) (hd : d ∈ rest) (v : NV) : St l e0 done val e (putE E d.o.dst v) (fun j => L j ∨ j = d.i) := by
  have hmem : ∀ c ∈ done, c ∈ l := fun c hc => by rw [hl]; exact List.mem_append_left _ hc
  have hdl : d ∈ l := by rw [hl]; exact List.mem_append_right _ hd
  have hne : ∀ c ∈ done, c.i ≠ d.i := fun c hc => by
    obtain ⟨p, q, e⟩ := List.append_of_mem hd
    have : l = (done ++ p) ++ d :: q := by rw [hl, e]; simp
    exact fun h => (hO.pair this (List.mem_append_left _ hc)).ne h.symm
  refine ⟨h.c1, h.c2, fun c hc hLc x hx => ?_, fun x hx => ?_, h.eb⟩
  · have hLc : L c.i := by rcases hLc with h | h; exact h; exact absurd h (hne c hc)
    rw [lookupE_put_ne fun e' => hO.dst (hmem c hc) hdl (hne c hc) hx e' rfl]
    exact h.l1 c hc hLc x hx
  · rw [lookupE_put_ne (hx d hdl (.inr rfl))]
    exact h.l2 x fun c hc hLc => hx c hc (.inl hLc)

/-- The evaluator comes to one that the model has done. -/
theorem St.adopt (hO : OrdOk T ops l) {r : List DO} (hl : l = done ++ d :: r) (h : St l e0 done val e E L) (hL : L d.i) (v : NV) : St l e0 (done ++ [d]) (updV val d.i v) (putE e d.o.dst v) (putE E d.o.dst v) L := by
  have hne := hO.ahead_ne hl
  have hmem : ∀ c ∈ done, c ∈ l := fun c hc => by rw [hl]; exact List.mem_append_left _ hc
  have hd : d ∈ l := by rw [hl]; simp
  refine ⟨fun c hc x hx => ?_, fun x hx => ?_, fun c hc hLc x hx => ?_, fun x hx => ?_, fun B h1 h2 => ?_⟩
  · rcases List.mem_append.1 hc with hc | hc
    · rw [updV_ne (hne c hc), lookupE_put_ne fun e => hO.dst (hmem c hc) hd (hne c hc) hx e rfl]
      exact h.c1 c hc x hx
    · rw [List.mem_singleton] at hc; subst hc
      rw [hx, updV_same, lookupE_put_same]
  · rw [lookupE_put_ne (hx d (by simp))]
    exact h.c2 x fun c hc => hx c (List.mem_append_left _ hc)
  · rcases List.mem_append.1 hc with hc | hc
    · rw [updV_ne (hne c hc), lookupE_put_ne fun e => hO.dst (hmem c hc) hd (hne c hc) hx e rfl]
      exact h.l1 c hc hLc x hx
    · rw [List.mem_singleton] at hc; subst hc
      rw [hx, updV_same, lookupE_put_same]
  · rw [lookupE_put_ne (hx d hd hL)]
    exact h.l2 x hx
  · have h3 : maxIdE e ≤ B := h.eb B h1 fun c hc x hx => by
      have := h2 c (List.mem_append_left _ hc) x hx
      rwa [updV_ne (hne c hc)] at this
    cases hdst : d.o.dst with
    | none => exact h3
    | some x =>
      have := h2 d (by simp) x hdst
      rw [updV_same] at this
      simp only [putE, maxIdE]
      omega

/-- The variables that d looks at, as the evaluator found them. -/
def KE (ops : Array Oper) (l : List DO) (e0 : Env) (done : List DO) (val : Nat → NV) (d : DO) (e1 : Env) : Prop :=
  ∀ x ∈ looksL ops.toList d.o, (∃ c ∈ done, d.b.testBit c.i = true ∧ c.o.dst = some x ∧ lookupE e1 x = some (val c.i)) ∨ ((∀ c ∈ l, d.b.testBit c.i = true → c.o.dst ≠ some x) ∧ lookupE e1 x = lookupE e0 x)

theorem KE.mono {done' : List DO} {val' : Nat → NV} {e1 : Env} (h : KE ops l e0 done val d e1) (h1 : ∀ c ∈ done, c ∈ done') (h2 : ∀ c ∈ done, val' c.i = val c.i) : KE ops l e0 done' val' d e1 := fun x hx => by
  rcases h x hx with ⟨c, hc, hb, hd, he⟩ | h
  · exact .inl ⟨c, h1 c hc, hb, hd, by rw [h2 c hc]; exact he⟩
  · exact .inr h

theorem KE.head (hO : OrdOk T ops l) {r : List DO} (hl : l = done ++ d :: r) (h : St l e0 done val e E L) : KE ops l e0 done val d e := by
  have hmem : ∀ c ∈ done, c ∈ l := fun c hc => by rw [hl]; exact List.mem_append_left _ hc
  intro x hx
  by_cases hex : ∃ c ∈ done, c.o.dst = some x
  · obtain ⟨c, hc, hcx⟩ := hex
    exact .inl ⟨c, hc, (hO.pair hl hc).look x hcx hx, hcx, h.c1 c hc x hcx⟩
  · have hno : ∀ c ∈ done, c.o.dst ≠ some x := fun c hc he => hex ⟨c, hc, he⟩
    refine .inr ⟨fun c hc hb => ?_, h.c2 x hno⟩
    obtain ⟨c', hc', hi⟩ := (hO.ah done d r hl).bits c.i hb
    have := hO.uniq (hmem c' hc') hc hi
    subst this
    exact hno c' hc'

theorem KE.agree (hO : OrdOk T ops l) (hl : l = done ++ rest) (h : St l e0 done val e E L) {e1 : Env} (hk : KE ops l e0 done val d e1) (hd : d ∈ l) (hb : ∀ c ∈ l, d.b.testBit c.i = true → L c.i) (hc : ∀ c ∈ l, L c.i → c.b.testBit d.i = true → L d.i) (hL : ¬ L d.i) :
    AgreeOn (looksL ops.toList d.o) e1 E := by
  have hmem : ∀ c ∈ done, c ∈ l := fun c hc => by rw [hl]; exact List.mem_append_left _ hc
  intro x hx
  rcases hk x hx with ⟨c, hc', hb', hcx, he⟩ | ⟨hno, he⟩
  · rw [he, h.l1 c hc' (hb c (hmem c hc') hb') x hcx]
  · rw [he, h.l2 x fun c hcl hLc hcx => ?_]
    have hne : c.i ≠ d.i := fun e => hL (e ▸ hLc)
    rcases hO.look hcl hd hne hcx hx with h1 | h1
    · exact hno c hcl h1 hcx
    · exact hL (hc c hcl hLc h1)

end Go.Kn

namespace Go.Kn

variable {T : Tab} {P : Program} {ι ι' : Iota} {I I' : Imm} {m m' : Mem} {w w' w0 : World}

/-- A block of the model's that the evaluator will make later. -/
structure HB (w0 : World) (ι : Iota) (I : Imm) (m : Mem) (w : World) (k : Nat) (cs : List NV) : Prop where
  lo : w0.heap.size ≤ k
  lt : k < w.heap.size
  free : ∀ b o, m.get b = some o → o.live = true → (ι b).cb ≠ k
  imm : ∀ o, I k o = none
  cells : ∃ arr el, w.heap[k]? = some (.cells arr el) ∧ (∀ ι I, VL ι I cs arr.toList) ∧ maxIds cs = 0

theorem HB.ext {k : Nat} {cs : List NV} (h : HB w0 ι I m w k cs) (x : Ext ι I m w ι' I' m' w') : HB w0 ι' I' m' w' k cs := by
  refine ⟨h.lo, Nat.lt_of_lt_of_le h.lt x.size, fun b o hb hl e => ?_, fun o => ?_, ?_⟩
  · rcases x.foot b o hb hl with h1 | ⟨b0, o0, h1, h2, h3⟩
    · have := h.lt; omega
    · exact h.free b0 o0 h1 h2 (h3.trans e)
  · cases hI : I' k o with
    | none => rfl
    | some v =>
      rcases x.ifoot k o v hI with h1 | ⟨o1, x1, h1⟩ | ⟨b0, o0, h1, h2, h3⟩
      · have := h.lt; omega
      · rw [h.imm o1] at h1; cases h1
      · exact absurd h3 (h.free b0 o0 h1 h2)
  · obtain ⟨arr, el, h1, h2⟩ := h.cells
    exact ⟨arr, el, (x.frame k h.lt h.free).trans h1, h2⟩

theorem R.adoptH (hR : R ι I m w) {k : Nat} {cs : List NV} (h : HB w0 ι I m w k cs) : ∃ p : Loc, p.cb = k ∧ p.co = 0 ∧ R (upd ι m.n p) I (m.push (.cells cs)) w := by
  obtain ⟨arr, el, hk, hv, hm⟩ := h.cells
  refine ⟨⟨k, 0, arr.size, cs.length⟩, rfl, rfl, ?_⟩
  have hlen : cs.length = arr.size := by have := VL_length (hv ι I); simpa using this
  have hcell : ∀ i, w.cell? ⟨k, i, none⟩ = arr[i]? := fun i => by simp [World.cell?, hk]
  have hold : ∀ b o', m.get b = some o' → upd ι m.n ⟨k, 0, arr.size, cs.length⟩ b = ι b := fun b o' hg => upd_lt _ _ (Mem.get_lt hg)
  refine ⟨by simp [Mem.push, hR.len], hR.imm, fun b o' hg => ?_, fun b b' o1 o2 h1 h2 l1 l2 e => ?_, fun b o' hg hl' j => ?_, fun b o' hg => ?_⟩
  · rw [Mem.get_push] at hg
    split at hg
    · rename_i e; subst e; cases hg; rw [upd_same]
      refine ⟨rfl, by simp only; omega, h.lt, fun i hi => ⟨?_, arr, el, 0, 0, hk, .inl rfl⟩, fun i v hvi => ?_⟩
      · simp only [Nat.zero_add] at hi ⊢
        rw [hcell, Array.getElem?_eq_getElem hi]; rfl
      · obtain ⟨x, hx, hvx⟩ := VL_get (hv (upd ι m.n ⟨k, 0, arr.size, cs.length⟩) I) hvi
        exact ⟨x, by simp only [Nat.zero_add]; rw [hcell]; simpa using hx, hvx⟩
    · rename_i e
      rw [hold b o' hg]
      exact BR_congr (fun _ _ _ h => h) (fun k hk => upd_lt _ _ (Nat.lt_of_lt_of_le hk (hR.bnd b o' hg).1)) (hR.blk b o' hg)
  · rw [Mem.get_push] at h1 h2
    split at h1 <;> split at h2
    · rename_i e1 e2; rw [e1, e2]
    · rename_i e1 e2; subst e1; rw [upd_same, hold b' o2 h2] at e; exact absurd e.symm (h.free b' o2 h2 l2)
    · rename_i e1 e2; subst e2; rw [upd_same, hold b o1 h1] at e; exact absurd e (h.free b o1 h1 l1)
    · rw [hold b o1 h1, hold b' o2 h2] at e; exact hR.inj b b' o1 o2 h1 h2 l1 l2 e
  · rw [Mem.get_push] at hg
    split at hg
    · rename_i e; subst e; rw [upd_same]; exact h.imm j
    · rw [hold b o' hg]; exact hR.apart b o' hg hl' j
  · rw [Mem.get_push] at hg
    split at hg
    · rename_i e; subst e; cases hg; simp only [Mem.push, mbMax]; omega
    · have := hR.bnd b o' hg; simp only [Mem.push]; omega

theorem okAfter_mem {bs : Nat} : ∀ {l : List (Nat × (Mem → Option OpRes) × NV)} {i : Nat} {f : Mem → Option OpRes} {v : NV}, okAfter bs m l = true → (i, f, v) ∈ l → bs.testBit i = true ∨ sameRes v (f m) = true
  | [], _, _, _, _, h => by cases h
  | (j, g, u) :: l, i, f, v, h, hm => by
    simp only [okAfter, Bool.and_eq_true, Bool.or_eq_true] at h
    rcases List.mem_cons.1 hm with e | hm
    · cases e; exact h.1
    · exact okAfter_mem h.2 hm

theorem sameRes_inv {v : NV} {r : Option OpRes} (h : sameRes v r = true) : ∃ m', r = some (.val v m') := by
  unfold sameRes at h
  split at h
  · rename_i v' m'; exact ⟨m', by rw [beqV_eq h]⟩
  · cases h

theorem stepB_alloc {o : Op} {X : Ctx} {e : Env} (hk : kindB T o = 2) : (stepB T o).f X e m = (opN T o).f e m := by
  unfold kindB at hk
  split at hk <;> first | (cases hk; done) | skip
  · rfl
  · split at hk <;> cases hk
  · split at hk
    · split at hk <;> cases hk
    · cases hk

variable {ops : Array Oper} {l : List DO}

theorem drawnB_cons {X : Ctx} {ops : List Oper} {d : DO} {r : List DO} {s : Seen} {e : Env} {m : Mem} {res : Ex × Env × Mem} (h : (drawnB T ops (d :: r)).f X s e m = some res) : (plainB T ops d (drawnB T ops r).f).f X s e m = some res := by
  cases r with
  | nil => exact h
  | cons c r =>
    cases r with
    | nil =>
      simp only [drawnB] at h ⊢
      split at h
      · simp only [pairRes] at h
        split at h
        · split at h
          · cases h
          · split at h
            · exact h
            · cases h
        · cases h
      · exact h
    | cons x r => exact h

/-- The same but for the order in which what was stored was noted. -/
structure Sim (m m' : Mem) : Prop where
  len : m.bs.length = m'.bs.length
  n : m.n = m'.n
  get : ∀ b, m.get b = m'.get b
  esc : ∀ b, escMax b m.esc = escMax b m'.esc

theorem Sim.symm (h : Sim m m') : Sim m' m := ⟨h.len.symm, h.n.symm, fun b => (h.get b).symm, fun b => (h.esc b).symm⟩

theorem Sim.R (h : Sim m m') (hR : R ι I m w) : Go.Kn.R ι I m' w :=
  ⟨by rw [← h.len, ← h.n]; exact hR.len, hR.imm, fun b o hb => hR.blk b o (by rw [h.get]; exact hb), fun b b' o o' h1 h2 => hR.inj b b' o o' (by rw [h.get]; exact h1) (by rw [h.get]; exact h2), fun b o hb => hR.apart b o (by rw [h.get]; exact hb), fun b o hb => by
    have := hR.bnd b o (by rw [h.get]; exact hb)
    rw [h.n, h.esc] at this; exact this⟩

theorem Sim.ext (h : Sim m m') {ι0 : Iota} {I0 : Imm} {m0 : Mem} (x : Ext ι0 I0 m0 w0 ι I m w) : Ext ι0 I0 m0 w0 ι I m' w :=
  ⟨x.iota, by rw [← h.n]; exact x.n, x.imm, x.size, x.frame, fun b o hb => x.foot b o (by rw [h.get]; exact hb), x.os, x.output, x.tape, x.ifoot⟩

theorem Sim.fr (h : Sim m m') {base : Option Nat} {e : Env} {fr : Fr} {a : Act} (hf : FR base ι I m w e fr a) : FR base ι I m' w e fr a := by
  refine ⟨⟨hf.env.rel, by rw [← h.n]; exact hf.env.bnd⟩, ?_, by rw [← h.n]; exact hf.bnd, hf.nod⟩
  have key : ∀ {r : List Deferred} {ds : List (NV × List NV)}, DL ι I (Hid base ι m w) ds r → DL ι I (Hid base ι m' w) ds r := by
    intro r
    induction r with
    | nil => intro ds h; exact h
    | cons d r ih =>
      intro ds h0
      rcases h0 with ⟨k, h1, h2, h3⟩ | ⟨f, args, ds', rfl, h2, h3⟩
      · exact .inl ⟨k, h1, ⟨h2.ge, h2.lt, h2.open_, fun b o hb => h2.free b o (by rw [h.get]; exact hb)⟩, ih h3⟩
      · exact .inr ⟨f, args, ds', rfl, h2, ih h3⟩
  exact key hf.ds

theorem Sim.exr (h : Sim m m') {ex : Ex} {x : Exit} (hx : ExR ι I m ex x) : ExR ι I m' ex x := by
  cases ex with
  | pan v =>
    obtain ⟨y, h1, h2, h3⟩ := hx
    exact ⟨y, h1, h2, by rw [← h.n]; exact h3⟩
  | _ => exact hx

theorem Sim.post (h : Sim m m') {base : Option Nat} {size : Nat} {ι0 : Iota} {I0 : Imm} {m0 : Mem} {Q : Exit → Act → World → Prop} {ex : Ex} {e : Env} {fr : Fr} (hP : Post base size ι0 I0 m0 w0 Q ⟨ex, e, m, fr⟩) : Post base size ι0 I0 m0 w0 Q ⟨ex, e, m', fr⟩ :=
  fun a' w' ι' I' x h1 h2 h3 h4 h5 => hP a' w' ι' I' x (h.symm.R h1) (h.symm.fr h2) (h.symm.ext h3) h4 (h.symm.exr h5)

theorem note_escMax (m : Mem) (b j b' : Nat) : escMax b' (m.note b j).esc = if b' = b ∧ b + 1 < j then max j (escMax b m.esc) else escMax b' m.esc := by
  unfold Mem.note
  split
  · rename_i h
    have := Nat.le_of_ble_eq_true h
    rw [if_neg (by omega)]
  · rename_i h
    have hlt : b + 1 < j := by
      rcases Nat.lt_or_ge (b + 1) j with h' | h'
      · exact h'
      · have := Nat.ble_eq_true_of_le h'; rw [this] at h; cases h
    simp only [escMax_add]
    by_cases e : b' = b
    · rw [if_pos e, if_pos ⟨e, hlt⟩]
    · rw [if_neg e, if_neg (by intro h; exact e h.1)]

theorem write_inv {b off : Nat} {vs : List NV} (hlen : m.bs.length = m.n) (h : m.write b off vs = some m') : ∃ l l', m.get b = some (.cells l) ∧ setAt l off vs = some l' ∧ allCells vs = true ∧ m'.bs.length = m.bs.length ∧ m'.n = m.n ∧ (∀ b', m'.get b' = if b' = b then some (.cells l') else m.get b') ∧ ∀ b', escMax b' m'.esc = if b' = b ∧ b + 1 < maxIds vs then max (maxIds vs) (escMax b m.esc) else escMax b' m.esc := by
  unfold Mem.write at h
  split at h
  case h_2 => cases h
  rename_i l hl
  split at h
  case h_2 => cases h
  rename_i hc
  split at h
  case h_2 => cases h
  rename_i l' hs
  cases h
  have hg := Mem.cells_get hl
  refine ⟨l, l', hg, hs, hc, ?_, by rw [Mem.n_note]; rfl, fun b' => by rw [Mem.get_note, Mem.get_put hlen (Mem.get_lt hg)], fun b' => by rw [note_escMax]; rfl⟩
  rw [Mem.bs_note]; simp [Mem.put, setNth_eq]

theorem write_comm {b1 o1 b2 o2 : Nat} {v1 v2 : List NV} {m1 m2 m1' m2' : Mem} (hlen : m.bs.length = m.n) (hne : b1 ≠ b2) (h1 : m.write b1 o1 v1 = some m1) (h2 : m1.write b2 o2 v2 = some m2) (h3 : m.write b2 o2 v2 = some m1') (h4 : m1'.write b1 o1 v1 = some m2') : Sim m2 m2' := by
  obtain ⟨l1, l1', a1, a2, _, a3, a4, a5, a6⟩ := write_inv hlen h1
  obtain ⟨l2, l2', c1, c2, _, c3, c4, c5, c6⟩ := write_inv (by rw [a3, a4]; exact hlen) h2
  obtain ⟨l3, l3', d1, d2, _, d3, d4, d5, d6⟩ := write_inv hlen h3
  obtain ⟨l4, l4', e1, e2, _, e3, e4, e5, e6⟩ := write_inv (by rw [d3, d4]; exact hlen) h4
  rw [a5, if_neg (Ne.symm hne), d1] at c1
  rw [d5, if_neg hne, a1] at e1
  cases c1; cases e1
  rw [d2] at c2; rw [a2] at e2
  cases c2; cases e2
  refine ⟨by omega, by omega, fun b => ?_, fun b => ?_⟩
  · rw [c5, e5, a5, d5]
    by_cases x1 : b = b1
    · subst x1; rw [if_neg hne, if_pos rfl, if_pos rfl]
    · by_cases x2 : b = b2
      · subst x2; rw [if_pos rfl, if_neg x1, if_pos rfl]
      · rw [if_neg x2, if_neg x1, if_neg x1, if_neg x2]
  · rw [c6, e6, a6, d6]
    by_cases x1 : b = b1
    · subst x1
      simp only [hne, false_and, if_false, true_and]
      rw [a6, d6]
      simp [hne, Ne.symm hne]
    · by_cases x2 : b = b2
      · subst x2
        simp only [x1, false_and, if_false, true_and]
        rw [a6, d6]
        simp [x1, Ne.symm x1, hne, Ne.symm hne]
      · simp only [x1, x2, false_and, if_false]
        rw [a6, d6]
        simp [x1, x2]

theorem plain_store {X : Ctx} {os : List Oper} {d : DO} {next : DRun} {s : Seen} {e : Env} {res : Ex × Env × Mem} (hs : isSt d = true) (h : (plainB T os d next).f X s e m = some res) :
    ∃ b off vs m', addrB T e d.o.op = some b ∧ m.write b off vs = some m' ∧ next X s e m' = some res ∧ ∀ m1 next' res', (plainB T os d next').f X s e m1 = some res' → ∃ m1', m1.write b off vs = some m1' ∧ next' X s e m1' = some res' := by
  unfold isSt at hs
  split at hs
  case h_2 => cases hs
  rename_i t a v ho hd hg
  have hk := Nat.eq_of_beq_eq_true hs
  have hk0 : Nat.beq d.k 0 = false := by rw [hk]; rfl
  have key : ∀ m1 next' res', (plainB T os d next').f X s e m1 = some res' → ∃ p u n b off m1', (rho T a).f e = some p ∧ (rho T v).f e = some u ∧ p = .ptr b off ∧ T.size t = some n ∧ m1.write b off u.cells = some m1' ∧ next' X s e m1' = some res' := by
    intro m1 next' res' h
    simp only [plainB, hg, wantsB, drawnOp, hk0, ho, stepB, opN, o2] at h
    cases hp : (rho T a).f e with
    | none => rw [hp] at h; simp only [afterMain] at h; cases h
    | some p =>
      cases hu : (rho T v).f e with
      | none => rw [hp, hu] at h; simp only [afterMain] at h; cases h
      | some u =>
        rw [hp, hu] at h
        simp only [oStore, storeN] at h
        cases hn : T.size t with
        | none => rw [hn] at h; simp only [afterMain] at h; cases h
        | some n =>
          rw [hn] at h
          simp only at h
          cases p with
          | ptr b off =>
            simp only at h
            split at h
            case h_2 => simp only [afterMain] at h; cases h
            rename_i x hx
            split at hx
            case h_2 => cases hx
            cases hw : m1.write b off u.cells with
            | none => rw [hw] at hx; cases hx
            | some m1' =>
              rw [hw] at hx
              cases hx
              refine ⟨_, u, n, b, off, x, rfl, rfl, rfl, rfl, hw, ?_⟩
              simp only [afterMain, hd, putE] at h
              split at h
              · exact h
              · cases h
          | _ => simp only [afterMain] at h; cases h
  obtain ⟨p, u, n, b, off, m', h1, h2, h3, h4, h5, h6⟩ := key m next res h
  subst h3
  refine ⟨b, off, u.cells, m', by simp only [addrB, ho, h1], h5, h6, fun m1 next' res' h' => ?_⟩
  obtain ⟨p', u', n', b', off', m1', k1, k2, k3, k4, k5, k6⟩ := key m1 next' res' h'
  rw [h1] at k1; rw [h2] at k2
  have e1 := Option.some.inj k1
  have e2 := Option.some.inj k2
  rw [← e1] at k3
  rw [← e2] at k5
  injection k3 with e3 e4
  rw [← e3, ← e4] at k5
  exact ⟨m1', k5, k6⟩

/-- Two stores that aren't ordered: the other way round it goes, too. -/
theorem pair_swap {X : Ctx} {os : List Oper} {c d : DO} {s : Seen} {e : Env} {res : Ex × Env × Mem} (hlen : m.bs.length = m.n) (hp : isPair c d = true) (h : (drawnB T os [c, d]).f X s e m = some res) :
    ∃ m2 m2', res = (.norm, e, m2) ∧ (drawnB T os [d, c]).f X s e m = some (.norm, e, m2') ∧ Sim m2 m2' := by
  have hp' := isPair_symm hp
  simp only [drawnB, hp, hp'] at h ⊢
  have hs : isSt c = true ∧ isSt d = true := by
    unfold isPair at hp
    simp only [Bool.and_eq_true] at hp
    exact ⟨hp.1.1.1, hp.1.1.2⟩
  unfold pairRes at h
  split at h
  case h_2 => cases h
  rename_i b1 b2 hb1 hb2
  split at h
  · cases h
  rename_i hne
  have hne : b1 ≠ b2 := fun e => by rw [e] at hne; simp at hne
  split at h
  case h_2 => cases h
  rename_i res' hres'
  obtain ⟨x1, o1, v1, m1, q1, q2, q3, q4⟩ := plain_store hs.1 h
  rw [hb1] at q1; cases q1
  obtain ⟨x2, o2, v2, m2, r1, r2, r3, r4⟩ := plain_store hs.2 q3
  rw [hb2] at r1; cases r1
  simp only [nilB, Option.some.injEq] at r3
  subst r3
  obtain ⟨m1', t1, t2⟩ := r4 m _ _ hres'
  obtain ⟨m2', t3, t4⟩ := q4 m1' _ _ t2
  simp only [nilB, Option.some.injEq] at t4
  subst t4
  refine ⟨m2, m2', rfl, ?_, write_comm hlen hne q2 r2 t1 t3⟩
  have hne' : Nat.beq b2 b1 = false := by
    cases hb : Nat.beq b2 b1 with
    | false => rfl
    | true => exact absurd (Nat.eq_of_beq_eq_true hb).symm hne
  simp only [pairRes, hb1, hb2, hne', h, hres']

/-- Where the walk stands. -/
structure DI (T : Tab) (X : Ctx) (ops : Array Oper) (l : List DO) (e0 pe : Env) (size : Nat) (ι0 : Iota) (I0 : Imm) (m0 : Mem) (w0 : World) (a0 : Act) (G : Ex × Env × Mem → Prop) (L : Nat → Prop) (a : Act) (w : World)
    (done rest : List DO) (val : Nat → NV) (kk : Nat → Nat) (rs : List (Nat × (Mem → Option OpRes) × NV)) (e E : Env) (ι : Iota) (I : Imm) (m : Mem) : Prop where
  sp : l = done ++ rest
  run : ∃ res, (drawnB T ops.toList rest).f X ⟨rs, pe⟩ e m = some res ∧ G res
  R : R ι I m w
  ER : ER ι I m E a.tmps
  st : St l e0 done val e E L
  sz : a.tmps.size = size
  ds : a.defers = a0.defers
  ext : Ext ι0 I0 m0 w0 ι I m w
  dn : ∀ d ∈ done, d.k ≠ 0 → L d.i
  ls : ∀ d ∈ rest, L d.i → d.k = 2
  beh : ∀ d ∈ done, ¬ L d.i → ∃ e1, KE ops l e0 done val d e1 ∧ (((wantsB ops.toList d.o.guard).f e1 = some true ∧ (opD T d).f e1 m = some (.val (val d.i) m) ∧ (d.i, (opD T d).f e1, val d.i) ∈ rs) ∨ ((wantsB ops.toList d.o.guard).f e1 = some false ∧ val d.i = .tup []))
  ahd : ∀ d ∈ rest, L d.i → ∃ x cs, d.o.dst = some x ∧ a.tmps[x]? = some (.pointer (some ⟨kk d.i, 0, none⟩)) ∧ HB w0 ι I m w (kk d.i) cs ∧ ∀ e m, (opN T d.o.op).f e m = some (.val (.ptr m.n 0) (m.push (.cells cs)))
  inj : ∀ c ∈ rest, ∀ d ∈ rest, L c.i → L d.i → kk c.i = kk d.i → c.i = d.i

variable {X : Ctx} {e0 pe : Env} {size : Nat} {ι0 : Iota} {I0 : Imm} {m0 : Mem} {a0 : Act} {G : Ex × Env × Mem → Prop} {L : Nat → Prop} {a : Act}
variable {done rest : List DO} {val : Nat → NV} {kk : Nat → Nat} {rs : List (Nat × (Mem → Option OpRes) × NV)} {e E : Env}

theorem DI.behOk (hO : OrdOk T ops l) (h : DI T X ops l e0 pe size ι0 I0 m0 w0 a0 G L a w done rest val kk rs e E ι I m) {bs : Nat} (ha : okAfter bs m' rs = true) (hb : ∀ j, bs.testBit j = true → L j) {c : DO} (hc : c ∈ done) (hL : ¬ L c.i) :
    ∃ e1, KE ops l e0 done val c e1 ∧ (((wantsB ops.toList c.o.guard).f e1 = some true ∧ (opD T c).f e1 m' = some (.val (val c.i) m') ∧ (c.i, (opD T c).f e1, val c.i) ∈ rs) ∨ ((wantsB ops.toList c.o.guard).f e1 = some false ∧ val c.i = .tup [])) := by
  obtain ⟨e1, hk, h1⟩ := h.beh c hc hL
  refine ⟨e1, hk, ?_⟩
  rcases h1 with ⟨h1, h2, h3⟩ | h1
  · refine .inl ⟨h1, ?_, h3⟩
    rcases okAfter_mem ha h3 with h4 | h4
    · exact absurd (hb _ h4) hL
    · obtain ⟨m1, h5⟩ := sameRes_inv h4
      have hcl : c ∈ l := by rw [h.sp]; exact List.mem_append_left _ hc
      have hk0 : c.k = 0 := by
        rcases Nat.eq_zero_or_pos c.k with h | h'
        · exact h
        · exact absurd (h.dn c hc (by omega)) hL
      have := opD_stays (hO.k0 c hcl hk0) _ _ h5
      rw [this] at h5
      exact h5
  · exact .inr h1

/-- The evaluator goes on as far as it can. -/
theorem DI.norm (hO : OrdOk T ops l) (hB : ∀ c ∈ l, L c.i → ∀ j, c.b.testBit j = true → L j) : ∀ (rest : List DO) {done : List DO} {val : Nat → NV} {rs : List (Nat × (Mem → Option OpRes) × NV)} {e E : Env} {ι : Iota} {m : Mem},
    DI T X ops l e0 pe size ι0 I0 m0 w0 a0 G L a w done rest val kk rs e E ι I m →
    ∃ done rest val rs e E ι m, DI T X ops l e0 pe size ι0 I0 m0 w0 a0 G L a w done rest val kk rs e E ι I m ∧ (rest = [] ∨ ∃ d r, rest = d :: r ∧ d.k ≠ 0 ∧ ¬ L d.i)
  | [], done, val, rs, e, E, ι, m, h => ⟨_, _, _, _, _, _, _, _, h, .inl rfl⟩
  | d :: r, done, val, rs, e, E, ι, m, h => by
    have hd : d ∈ l := by rw [h.sp]; simp
    have hne := hO.ahead_ne h.sp
    have hmem : ∀ c ∈ done, c ∈ l := fun c hc => by rw [h.sp]; exact List.mem_append_left _ hc
    have hsp' : l = (done ++ [d]) ++ r := by rw [h.sp]; simp
    by_cases hk : d.k = 0
    · have hL : ¬ L d.i := fun hL => by have := h.ls d List.mem_cons_self hL; omega
      have hb : Nat.beq d.k 0 = true := by rw [hk]; rfl
      have mk : ∀ v rs', (∀ r ∈ rs, r ∈ rs') → (∃ res, (drawnB T ops.toList r).f X ⟨rs', pe⟩ (putE e d.o.dst v) m = some res ∧ G res) →
          (((wantsB ops.toList d.o.guard).f e = some true ∧ (opD T d).f e m = some (.val v m) ∧ (d.i, (opD T d).f e, v) ∈ rs') ∨ ((wantsB ops.toList d.o.guard).f e = some false ∧ v = .tup [])) →
          DI T X ops l e0 pe size ι0 I0 m0 w0 a0 G L a w (done ++ [d]) r (updV val d.i v) kk rs' (putE e d.o.dst v) E ι I m := by
        intro v rs' hrs hrun hw
        have hmono : ∀ c e1, KE ops l e0 done val c e1 → KE ops l e0 (done ++ [d]) (updV val d.i v) c e1 := fun c e1 hK => hK.mono (fun x hx => List.mem_append_left _ hx) fun x hx => updV_ne (hne x hx)
        refine ⟨hsp', hrun, h.R, h.ER, h.st.absorb hO h.sp hL v, h.sz, h.ds, h.ext, fun c hc hk' => ?_, fun c hc => h.ls c (List.mem_cons_of_mem _ hc), fun c hc hLc => ?_, fun c hc => h.ahd c (List.mem_cons_of_mem _ hc), fun c hc c' hc' => h.inj c (List.mem_cons_of_mem _ hc) c' (List.mem_cons_of_mem _ hc')⟩
        · rcases List.mem_append.1 hc with hc | hc
          · exact h.dn c hc hk'
          · rw [List.mem_singleton] at hc; subst hc; exact absurd hk hk'
        · rcases List.mem_append.1 hc with hc | hc
          · obtain ⟨e1, h1, h2⟩ := h.beh c hc hLc
            refine ⟨e1, hmono c e1 h1, ?_⟩
            rw [updV_ne (hne c hc)]
            rcases h2 with ⟨h2, h3, h4⟩ | h2
            · exact .inl ⟨h2, h3, hrs _ h4⟩
            · exact .inr h2
          · rw [List.mem_singleton] at hc; subst hc
            refine ⟨e, hmono c e (KE.head hO h.sp h.st), ?_⟩
            rw [updV_same]; exact hw
      obtain ⟨res, hrun, hg⟩ := h.run
      have hrun := drawnB_cons hrun
      simp only [plainB] at hrun
      split at hrun
      · rename_i hw
        simp only [drawnOp, hb, afterRead] at hrun
        split at hrun
        case h_2 => cases hrun
        rename_i v m1 hf
        have := opD_stays (hO.k0 d hd hk) _ _ hf
        subst this
        exact DI.norm hO hB r (mk v _ (fun _ hr => List.mem_cons_of_mem _ hr) ⟨res, hrun, hg⟩ (.inl ⟨hw, hf, List.mem_cons_self⟩))
      · rename_i hw
        exact DI.norm hO hB r (mk (.tup []) rs (fun _ hr => hr) ⟨res, hrun, hg⟩ (.inr ⟨hw, rfl⟩))
      · cases hrun
    · by_cases hL : L d.i
      · have hk2 := h.ls d List.mem_cons_self hL
        obtain ⟨x, cs, hx, htm, hH, hop⟩ := h.ahd d List.mem_cons_self hL
        obtain ⟨p, hp1, hp2, hR'⟩ := h.R.adoptH hH
        have hg : d.o.guard = none := by
          have := (hO.ah done d r h.sp).push
          have hb2 : Nat.beq d.k 2 = true := by rw [hk2]; rfl
          simp only [pushOk, hb2, Bool.and_eq_true, Option.isNone_iff_eq_none] at this
          exact this.2
        obtain ⟨res, hrun, hgr⟩ := h.run
        have hrun := drawnB_cons hrun
        have hb : Nat.beq d.k 0 = false := by rw [hk2]; rfl
        simp only [plainB, hg, wantsB, drawnOp, hb, afterMain, stepB_alloc (hO.k2 d hd hk2), hop] at hrun
        split at hrun
        case h_2 => cases hrun
        rename_i hok
        have hn : maxIdE E ≤ m.n := h.ER.bnd
        have hι : ∀ b, b < m.n → upd ι m.n p b = ι b := fun b hb => upd_lt _ _ hb
        refine DI.norm hO hB r (done := done ++ [d]) (val := updV val d.i (.ptr m.n 0)) (rs := rs) (e := putE e d.o.dst (.ptr m.n 0)) (E := putE E d.o.dst (.ptr m.n 0)) (ι := upd ι m.n p) (m := m.push (.cells cs)) ?_
        refine ⟨hsp', ⟨res, hrun, hgr⟩, hR', ⟨fun t v hv => ?_, ?_⟩, h.st.adopt hO h.sp hL _, h.sz, h.ds, ?_, fun c hc hk' => ?_, fun c hc => h.ls c (List.mem_cons_of_mem _ hc), fun c hc hLc => ?_, fun c hc hLc => ?_, fun c hc c' hc' => h.inj c (List.mem_cons_of_mem _ hc) c' (List.mem_cons_of_mem _ hc')⟩
        · by_cases ht : d.o.dst = some t
          · rw [ht, lookupE_put_same] at hv
            cases hv
            rw [hx] at ht; cases ht
            exact ⟨_, htm, by simp only [V, upd_same, hp1, hp2, Nat.zero_add]⟩
          · rw [lookupE_put_ne ht] at hv
            exact EnvR_congr (fun _ _ _ h => h) (fun b hb => hι b (Nat.lt_of_lt_of_le hb hn)) h.ER.rel t v hv
        · rw [hx]
          simp only [putE, maxIdE, maxId, Mem.push]
          omega
        · have x0 := h.ext
          refine ⟨fun b hb => (hι b (Nat.lt_of_lt_of_le hb x0.n)).trans (x0.iota b hb), Nat.le_trans x0.n (by simp [Mem.push]), x0.imm, x0.size, x0.frame, fun b o hb hl => ?_, x0.os, x0.output, x0.tape, x0.ifoot⟩
          rw [Mem.get_push] at hb
          split at hb
          · rename_i e'; subst e'; rw [upd_same, hp1]; exact .inl hH.lo
          · rw [hι b (Mem.get_lt hb)]; exact x0.foot b o hb hl
        · rcases List.mem_append.1 hc with hc | hc
          · exact h.dn c hc hk'
          · rw [List.mem_singleton] at hc; subst hc; exact hL
        · rcases List.mem_append.1 hc with hc | hc
          · obtain ⟨e1, h1, h2⟩ := h.behOk hO hok (fun j hj => hB d hd hL j hj) hc hLc
            refine ⟨e1, h1.mono (fun x hx => List.mem_append_left _ hx) fun x hx => updV_ne (hne x hx), ?_⟩
            rw [updV_ne (hne c hc)]
            exact h2
          · rw [List.mem_singleton] at hc; subst hc; exact absurd hL hLc
        · obtain ⟨y, cs', hy, hty, hHy, hopy⟩ := h.ahd c (List.mem_cons_of_mem _ hc) hLc
          have hci : c.i ≠ d.i := fun e' => by
            obtain ⟨p1, q1, e1⟩ := List.append_of_mem hc
            have : l = (done ++ d :: p1) ++ c :: q1 := by rw [h.sp, e1]; simp
            exact (hO.pair this (by simp)).ne e'
          refine ⟨y, cs', hy, hty, ⟨hHy.lo, hHy.lt, fun b o hb hl => ?_, hHy.imm, hHy.cells⟩, hopy⟩
          rw [Mem.get_push] at hb
          split at hb
          · rename_i e'; subst e'; rw [upd_same, hp1]
            exact fun e' => hci (h.inj c (List.mem_cons_of_mem _ hc) d List.mem_cons_self hLc hL e'.symm)
          · rw [hι b (Mem.get_lt hb)]; exact hHy.free b o hb hl
      · exact ⟨_, _, _, _, _, _, _, _, h, .inr ⟨d, r, rfl, hk, hL⟩⟩

theorem St.perm {l' : List DO} (hm : ∀ c, c ∈ l' ↔ c ∈ l) (h : St l e0 done val e E L) : St l' e0 done val e E L :=
  ⟨h.c1, h.c2, h.l1, fun x hx => h.l2 x fun d hd => hx d ((hm d).2 hd), h.eb⟩

theorem KE.perm {l' : List DO} (hm : ∀ c, c ∈ l' ↔ c ∈ l) {d : DO} {e1 : Env} (h : KE ops l e0 done val d e1) : KE ops l' e0 done val d e1 := fun x hx => by
  rcases h x hx with h1 | ⟨h1, h2⟩
  · exact .inl h1
  · exact .inr ⟨fun c hc => h1 c ((hm c).1 hc), h2⟩

/-- The other order. -/
theorem DI.swap {c d : DO} (hG : ∀ ex e m m', Sim m m' → G (ex, e, m) → G (ex, e, m')) (hp : isPair c d = true) (h : DI T X ops l e0 pe size ι0 I0 m0 w0 a0 G L a w done [c, d] val kk rs e E ι I m) :
    DI T X ops (done ++ [d, c]) e0 pe size ι0 I0 m0 w0 a0 G L a w done [d, c] val kk rs e E ι I m := by
  have hm : ∀ x, x ∈ done ++ [d, c] ↔ x ∈ l := fun x => by
    rw [h.sp]
    simp only [List.mem_append, List.mem_cons, List.not_mem_nil, or_false]
    constructor <;> (intro h; rcases h with h | h | h <;> simp [h])
  have hr : ∀ x, x ∈ [d, c] → x ∈ [c, d] := fun x hx => by
    simp only [List.mem_cons, List.not_mem_nil, or_false] at hx ⊢
    exact hx.symm
  obtain ⟨res, hrun, hg⟩ := h.run
  obtain ⟨m2, m2', rfl, hrun', hs⟩ := pair_swap h.R.len hp hrun
  refine ⟨rfl, ⟨_, hrun', hG _ _ _ _ hs hg⟩, h.R, h.ER, h.st.perm hm, h.sz, h.ds, h.ext, h.dn, fun x hx => h.ls x (hr x hx), fun x hx hL => ?_, fun x hx => h.ahd x (hr x hx), fun x hx y hy => h.inj x (hr x hx) y (hr y hy)⟩
  obtain ⟨e1, h1, h2⟩ := h.beh x hx hL
  exact ⟨e1, h1.perm hm, h2⟩

end Go.Kn

namespace Go.Kn

variable {T : Tab} {P : Program} {ι ι' : Iota} {I I' : Imm} {m m' : Mem} {w w' w0 : World} {ops : Array Oper} {l : List DO}
variable {X : Ctx} {e0 pe : Env} {size : Nat} {ι0 : Iota} {I0 : Imm} {m0 : Mem} {a0 : Act} {G : Ex × Env × Mem → Prop} {L : Nat → Prop} {a : Act}
variable {done rest : List DO} {val : Nat → NV} {kk : Nat → Nat} {rs : List (Nat × (Mem → Option OpRes) × NV)} {e E : Env}

theorem put_get_ne {a : Act} {d : Option Nat} {x : Nat} {v : Value} (h : d ≠ some x) : (a.put d v).tmps[x]? = a.tmps[x]? := by
  cases d with
  | none => rfl
  | some y =>
    have : y ≠ x := fun e => h (by rw [e])
    simp [Act.put, Array.getElem?_setIfInBounds_ne this]
theorem put_get_same {a : Act} {x : Nat} {v : Value} (h : x < a.tmps.size) : (a.put (some x) v).tmps[x]? = some v := by
  simp [Act.put, h]

theorem undef_V : V ι I (.tup []) undef := by simp only [V, undef]; exact ⟨_, rfl, by simp [VL]⟩

/-- The model does one that the evaluator has done. -/
theorem DI.taken (hO : OrdOk T ops l) (hdst : ∀ o ∈ ops.toList, ∀ d, o.dst = some d → d < size) (h : DI T X ops l e0 pe size ι0 I0 m0 w0 a0 G L a w done rest val kk rs e E ι I m) {d : DO} (hd : d ∈ done)
    {x : Value} (x1 : Ext ι I m w ι' I' m w') (hR : Go.Kn.R ι' I' m w') (hv : V ι' I' (val d.i) x) (hb : maxId (val d.i) ≤ m.n) :
    DI T X ops l e0 pe size ι0 I0 m0 w0 a0 G (fun j => L j ∨ j = d.i) (a.put d.o.dst x) w' done rest val kk rs e (putE E d.o.dst (val d.i)) ι' I' m := by
  have hmem : ∀ c ∈ done, c ∈ l := fun c hc => by rw [h.sp]; exact List.mem_append_left _ hc
  have hmem' : ∀ c ∈ rest, c ∈ l := fun c hc => by rw [h.sp]; exact List.mem_append_right _ hc
  have hne : ∀ c ∈ rest, c.i ≠ d.i := fun c hc e' => by
    obtain ⟨p, q, e1⟩ := List.append_of_mem hc
    exact (hO.pair (p := done ++ p) (q := q) (d := c) (by rw [h.sp, e1]; simp) (List.mem_append_left _ hd)).ne e'
  have hdm : d.o ∈ ops.toList := List.mem_of_getElem? (by rw [Array.getElem?_toList]; exact hO.at_ d (hmem d hd) : ops.toList[d.i]? = some d.o)
  refine ⟨h.sp, h.run, hR, (h.ER.ext x1).put (fun k hk => by rw [h.sz]; exact hdst _ hdm k hk) hv hb, h.st.take hO h.sp hd, by rw [put_size]; exact h.sz, by rw [put_defers]; exact h.ds, h.ext.trans x1, fun c hc hk => .inl (h.dn c hc hk), fun c hc hL => ?_, fun c hc hL => h.beh c hc fun h' => hL (.inl h'), fun c hc hL => ?_, fun c hc c' hc' hL hL' => ?_⟩
  · rcases hL with h1 | h1
    · exact h.ls c hc h1
    · exact absurd h1 (hne c hc)
  · have hL : L c.i := by rcases hL with h1 | h1; exact h1; exact absurd h1 (hne c hc)
    obtain ⟨y, cs, h1, h2, h3, h4⟩ := h.ahd c hc hL
    refine ⟨y, cs, h1, ?_, h3.ext x1, h4⟩
    rw [put_get_ne fun e' => hO.dst (hmem' c hc) (hmem d hd) (hne c hc) h1 e' rfl]
    exact h2
  · have hL : L c.i := by rcases hL with h1 | h1; exact h1; exact absurd h1 (hne c hc)
    have hL' : L c'.i := by rcases hL' with h1 | h1; exact h1; exact absurd h1 (hne c' hc')
    exact h.inj c hc c' hc' hL hL'

/-- Both do the next one. -/
theorem DI.both (hO : OrdOk T ops l) (hB : ∀ c ∈ l, L c.i → ∀ j, c.b.testBit j = true → L j) (hdst : ∀ o ∈ ops.toList, ∀ d, o.dst = some d → d < size) {d : DO} {r : List DO} (h : DI T X ops l e0 pe size ι0 I0 m0 w0 a0 G L a w done (d :: r) val kk rs e E ι I m) (hL : ¬ L d.i) (hbits : ∀ j, d.b.testBit j = true → L j)
    {x : Value} {v : NV} (x1 : Ext ι I m w ι' I' m' w') (hR : Go.Kn.R ι' I' m' w') (hv : V ι' I' v x) (hb : maxId v ≤ m'.n) (hok : m' = m ∨ okAfter d.b m' rs = true) (hrun : ∃ res, (drawnB T ops.toList r).f X ⟨rs, pe⟩ (putE e d.o.dst v) m' = some res ∧ G res) :
    DI T X ops l e0 pe size ι0 I0 m0 w0 a0 G (fun j => L j ∨ j = d.i) (a.put d.o.dst x) w' (done ++ [d]) r (updV val d.i v) kk rs (putE e d.o.dst v) (putE E d.o.dst v) ι' I' m' := by
  have hne := hO.ahead_ne h.sp
  have hmem : ∀ c ∈ done, c ∈ l := fun c hc => by rw [h.sp]; exact List.mem_append_left _ hc
  have hd : d ∈ l := by rw [h.sp]; simp
  have hsp' : l = (done ++ [d]) ++ r := by rw [h.sp]; simp
  have hmem' : ∀ c ∈ r, c ∈ l := fun c hc => by rw [hsp']; exact List.mem_append_right _ hc
  have hner : ∀ c ∈ r, c.i ≠ d.i := fun c hc e' => by
    obtain ⟨p, q, e1⟩ := List.append_of_mem hc
    exact (hO.pair (p := done ++ d :: p) (q := q) (d := c) (by rw [h.sp, e1]; simp) (by simp)).ne e'
  have hdm : d.o ∈ ops.toList := List.mem_of_getElem? (by rw [Array.getElem?_toList]; exact hO.at_ d hd : ops.toList[d.i]? = some d.o)
  have hst := (h.st.absorb hO h.sp hL v).take hO hsp' (d := d) (by simp)
  rw [updV_same] at hst
  refine ⟨hsp', hrun, hR, (h.ER.ext x1).put (fun k hk => by rw [h.sz]; exact hdst _ hdm k hk) hv hb, hst, by rw [put_size]; exact h.sz, by rw [put_defers]; exact h.ds, h.ext.trans x1, fun c hc hk => ?_, fun c hc hL' => ?_, fun c hc hL' => ?_, fun c hc hL' => ?_, fun c hc c' hc' hLc hLc' => ?_⟩
  · rcases List.mem_append.1 hc with hc | hc
    · exact .inl (h.dn c hc hk)
    · rw [List.mem_singleton] at hc; subst hc; exact .inr rfl
  · rcases hL' with h1 | h1
    · exact h.ls c (List.mem_cons_of_mem _ hc) h1
    · exact absurd h1 (hner c hc)
  · rcases List.mem_append.1 hc with hc | hc
    · have hLc : ¬ L c.i := fun h' => hL' (.inl h')
      have h0 : ∃ e1, KE ops l e0 done val c e1 ∧ (((wantsB ops.toList c.o.guard).f e1 = some true ∧ (opD T c).f e1 m' = some (.val (val c.i) m') ∧ (c.i, (opD T c).f e1, val c.i) ∈ rs) ∨ ((wantsB ops.toList c.o.guard).f e1 = some false ∧ val c.i = .tup [])) := by
        rcases hok with rfl | hok
        · exact h.beh c hc hLc
        · exact h.behOk hO hok hbits hc hLc
      obtain ⟨e1, h1, h2⟩ := h0
      refine ⟨e1, h1.mono (fun x hx => List.mem_append_left _ hx) fun x hx => updV_ne (hne x hx), ?_⟩
      rw [updV_ne (hne c hc)]
      exact h2
    · rw [List.mem_singleton] at hc; subst hc; exact absurd (.inr rfl) hL'
  · have hLc : L c.i := by rcases hL' with h1 | h1; exact h1; exact absurd h1 (hner c hc)
    obtain ⟨y, cs, h1, h2, h3, h4⟩ := h.ahd c (List.mem_cons_of_mem _ hc) hLc
    refine ⟨y, cs, h1, ?_, h3.ext x1, h4⟩
    rw [put_get_ne fun e' => hO.dst (hmem' c hc) hd (hner c hc) h1 e' rfl]
    exact h2
  · have h1 : L c.i := by rcases hLc with h1 | h1; exact h1; exact absurd h1 (hner c hc)
    have h2 : L c'.i := by rcases hLc' with h1 | h1; exact h1; exact absurd h1 (hner c' hc')
    exact h.inj c (List.mem_cons_of_mem _ hc) c' (List.mem_cons_of_mem _ hc') h1 h2

/-- The model makes a block that the evaluator makes later. -/
theorem DI.early (hT : TabOk T P) (hO : OrdOk T ops l) (hdst : ∀ o ∈ ops.toList, ∀ d, o.dst = some d → d < size) (h : DI T X ops l e0 pe size ι0 I0 m0 w0 a0 G L a w done rest val kk rs e E ι I m) {d : DO} (hd : d ∈ rest) (hk : d.k = 2) (hL : ¬ L d.i) :
    ∃ ob, (execOp a.eval d.o).run P w = .ok (.value (.pointer (some ⟨w.heap.size, 0, none⟩))) (w.alloc ob) ∧
      ∃ kk' E', DI T X ops l e0 pe size ι0 I0 m0 w0 a0 G (fun j => L j ∨ j = d.i) (a.put d.o.dst (.pointer (some ⟨w.heap.size, 0, none⟩))) (w.alloc ob) done rest val kk' rs e E' ι I m := by
  have hmem' : ∀ c ∈ rest, c ∈ l := fun c hc => by rw [h.sp]; exact List.mem_append_right _ hc
  have hdl := hmem' d hd
  obtain ⟨cs, arr, el, hop, hVL, hmx, hrun⟩ := alloc_run (a := a) hT (hO.k2 d hdl hk) w
  have hne : ∀ c ∈ done, c.i ≠ d.i := fun c hc e' => by
    obtain ⟨p, q, e1⟩ := List.append_of_mem hd
    exact (hO.pair (p := done ++ p) (q := q) (d := d) (by rw [h.sp, e1]; simp) (List.mem_append_left _ hc)).ne e'.symm
  have hdm : d.o ∈ ops.toList := List.mem_of_getElem? (by rw [Array.getElem?_toList]; exact hO.at_ d hdl : ops.toList[d.i]? = some d.o)
  obtain ⟨p, q, e1⟩ := List.append_of_mem hdl
  have hpush := (hO.ah p d q e1).push
  have hb2 : Nat.beq d.k 2 = true := by rw [hk]; rfl
  simp only [pushOk, hb2, Bool.and_eq_true, Option.isSome_iff_exists] at hpush
  obtain ⟨⟨x, hx⟩, _⟩ := hpush
  obtain ⟨hR', x1⟩ := Go.Kn.R.alloc h.R (.cells arr el)
  refine ⟨_, hrun, fun j => if j = d.i then w.heap.size else kk j, putE E d.o.dst .unk, ?_⟩
  have hkn : ∀ c ∈ rest, c.i ≠ d.i → L c.i → kk c.i < w.heap.size := fun c hc _ hLc => by
    obtain ⟨y, cs, h1, h2, h3, h4⟩ := h.ahd c hc hLc
    exact h3.lt
  have hxs : x < a.tmps.size := by rw [h.sz]; exact hdst _ hdm x hx
  refine ⟨h.sp, h.run, hR', (h.ER.ext x1).put (fun k hk => by rw [h.sz]; exact hdst _ hdm k hk) (by simp only [V]; rfl) (by simp [maxId]), h.st.early hO h.sp hd .unk, by rw [put_size]; exact h.sz, by rw [put_defers]; exact h.ds, h.ext.trans x1, fun c hc hk => .inl (h.dn c hc hk), fun c hc hL' => ?_, fun c hc hL' => h.beh c hc fun h' => hL' (.inl h'), fun c hc hL' => ?_, fun c hc c' hc' hLc hLc' hkk => ?_⟩
  · rcases hL' with h1 | h1
    · exact h.ls c hc h1
    · rw [hO.uniq (hmem' c hc) hdl h1]; exact hk
  · by_cases hci : c.i = d.i
    · have := hO.uniq (hmem' c hc) hdl hci
      subst this
      refine ⟨x, cs, hx, ?_, ⟨by simpa using h.ext.size, by simp, fun b o hb hl => ?_, fun o => ?_, ?_⟩, hop⟩
      · simp only [if_pos]
        rw [hx, put_get_same hxs]
      · simp only [if_pos]
        have := BR_lt hl (h.R.blk b o hb)
        omega
      · simp only [if_pos]
        cases hI : I w.heap.size o with
        | none => rfl
        | some x => exact absurd (imm_lt (h.R.imm _ _ _ hI)) (Nat.lt_irrefl _)
      · simp only [if_pos]
        exact ⟨arr, el, World.alloc_heap_new w _, hVL, hmx⟩
    · have hLc : L c.i := by rcases hL' with h1 | h1; exact h1; exact absurd h1 hci
      obtain ⟨y, cs', h1, h2, h3, h4⟩ := h.ahd c hc hLc
      simp only [if_neg hci]
      refine ⟨y, cs', h1, ?_, h3.ext x1, h4⟩
      rw [put_get_ne fun e' => hO.dst (hmem' c hc) hdl hci h1 e' rfl]
      exact h2
  · by_cases h1 : c.i = d.i
    · by_cases h2 : c'.i = d.i
      · exact h1.trans h2.symm
      · have hL2 : L c'.i := by rcases hLc' with h3 | h3; exact h3; exact absurd h3 h2
        simp only [if_pos h1, if_neg h2] at hkk
        have := hkn c' hc' h2 hL2; omega
    · have hL1 : L c.i := by rcases hLc with h3 | h3; exact h3; exact absurd h3 h1
      by_cases h2 : c'.i = d.i
      · simp only [if_neg h1, if_pos h2] at hkk
        have := hkn c hc h1 hL1; omega
      · have hL2 : L c'.i := by rcases hLc' with h3 | h3; exact h3; exact absurd h3 h2
        simp only [if_neg h1, if_neg h2] at hkk
        exact h.inj c hc c' hc' hL1 hL2 hkk

/-- What is asked at a region's end. -/
theorem DI.fr (h : DI T X ops l e0 pe size ι0 I0 m0 w0 a0 G L a w done rest val kk rs e E ι I m) {base : Option Nat} {e1 : Env} {fr : Fr} (hfr : FR base ι0 I0 m0 w0 e1 fr a0) (x : Ext ι0 I0 m0 w0 ι' I' m' w') {e2 : Env} (hE : Go.Kn.ER ι' I' m' e2 a.tmps) : FR base ι' I' m' w' e2 fr a := by
  have := hfr.ext x
  exact ⟨hE, by rw [h.ds]; exact this.ds, this.bnd, by rw [h.ds]; exact this.nod⟩

/-- The next one, done by both. -/
theorem DI.head (hT : TabOk T P) (hC : CallOk T P X.C) (hY : YieldOk T P X.Y) {F : Fence} (hF : WF F) {n : Nat} {base : Option Nat} {Q : Exit → Act → World → Prop} {fr : Fr} (hO : OrdOk T ops l) (hdst : ∀ o ∈ ops.toList, ∀ d, o.dst = some d → d < size) (hro : F.round = none ∨ ∀ o ∈ ops.toList, ∀ c, o.op ≠ .defer c)
    (hG : GlobOk T I0) (hfr : FR base ι0 I0 m0 w0 e0 fr a0) (hpe : ∀ x v, lookupE pe x = some v → lookupE e0 x = some v ∧ ∀ d ∈ l, d.o.dst ≠ some x) (hpb : maxIdE pe ≤ maxIdE e0)
    (hP : ∀ res, G res → Post base size ι0 I0 m0 w0 Q ⟨res.1, res.2.1, res.2.2, fr⟩)
    (hB : ∀ c ∈ l, L c.i → ∀ j, c.b.testBit j = true → L j) {d : DO} {r : List DO}
    (h : DI T X ops l e0 pe size ι0 I0 m0 w0 a0 G L a w done (d :: r) val kk rs e E ι I m) (hk0 : d.k ≠ 0) (hL : ¬ L d.i) (hbits : ∀ j, d.b.testBit j = true → L j) {K : Act → World → Prop}
    (hK : ∀ a' w' done rest val kk rs e E ι I m, DI T X ops l e0 pe size ι0 I0 m0 w0 a0 G (fun j => L j ∨ j = d.i) a' w' done rest val kk rs e E ι I m → K a' w') : wpOpIn F n P ops Q d.i K a w := by
  have hdl : d ∈ l := by rw [h.sp]; simp
  have hdm : d.o ∈ ops.toList := List.mem_of_getElem? (by rw [Array.getElem?_toList]; exact hO.at_ d hdl : ops.toList[d.i]? = some d.o)
  have hro' : F.round = none ∨ ∀ c, d.o.op ≠ .defer c := hro.imp id fun h => h d.o hdm
  have hGI := hG.mono h.ext.imm
  have hcl : ∀ c ∈ l, L c.i → c.b.testBit d.i = true → L d.i := fun c hc hLc hb => hB c hc hLc _ hb
  unfold wpOpIn
  simp only [hO.at_ d hdl]
  have hag := (KE.head hO h.sp h.st).agree hO h.sp h.st hdl (fun c hc hb => hbits _ hb) hcl hL
  obtain ⟨res, hrun, hgr⟩ := h.run
  have hrun := drawnB_cons hrun
  have hb0 : Nat.beq d.k 0 = false := by
    cases hb : Nat.beq d.k 0 with
    | false => rfl
    | true => exact absurd (Nat.eq_of_beq_eq_true hb) hk0
  simp only [plainB, drawnOp, hb0] at hrun
  split at hrun
  · rename_i hw
    rw [wantsB_congr hag] at hw
    simp only [wanted_sound h.ER hw, if_true]
    cases hs : (stepB T d.o.op).f X e m with
    | none => rw [hs] at hrun; cases hrun
    | some sr =>
      rw [hs] at hrun
      rw [stepB_congr hag.opers] at hs
      have hA : After P F d.o a w ι I m sr K Q := by
        refine ⟨fun v m1 hv x w1 ι1 I1 q1 q2 q3 q4 => ?_, fun v m1 hv x w1 ι1 I1 q1 q2 q3 q4 => ?_, fun f args m1 hv => ?_, fun m1 hv => ?_⟩
        · subst hv
          simp only [afterMain] at hrun
          split at hrun
          case h_2 => cases hrun
          rename_i hok
          exact hK _ _ _ _ _ _ _ _ _ _ _ _ (h.both hO hB hdst hL hbits q4 q3 q1 q2 (.inr hok) ⟨res, hrun, hgr⟩)
        · subst hv
          simp only [afterMain, Option.some.injEq] at hrun
          subst hrun
          have x2 := h.ext.trans q4
          refine hP _ hgr a w1 ι1 I1 _ q3 (h.fr hfr x2 ⟨fun t u hu => ?_, ?_⟩) x2 h.sz ⟨x, rfl, q1, q2⟩
          · obtain ⟨h1, h2⟩ := hpe t u hu
            exact (h.ER.ext q4).rel t u (by rw [h.st.l2 t fun c hc _ => h2 c hc]; exact h1)
          · exact Nat.le_trans hpb (Nat.le_trans hfr.env.bnd x2.n)
        · subst hv; cases hrun
        · subst hv; cases hrun
      unfold stepB at hs
      split at hs
      · rename_i c ho
        split at hs
        · exact call_wpIn hT hGI h.R h.ER hC hY hF ho hs hA
        · have hop : (opN T d.o.op).f E m = some sr := by rw [ho]; exact hs
          exact op_wpIn hF (.inr fun c' hc' => by rw [ho] at hc'; cases hc') (opN_sound hT hGI h.R h.ER hop) hA
      · exact op_wpIn hF hro' (opN_sound hT hGI h.R h.ER hs) hA
  · rename_i hw
    rw [wantsB_congr hag] at hw
    simp only [wanted_sound h.ER hw, Bool.false_eq_true, if_false]
    refine ⟨fun f _ => hF.fn f, ?_⟩
    exact hK _ _ _ _ _ _ _ _ _ _ _ _ (h.both hO hB hdst hL hbits (x := undef) (Ext.refl _ _ _ _) h.R undef_V (by simp [maxId, maxIds]) (.inl rfl) ⟨res, hrun, hgr⟩)
  · cases hrun

theorem DI.step (hT : TabOk T P) (hC : CallOk T P X.C) (hY : YieldOk T P X.Y) {F : Fence} (hF : WF F) {n : Nat} {base : Option Nat} {Q : Exit → Act → World → Prop} {fr : Fr} {Fm : List DO → Prop} (hFm : Fam T ops Fm) (hl : Fm l) (hdst : ∀ o ∈ ops.toList, ∀ d, o.dst = some d → d < size) (hro : F.round = none ∨ ∀ o ∈ ops.toList, ∀ c, o.op ≠ .defer c)
    (hG : GlobOk T I0) (hfr : FR base ι0 I0 m0 w0 e0 fr a0) (hpe : ∀ x v, lookupE pe x = some v → lookupE e0 x = some v ∧ ∀ o ∈ ops.toList, o.dst ≠ some x) (hpb : maxIdE pe ≤ maxIdE e0)
    (hP : ∀ res, G res → Post base size ι0 I0 m0 w0 Q ⟨res.1, res.2.1, res.2.2, fr⟩) (hGs : ∀ ex e m m', Sim m m' → G (ex, e, m) → G (ex, e, m'))
    (hB : ∀ c ∈ l, L c.i → ∀ j, c.b.testBit j = true → L j)
    (h : DI T X ops l e0 pe size ι0 I0 m0 w0 a0 G L a w done rest val kk rs e E ι I m) (hhead : rest = [] ∨ ∃ d r, rest = d :: r ∧ d.k ≠ 0 ∧ ¬ L d.i)
    {d : DO} (hdl : d ∈ l) (hL : ¬ L d.i) (hbits : ∀ j, d.b.testBit j = true → L j) {K : Act → World → Prop}
    (hK : ∀ l', Fm l' → ∀ a' w' done rest val kk rs e E ι I m, DI T X ops l' e0 pe size ι0 I0 m0 w0 a0 G (fun j => L j ∨ j = d.i) a' w' done rest val kk rs e E ι I m → K a' w') : wpOpIn F n P ops Q d.i K a w := by
  have hO := hFm.ok l hl
  have hin' : ∀ {l' : List DO}, OrdOk T ops l' → ∀ x v, lookupE pe x = some v → lookupE e0 x = some v ∧ ∀ d ∈ l', d.o.dst ≠ some x := fun hO' x v hx => ⟨(hpe x v hx).1, fun d hd => (hpe x v hx).2 d.o (List.mem_of_getElem? (by rw [Array.getElem?_toList]; exact hO'.at_ d hd : ops.toList[d.i]? = some d.o))⟩
  have hdm : d.o ∈ ops.toList := List.mem_of_getElem? (by rw [Array.getElem?_toList]; exact hO.at_ d hdl : ops.toList[d.i]? = some d.o)
  have hro' : F.round = none ∨ ∀ c, d.o.op ≠ .defer c := hro.imp id fun h => h d.o hdm
  have hGI := hG.mono h.ext.imm
  have hcl : ∀ c ∈ l, L c.i → c.b.testBit d.i = true → L d.i := fun c hc hLc hb => hB c hc hLc _ hb
  have hin := hdl
  rw [h.sp] at hin
  rcases List.mem_append.1 hin with hd | hd
  · -- done by the evaluator
    unfold wpOpIn
    simp only [hO.at_ d hdl]
    obtain ⟨e1, hK1, hw⟩ := h.beh d hd hL
    have hag := hK1.agree hO h.sp h.st hdl (fun c hc hb => hbits _ hb) hcl hL
    rcases hw with ⟨hw, hop, _⟩ | ⟨hw, hv⟩
    · rw [wantsB_congr hag] at hw
      rw [opD_congr hag] at hop
      simp only [wanted_sound h.ER hw, if_true]
      refine op_wpIn hF hro' (opD_sound hT hGI h.R h.ER hop) ⟨fun v m1 hv x w1 ι1 I1 q1 q2 q3 q4 => ?_, fun v m1 hv => (by cases hv), fun f args m1 hv => (by cases hv), fun m1 hv => (by cases hv)⟩
      cases hv
      exact hK l hl _ _ _ _ _ _ _ _ _ _ _ _ (h.taken hO hdst hd q4 q3 q1 q2)
    · rw [wantsB_congr hag] at hw
      simp only [wanted_sound h.ER hw, Bool.false_eq_true, if_false]
      refine ⟨fun f _ => hF.fn f, ?_⟩
      exact hK l hl _ _ _ _ _ _ _ _ _ _ _ _ (h.taken hO hdst hd (x := undef) (Ext.refl _ _ _ _) h.R (by rw [hv]; exact undef_V) (by rw [hv]; simp [maxId, maxIds]))
  · by_cases hk2 : d.k = 2
    · unfold wpOpIn
      simp only [hO.at_ d hdl]
      obtain ⟨ob, hrun, kk', E', hDI⟩ := h.early hT hO hdst hd hk2 hL
      obtain ⟨p, q, e1⟩ := List.append_of_mem hdl
      have hpush := (hO.ah p d q e1).push
      have hb2 : Nat.beq d.k 2 = true := by rw [hk2]; rfl
      simp only [pushOk, hb2, Bool.and_eq_true, Option.isNone_iff_eq_none] at hpush
      have hw : Region.wanted d.o (yielded ops a.tmps) = true := by simp only [Region.wanted, hpush.2]
      simp only [hw, if_true]
      refine ⟨fun f _ => hF.fn f, ?_⟩
      have hsem : Oper.semAt F.round a.eval d.o = execOp a.eval d.o := by
        rcases hro' with h | h
        · rw [h]; rfl
        · exact Oper.semAt_eq _ _ _ h
      rw [hsem, hrun]
      exact hK l hl _ _ _ _ _ _ _ _ _ _ _ _ hDI
    · rcases hhead with hnil | ⟨d0, r, hr, hk0, hL0⟩
      · rw [hnil] at hd; cases hd
      · subst hr
        rcases List.mem_cons.1 hd with h1 | h1
        · subst h1
          exact h.head hT hC hY hF hO hdst hro hG hfr (hin' hO) hpb hP hB hk0 hL hbits (hK l hl)
        · obtain ⟨p, q, e1⟩ := List.append_of_mem h1
          have hsplit : l = (done ++ d0 :: p) ++ d :: q := by rw [h.sp, e1]; simp
          have hbit : ¬ d.b.testBit d0.i = true := fun h2 => hL0 (hbits _ h2)
          have hpr := hO.pair (p := done ++ d0 :: p) (q := q) (d := d) (c := d0) hsplit (by simp)
          rcases hpr.ord with h2 | h2 | h2 | ⟨h2, h3⟩
          · exact absurd h2 hk2
          · exact absurd h2 hk0
          · exact absurd h2 hbit
          · have hr1 : r = [d] := by
              rcases hO.st done d0 r h.sp with ⟨x, hx⟩ | hx
              · rw [hx] at h1 ⊢
                rw [List.mem_singleton] at h1; rw [h1]
              · rcases hx d h1 with h4 | h4 | h4
                · exact absurd h4 hk2
                · exact absurd h4 hk0
                · exact absurd h4 hbit
            subst hr1
            have hb2 : d0.b.testBit d.i = false := by
              cases hb : d0.b.testBit d.i with
              | false => rfl
              | true =>
                obtain ⟨c, hc, hi⟩ := (hO.ah done d0 [d] h.sp).bits d.i hb
                have hcl : c ∈ l := by rw [h.sp]; exact List.mem_append_left _ hc
                have := hO.uniq hcl hdl hi
                subst this
                exact absurd rfl ((hO.pair (p := done ++ [d0]) (q := []) (d := c) (c := c) (by rw [h.sp]; simp) (by simp [hc])).ne)
            have hp : isPair d0 d = true := by
              unfold isPair
              rw [h2, h3, hb2]
              cases hb : d.b.testBit d0.i with
              | false => rfl
              | true => exact absurd hb hbit
            have hl' : Fm (done ++ [d, d0]) := hFm.sw done d0 d (by rw [← h.sp]; exact hl) hp
            have hO' := hFm.ok _ hl'
            have hm : ∀ x, x ∈ done ++ [d, d0] → x ∈ l := fun x hx => by
              rw [h.sp]
              simp only [List.mem_append, List.mem_cons, List.not_mem_nil, or_false] at hx ⊢
              rcases hx with h | h | h <;> simp [h]
            have hkd : d.k ≠ 0 := by
              unfold isSt at h3
              split at h3
              · have := Nat.eq_of_beq_eq_true h3; omega
              · cases h3
            exact (h.swap hGs hp).head hT hC hY hF hO' hdst hro hG hfr (hin' hO') hpb hP (fun c hc => hB c (hm c hc)) hkd hL hbits (hK _ hl')

theorem all_listed (hstep : ∀ p d q, l = p ++ d :: q → (∀ c ∈ p, L c.i) → L d.i) : ∀ (q p : List DO), l = p ++ q → (∀ c ∈ p, L c.i) → ∀ c ∈ l, L c.i
  | [], p, e, h, c, hc => h c (by rw [e] at hc; simpa using hc)
  | d :: q, p, e, h, c, hc => all_listed hstep q (p ++ [d]) (by rw [e]; simp) (fun c hc => by
      rcases List.mem_append.1 hc with h1 | h1
      · exact h c h1
      · rw [List.mem_singleton] at h1; subst h1; exact hstep p c q e h) c hc

theorem DI.finish (hO : OrdOk T ops l) {base : Option Nat} {Q : Exit → Act → World → Prop} {fr : Fr} (hfr : FR base ι0 I0 m0 w0 e0 fr a0) (hP : ∀ res, G res → Post base size ι0 I0 m0 w0 Q ⟨res.1, res.2.1, res.2.2, fr⟩)
    (h : DI T X ops l e0 pe size ι0 I0 m0 w0 a0 G L a w done rest val kk rs e E ι I m) (hhead : rest = [] ∨ ∃ d r, rest = d :: r ∧ d.k ≠ 0 ∧ ¬ L d.i) (hall : ∀ c ∈ l, L c.i) : Q .normal a w := by
  rcases hhead with hnil | ⟨d, r, hr, _, hL⟩
  · subst hnil
    have hsp : l = done := by rw [h.sp]; simp
    obtain ⟨res, hrun, hgr⟩ := h.run
    simp only [drawnB, nilB, Option.some.injEq] at hrun
    subst hrun
    have hE := h.ER
    refine hP _ hgr a w ι I .normal h.R (h.fr hfr h.ext ⟨fun t v hv => hE.rel t v ?_, h.st.eb _ (Nat.le_trans hfr.env.bnd h.ext.n) fun d hd x hx => ?_⟩) h.ext h.sz rfl
    · rw [← hv]
      by_cases hex : ∃ d ∈ done, d.o.dst = some t
      · obtain ⟨d, hd, hdt⟩ := hex
        rw [h.st.c1 d hd t hdt, h.st.l1 d hd (hall d (by rw [hsp]; exact hd)) t hdt]
      · have hno : ∀ d ∈ done, d.o.dst ≠ some t := fun d hd he => hex ⟨d, hd, he⟩
        rw [h.st.c2 t hno, h.st.l2 t fun d hd _ => hno d (by rw [← hsp]; exact hd)]
    · have := h.st.l1 d hd (hall d (by rw [hsp]; exact hd)) x hx
      exact Nat.le_trans (lookupE_max this) hE.bnd
  · subst hr
    exact absurd (hall d (by rw [h.sp]; simp)) hL

theorem count_set {r : Array Bool} {i : Nat} (hi : r.getD i true = false) : (r.setIfInBounds i true).toList.count false < r.toList.count false := by
  have hlt : i < r.size := by
    rcases Nat.lt_or_ge i r.size with h | h
    · exact h
    · rw [Array.getD_eq_getD_getElem?, Array.getElem?_eq_none h] at hi; simp at hi
  have hv : r.toList[i]? = some false := by
    rw [Array.getD_eq_getD_getElem?, Array.getElem?_eq_getElem hlt] at hi
    rw [Array.getElem?_toList, Array.getElem?_eq_getElem hlt]
    simpa using hi
  rw [Array.toList_setIfInBounds]
  obtain ⟨p, q, e, hp⟩ : ∃ p q, r.toList = p ++ false :: q ∧ p.length = i := by
    refine ⟨r.toList.take i, r.toList.drop (i + 1), ?_, by simp; omega⟩
    have hlt' : i < r.toList.length := by simpa using hlt
    rw [List.getElem?_eq_getElem hlt', Option.some.injEq] at hv
    have := List.take_append_drop i r.toList
    rw [List.drop_eq_getElem_cons hlt', hv] at this
    exact this.symm
  rw [e, ← hp, List.set_append_right _ _ (Nat.le_refl _), Nat.sub_self, List.set_cons_zero, List.count_append, List.count_append]
  simp

theorem draw_main (hT : TabOk T P) (hC : CallOk T P X.C) (hY : YieldOk T P X.Y) {F : Fence} (hF : WF F) {n : Nat} {base : Option Nat} {Q : Exit → Act → World → Prop} {fr : Fr} {Fm : List DO → Prop} (hFm : Fam T ops Fm) (hdst : ∀ o ∈ ops.toList, ∀ d, o.dst = some d → d < size) (hro : F.round = none ∨ ∀ o ∈ ops.toList, ∀ c, o.op ≠ .defer c)
    (hG : GlobOk T I0) (hfr : FR base ι0 I0 m0 w0 e0 fr a0) (hpe : ∀ x v, lookupE pe x = some v → lookupE e0 x = some v ∧ ∀ o ∈ ops.toList, o.dst ≠ some x) (hpb : maxIdE pe ≤ maxIdE e0)
    (hP : ∀ res, G res → Post base size ι0 I0 m0 w0 Q ⟨res.1, res.2.1, res.2.2, fr⟩) (hGs : ∀ ex e m m', Sim m m' → G (ex, e, m) → G (ex, e, m')) :
    ∀ (fuel : Nat) (listed : Array Bool) (a : Act) (w : World), listed.size = ops.size → listed.toList.count false ≤ fuel → (∀ (j : Nat) o, ops[j]? = some o → listed.getD j false = true → ∀ e ∈ o.after.toList, Region.binds .any e = true → listed.getD e.on false = true) →
      (∃ l done rest val kk rs e E ι I m, Fm l ∧ DI T X ops l e0 pe size ι0 I0 m0 w0 a0 G (fun j => listed.getD j false = true) a w done rest val kk rs e E ι I m) →
      wpAnyIn F n P .any ops Q fuel listed a w := by
  have fin : ∀ (listed : Array Bool) (a : Act) (w : World), listed.size = ops.size → (∀ (j : Nat) o, ops[j]? = some o → listed.getD j false = true → ∀ e ∈ o.after.toList, Region.binds .any e = true → listed.getD e.on false = true) →
      (∃ l done rest val kk rs e E ι I m, Fm l ∧ DI T X ops l e0 pe size ι0 I0 m0 w0 a0 G (fun j => listed.getD j false = true) a w done rest val kk rs e E ι I m) → Region.ready .any ops listed = [] → Q .normal a w := by
    intro listed a w hls hcl hDI hnil
    obtain ⟨l, done, rest, val, kk, rs, e, E, ι, I, m, hl, h⟩ := hDI
    have hO := hFm.ok l hl
    have hB : ∀ c ∈ l, listed.getD c.i false = true → ∀ j, c.b.testBit j = true → listed.getD j false = true := fun c hc hLc j hj => by
      rw [hO.b c hc] at hj
      exact before_sound (L := fun j => listed.getD j false = true) hcl (hO.at_ c hc) (hcl c.i c.o (hO.at_ c hc) hLc) j hj
    obtain ⟨done, rest, val, rs, e, E, ι, m, h, hhead⟩ := DI.norm hO hB rest h
    have hall := all_listed (l := l) (L := fun j => listed.getD j false = true) (fun p d q ep hp => by
      cases hd : listed.getD d.i false with
      | true => rfl
      | false =>
        have hdl : d ∈ l := by rw [ep]; simp
        have hsz := (Array.getElem?_eq_some_iff.1 (hO.at_ d hdl)).1
        have hmr : d.i ∈ Region.ready .any ops listed := by
          refine mem_ready.2 ⟨?_, d.o, hO.at_ d hdl, fun e he hb => ?_⟩
          · have hlt : d.i < listed.size := by omega
            rw [Array.getD_eq_getD_getElem?, Array.getElem?_eq_getElem hlt] at hd ⊢
            simpa using hd
          · obtain ⟨c, hc, hi⟩ := (hO.ah p d q ep).edges e (by simpa using he) hb
            rw [← hi]; exact hp c hc
        rw [hnil] at hmr; cases hmr) l [] rfl (fun c hc => by cases hc)
    exact h.finish hO hfr hP hhead hall
  intro fuel
  induction fuel with
  | zero =>
    intro listed a w hls hc hcl hDI
    have hnil : Region.ready .any ops listed = [] := by
      cases hr : Region.ready .any ops listed with
      | nil => rfl
      | cons i r =>
        have hi : i ∈ Region.ready .any ops listed := by rw [hr]; exact List.mem_cons_self
        have := count_set (mem_ready.1 hi).1
        omega
    exact ⟨hnil, fin listed a w hls hcl hDI hnil⟩
  | succ fuel ih =>
    intro listed a w hls hc hcl hDI
    refine ⟨fin listed a w hls hcl hDI, fun i hi => ?_⟩
    obtain ⟨hiu, o, ho, hed⟩ := mem_ready.1 hi
    have hsz := (Array.getElem?_eq_some_iff.1 ho).1
    obtain ⟨l, done, rest, val, kk, rs, e, E, ι, I, m, hl, h⟩ := hDI
    have hO := hFm.ok l hl
    obtain ⟨d, hdl, rfl⟩ := hO.all i hsz
    have hod := hO.at_ d hdl
    have : d.o = o := by rw [ho] at hod; exact (Option.some.inj hod).symm
    subst this
    have hL : ¬ listed.getD d.i false = true := by
      have hlt : d.i < listed.size := by omega
      rw [Array.getD_eq_getD_getElem?, Array.getElem?_eq_getElem hlt] at hiu ⊢
      simpa using hiu
    have hed' : ∀ e ∈ d.o.after.toList, Region.binds .any e = true → listed.getD e.on false = true := fun e he hb => hed e (by simpa using he) hb
    have hB : ∀ c ∈ l, listed.getD c.i false = true → ∀ j, c.b.testBit j = true → listed.getD j false = true := fun c hc hLc j hj => by
      rw [hO.b c hc] at hj
      exact before_sound (L := fun j => listed.getD j false = true) hcl (hO.at_ c hc) (hcl c.i c.o (hO.at_ c hc) hLc) j hj
    have hbits : ∀ j, d.b.testBit j = true → listed.getD j false = true := fun j hj => by
      rw [hO.b d hdl] at hj
      exact before_sound (L := fun j => listed.getD j false = true) hcl hod hed' j hj
    obtain ⟨done, rest, val, rs, e, E, ι, m, h, hhead⟩ := DI.norm hO hB rest h
    have hL' : ∀ j, (listed.setIfInBounds d.i true).getD j false = true ↔ listed.getD j false = true ∨ j = d.i := fun j => by
      rw [Array.getD_eq_getD_getElem?, Array.getD_eq_getD_getElem?, Array.getElem?_setIfInBounds]
      by_cases hj : d.i = j
      · subst hj
        have hlt : d.i < listed.size := by omega
        simp [hlt]
      · simp [hj, Ne.symm hj]
    refine h.step hT hC hY hF hFm hl hdst hro hG hfr hpe hpb hP hGs hB hhead hdl hL hbits fun l' hl' a' w' done rest val kk rs e E ι I m h' => ?_
    refine ih _ a' w' (by simpa using hls) ?_ ?_ ⟨l', done, rest, val, kk, rs, e, E, ι, I, m, hl', ?_⟩
    · have := count_set hiu; omega
    · intro j o hj hLj ed he hb
      rw [hL'] at hLj ⊢
      rcases hLj with h1 | h1
      · exact .inl (hcl j o hj h1 ed he hb)
      · subst h1
        rw [hod] at hj; cases hj
        exact .inl (hed' ed he hb)
    · have e1 : (fun j => (listed.setIfInBounds d.i true).getD j false = true) = fun j => listed.getD j false = true ∨ j = d.i := by
        funext j; exact propext (hL' j)
      rw [e1]; exact h'

theorem isDst_iff {x : Nat} : ∀ {l : List Oper}, isDst x l = false → ∀ o ∈ l, o.dst ≠ some x
  | [], _, o, ho => by cases ho
  | y :: l, h, o, ho => by
    simp only [isDst] at h
    split at h
    · rename_i d hd
      simp only [Bool.or_eq_false_iff] at h
      rcases List.mem_cons.1 ho with rfl | ho
      · intro e; rw [hd] at e; cases e; simp at h
      · exact isDst_iff h.2 o ho
    · rename_i hd
      rcases List.mem_cons.1 ho with rfl | ho
      · rw [hd]; simp
      · exact isDst_iff h o ho

theorem dropE_max {ops : List Oper} : ∀ {e : Env}, maxIdE (dropE ops e) ≤ maxIdE e
  | [] => Nat.le_refl _
  | (k, v) :: l => by
    have := dropE_max (ops := ops) (e := l)
    simp only [dropE]
    split <;> simp only [maxIdE] <;> omega

theorem dropE_look {ops : List Oper} : ∀ {e : Env} {x : Nat} {v : NV}, lookupE (dropE ops e) x = some v → lookupE e x = some v ∧ ∀ o ∈ ops, o.dst ≠ some x
  | [], x, v, h => by simp [dropE, lookupE] at h
  | (k, u) :: l, x, v, h => by
    simp only [dropE] at h
    split at h
    · rename_i hk
      obtain ⟨h1, h2⟩ := dropE_look h
      refine ⟨?_, h2⟩
      simp only [lookupE]
      split
      · rename_i hkx
        have := Nat.eq_of_beq_eq_true hkx
        subst this
        exfalso
        have key : ∀ (l : List Oper), isDst k l = true → ∃ o ∈ l, o.dst = some k := by
          intro l
          induction l with
          | nil => intro h; cases h
          | cons y l ih =>
            intro h
            simp only [isDst] at h
            split at h
            · rename_i d hd
              simp only [Bool.or_eq_true] at h
              rcases h with h | h
              · exact ⟨y, List.mem_cons_self, by rw [hd, Nat.eq_of_beq_eq_true h]⟩
              · obtain ⟨o, ho, e⟩ := ih h; exact ⟨o, List.mem_cons_of_mem _ ho, e⟩
            · obtain ⟨o, ho, e⟩ := ih h; exact ⟨o, List.mem_cons_of_mem _ ho, e⟩
        obtain ⟨o, ho, e⟩ := key _ hk
        exact h2 o ho e
      · exact h1
    · rename_i hk
      simp only [lookupE] at h ⊢
      split at h
      · rename_i hkx
        have := Nat.eq_of_beq_eq_true hkx
        subst this
        cases h
        exact ⟨rfl, isDst_iff hk⟩
      · exact dropE_look h

/-- A region whose order is open does what the evaluator says, in whatever order. -/
theorem drawOk (hT : TabOk T P) (hm : P.follows .mixedOrders = true) : DrawOk T P := by
  intro X hC hY F hF n base size id ops Q hdst hro ι I m w e fr a out hG hR hfr hsz hrc h hP
  cases hres : (drawB T ops).f X e m with
  | none => rw [hres] at h; cases h
  | some res =>
    rw [hres] at h
    obtain ⟨ex, e1, m1⟩ := res
    simp only [outOf, Option.some.injEq] at h
    subst h
    have hrw : ∃ rw, ordOk ops (ordOf T rw ops) = true ∧ (drawnB T ops.toList (ordOf T rw ops)).f X ⟨[], dropE ops.toList e⟩ e m = some (ex, e1, m1) := by
      unfold drawB at hres
      split at hres
      · rename_i hok; exact ⟨false, hok, hres⟩
      · split at hres
        · rename_i hok; exact ⟨true, hok, hres⟩
        · cases hres
    obtain ⟨rw, hok, hres⟩ := hrw
    have hFm := ordOk_sound hok
    have hd : R ι I m { w with drawn := w.drawn + 1 } := hR.drew
    have hx : Ext ι I m w ι I m { w with drawn := w.drawn + 1 } := (Ext.refl ι I m w).drew
    refine wpIn_region_any hm ?_
    refine draw_main (T := T) (X := X) (e0 := e) (pe := dropE ops.toList e) (ι0 := ι) (I0 := I) (m0 := m) (w0 := { w with drawn := w.drawn + 1 }) (a0 := a) (G := fun res => Post base size ι I m { w with drawn := w.drawn + 1 } Q ⟨res.1, res.2.1, res.2.2, fr⟩) hT hC hY hF hFm hdst hro hG (hfr.ext hx) (fun x v hv => dropE_look hv) dropE_max (fun _ h => h) (fun ex e m1 m2 hs hP => hs.post hP) ops.size _ a _ (by simp) (by simp) (fun j o hj hL => ?_) ?_
    · rw [Array.getD_eq_getD_getElem?, Array.getElem?_replicate] at hL
      split at hL <;> simp at hL
    · have hno : ∀ j, ¬ (Array.replicate ops.size false).getD j false = true := fun j hL => by
        rw [Array.getD_eq_getD_getElem?, Array.getElem?_replicate] at hL
        split at hL <;> simp at hL
      refine ⟨ordOf T rw ops, [], ordOf T rw ops, fun _ => .nilp, fun _ => 0, [], e, e, ι, I, m, .inl rfl, rfl, ⟨_, hres, hP.ext hx⟩, hd, hfr.env, ⟨fun d hd => (by cases hd), fun x _ => rfl, fun d hd => (by cases hd), fun x _ => rfl, fun B h _ => h⟩, hsz, rfl, Ext.refl _ _ _ _, fun d hd => (by cases hd), fun d _ hL => absurd hL (hno _), fun d hd => (by cases hd), fun d _ hL => absurd hL (hno _), fun c _ d _ hL => absurd hL (hno _)⟩

end Go.Kn

namespace Go.Kn

variable {T : Tab} {P : Program}

/-- What is told of single functions without a look at their text. -/
def IntrOk (T : Tab) (P : Program) : Prop := ∀ f g, T.intr f = some g → ∀ args m r, g args m = some r → ∀ ι I w (xs : Array Value), GlobOk T I → R ι I m w → VL ι I args xs.toList → maxIds args ≤ m.n → FnOk P f xs w (CR ι I m w r)

theorem callOk_of (hI : IntrOk T P) {C : Caller} (hN : EnterOk T P C) : CallOk T P C := by
  intro f args m r h ι I w xs hG hR hv hb
  unfold callFn at h
  split at h
  · rename_i g hg
    exact hI f g hg args m r h ι I w xs hG hR hv hb
  · exact .inl (hN f args m r h ι I w xs hG hR hv hb)

theorem fstR_inv {o : Option (CallRes × Bool)} {r : CallRes} (h : fstR o = some r) : ∃ t, o = some (r, t) := by
  unfold fstR at h
  split at h
  · cases h; exact ⟨_, rfl⟩
  · cases h

theorem level_sound (hT : TabOk T P) (hm : P.follows .mixedOrders = true) (hI : IntrOk T P) : ∀ n, EnterOk T P (level T n).ctx.C ∧ YieldOk T P (level T n).ctx.Y ∧ DeferOk T P (level T n).F
  | 0 => ⟨fun f args m r h => (by cases h), fun l args m r h => (by cases h), fun p f args m v m' took h => (by cases h)⟩
  | n + 1 => by
    obtain ⟨hN, hY, hD⟩ := level_sound hT hm hI n
    have hC := callOk_of hI hN
    have hDr := drawOk hT hm
    refine ⟨?_, stepY_sound hT hDr rangeOk hC hN hY, stepF_defer hT hDr rangeOk hC hN hY⟩
    intro f args m r h ι I w xs hG hR hv hb
    obtain ⟨t, ht⟩ := fstR_inv h
    exact stepF_sound hT hDr rangeOk hC hN hY hD ht hG hR hv hb

/-- What the evaluator says of a call is so. -/
theorem runF_sound (hT : TabOk T P) (hm : P.follows .mixedOrders = true) (hI : IntrOk T P) {n : Nat} {f : FuncId} {args : List NV} {m : Mem} {r : CallRes} {t : Bool} (h : runF T n none f args m = some (r, t))
    {ι : Iota} {I : Imm} {w : World} {xs : Array Value} (hG : GlobOk T I) (hR : R ι I m w) (hv : VL ι I args xs.toList) (hb : maxIds args ≤ m.n) :
    (callFunc f xs).run P w = .ok (.enter f xs) w ∧ Calls P f xs w (CR ι I m w r) :=
  (level_sound hT hm hI n).1 f args m r (by show fstR _ = _; rw [show (level T n).F none f args m = some (r, t) from h]; rfl) ι I w xs hG hR hv hb

end Go.Kn
