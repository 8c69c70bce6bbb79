/- Part of the proof: the evaluator, its soundness, its runs. -/
import GoSem.ClaimFn
import GoSem.ClaimGoes
import Derived.KernelRfl

namespace Go.Kn

/-- The closure of calls, over the laid-out edges and a set of bits. -/
def clo (E : List (List Nat)) : Nat → List Nat → Nat → List Nat → List Nat
  | 0, _, _, seen => seen.reverse
  | _ + 1, [], _, seen => seen.reverse
  | n + 1, f :: todo, m, seen => match Nat.beq (Nat.land (Nat.shiftRight m f) 1) 1 with
    | true => clo E n todo m seen
    | false => clo E n (E.getD f [] ++ todo) (Nat.lor m (Nat.shiftLeft 1 f)) (f :: seen)

theorem bit_beq (m f : Nat) : Nat.beq (Nat.land (Nat.shiftRight m f) 1) 1 = m.testBit f := by
  have h : Nat.land (Nat.shiftRight m f) 1 = (m >>> f) &&& 1 := rfl
  rw [h, Nat.testBit, Nat.and_comm]
  have h2 : 1 &&& (m >>> f) = (m >>> f) % 2 := by rw [Nat.and_comm, Nat.and_one_is_mod]
  rw [h2]
  rcases Nat.mod_two_eq_zero_or_one (m >>> f) with e | e <;> rw [e] <;> rfl

theorem closureVia_clo {P : Program} {E : List (List Nat)} (hE : P.funcs.toList.map P.leadsTo = E) : ∀ (n : Nat) (todo : List Nat) (m : Nat) (seen : List Nat), (∀ x, m.testBit x = seen.contains x) →
    P.closureVia n todo seen = clo E n todo m seen
  | 0, _, _, _, _ => by simp [Program.closureVia, clo]
  | _ + 1, [], _, _, _ => by simp [Program.closureVia, clo]
  | n + 1, f :: todo, m, seen, h => by
    simp only [Program.closureVia, clo, bit_beq, h f]
    cases hc : seen.contains f with
    | true => simpa using closureVia_clo hE n todo m seen h
    | false =>
      have e : (P.funcs[f]?).elim [] P.leadsTo = E.getD f [] := by
        rw [← hE, List.getD, List.getElem?_map]
        have e2 : P.funcs.toList[f]? = P.funcs[f]? := by simp
        rw [e2]
        cases P.funcs[f]? <;> rfl
      simp only [e, Bool.false_eq_true, if_false]
      refine closureVia_clo hE n _ _ _ fun x => ?_
      have e3 : Nat.lor m (Nat.shiftLeft 1 f) = m ||| (1 <<< f) := rfl
      rw [e3, Nat.testBit_or, h x, Nat.one_shiftLeft, Nat.testBit_two_pow, List.contains_cons]
      rw [Bool.or_comm]
      congr 1
      by_cases hx : f = x
      · subst hx; simp
      · have hy : ¬ x = f := fun e => hx e.symm
        simp [hx, hy]

theorem closure_clo {P : Program} {E : List (List Nat)} {L : List Nat} {k f : Nat} (hE : P.funcs.toList.map P.leadsTo = E) (hk : 1 + (E.map fun l => l.length + 1).sum = k) (hL : clo E k [f] 0 [] = L) : P.closure f = L := by
  unfold Program.closure
  have e : (P.funcs.toList.map fun g => (P.leadsTo g).length + 1) = E.map fun l => l.length + 1 := by rw [← hE, List.map_map]; rfl
  rw [e, hk, closureVia_clo hE k [f] 0 [] (by simp), hL]

theorem goesBy_no {P : Program} {c : OpenClaim} {f : FuncId} (hs : c.start = .entering) (hn : P.funcNamed c.func = some f) (h : P.funcs.toList.any Func.goes = false) : false = c.goesBy P := by
  have h2 : P.funcs.any Func.goes = false := by rw [← Array.any_toList]; exact h
  have e : P.goes f = false := by
    unfold Program.goes
    rw [h2, Bool.and_false, Bool.or_false, List.any_eq_false]
    intro g _
    cases hg : P.funcs[g]? with
    | none => simp
    | some fn =>
      have hm : fn ∈ P.funcs.toList := Array.mem_toList_iff.2 (Array.mem_of_getElem? hg)
      have := List.any_eq_false.1 h fn hm
      simpa using this
  unfold OpenClaim.goesBy Program.goesAt Program.goesFrom
  rw [hs, hn]
  simp [e]
end Go.Kn
