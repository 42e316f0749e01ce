/-
  What a function comes to by plain names, counted with a mask of bits; and the closed facts of a row, one by one.
-/
import Derived.JoinedOf
import Derived.KernelRfl
import GoSem.ClaimGoes
namespace Go.Proofs.YtbjhjladdkbnmaaGreatDoor.Gx
open Go

def closM (P : Program) : Nat → List FuncId → Nat → List FuncId → List FuncId
  | 0, _, _, seen => seen.reverse
  | _, [], _, seen => seen.reverse
  | n + 1, f :: todo, m, seen => match Nat.testBit m f with
    | true => closM P n todo m seen
    | false => closM P n ((P.funcs[f]?).elim [] P.leadsTo ++ todo) (Nat.lor m (Nat.shiftLeft 1 f)) (f :: seen)

theorem closM_eq (P : Program) : ∀ (n : Nat) (todo : List FuncId) (m : Nat) (seen : List FuncId), (∀ f, Nat.testBit m f = seen.contains f) → closM P n todo m seen = P.closureVia n todo seen
  | 0, todo, m, seen, h => by cases todo <;> simp [closM, Program.closureVia]
  | n + 1, [], m, seen, h => by simp [closM, Program.closureVia]
  | n + 1, f :: todo, m, seen, h => by
    have hf := h f
    unfold closM Program.closureVia
    cases hc : seen.contains f with
    | true =>
      rw [hc] at hf
      simp only [hf, if_true]
      exact closM_eq P n todo m seen h
    | false =>
      rw [hc] at hf
      simp only [hf, Bool.false_eq_true, if_false]
      refine closM_eq P n _ _ _ fun g => ?_
      have : Nat.testBit (Nat.lor m (Nat.shiftLeft 1 f)) g = (Nat.testBit m g || Nat.testBit (1 <<< f) g) := Nat.testBit_or m (1 <<< f) g
      rw [this, h g, Nat.one_shiftLeft, Nat.testBit_two_pow]
      simp only [List.contains_cons]
      by_cases hg : f = g
      · subst hg; simp
      · have hg' : ¬ g = f := fun e => hg e.symm
        simp [hg, hg']

theorem closure_eq {P : Program} {f : FuncId} {n : Nat} {L : List FuncId} (hn : (P.funcs.toList.map fun g => (P.leadsTo g).length + 1).sum = n) (h : closM P (1 + n) [f] 0 [] = L) : P.closure f = L := by
  unfold Program.closure
  rw [hn, ← closM_eq P (1 + n) [f] 0 [] (by simp), h]
/-- Where no function has a go statement, none is come to. -/
theorem goes_none {P : Program} (h : (P.funcs.toList.all fun fn => !Func.goes fn) = true) (f : FuncId) : P.goes f = false := by
  have hall : ∀ fn ∈ P.funcs.toList, Func.goes fn = false := fun fn hm => by
    have := List.all_eq_true.1 h fn hm
    simpa using this
  have h1 : ∀ g : Nat, (P.funcs[g]?).any Func.goes = false := by
    intro g
    cases hg : P.funcs[g]? with
    | none => rfl
    | some fn =>
      have hm : fn ∈ P.funcs.toList := by rw [Array.mem_toList_iff]; exact Array.mem_of_getElem? hg
      simpa using hall fn hm
  have h2 : P.funcs.any Func.goes = false := by
    rw [← Array.any_toList, List.any_eq_false]
    intro fn hm
    rw [hall fn hm]; exact Bool.false_ne_true
  unfold Program.goes
  rw [h2, Bool.and_false, Bool.or_false, List.any_eq_false]
  intro g _
  rw [h1 g]; exact Bool.false_ne_true
end Go.Proofs.YtbjhjladdkbnmaaGreatDoor.Gx
