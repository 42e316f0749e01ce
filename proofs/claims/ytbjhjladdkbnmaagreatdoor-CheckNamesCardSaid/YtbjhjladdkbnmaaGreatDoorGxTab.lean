/-
  Tables of sealed calls: each is evaluated once, with those before it at hand.
-/
import Derived.Test.YtbjhjladdkbnmaaGreatDoorGxTop
namespace Go.Proofs.YtbjhjladdkbnmaaGreatDoor.Gx
open Go

abbrev Tab := List (FuncId × List AV × AV)

def look : Tab → FuncId → List AV → Option Out
  | [], _, _ => none
  | (g, as, v) :: t, f, args => match Nat.beq g f with
    | true => match avsEq as args with
      | true => some (.ret v)
      | false => look t f args
    | false => look t f args

def tenv (P : Program) (G : Nat → Option (List AV)) (pol : FuncId → Bool) (t : Tab) : Env := { P, G, pol, memo := look t }

def agrees : Option Out → AV → Bool
  | some (.ret u), v => avEq u v
  | _, _ => false

/-- Each call of a list comes out as it says. -/
def chkT (P : Program) (G : Nat → Option (List AV)) (pol : FuncId → Bool) (n : Nat) (t : Tab) : Tab → Bool
  | [] => true
  | (f, as, v) :: r => match agrees (callS (tenv P G pol t) n f as) v with
    | true => chkT P G pol n t r
    | false => false

theorem SealOk.env {E E' : Env} (hP : E'.P = E.P) (hG : E'.G = E.G) {f : FuncId} {args : List AV} {out : Out} (h : SealOk E f args out) : SealOk E' f args out := by
  obtain ⟨P, G, pol, memo⟩ := E
  obtain ⟨P', G', pol', memo'⟩ := E'
  simp only at hP hG
  subst hP; subst hG
  refine ⟨h.1, fun F w us cs hS hA => h.2 F w us cs ⟨hS.blk, hS.inj, hS.lt, hS.glob, hS.fout⟩ hA⟩

def TabOk (P : Program) (G : Nat → Option (List AV)) (t : Tab) : Prop := ∀ e ∈ t, SealOk (tenv P G (fun _ => true) []) e.1 e.2.1 (.ret e.2.2)

theorem look_some : ∀ {t : Tab} {f : FuncId} {args : List AV} {out : Out}, look t f args = some out → ∃ v, out = .ret v ∧ (f, args, v) ∈ t
  | [], f, args, out, h => by simp [look] at h
  | (g, as, v) :: t, f, args, out, h => by
    unfold look at h
    split at h
    · rename_i hg
      split at h
      · rename_i ha
        simp at h; subst h
        rw [Nat.eq_of_beq_eq_true hg, avsEq_eq _ _ ha]
        exact ⟨v, rfl, by simp⟩
      · obtain ⟨u, h1, h2⟩ := look_some h; exact ⟨u, h1, List.mem_cons_of_mem _ h2⟩
    · obtain ⟨u, h1, h2⟩ := look_some h; exact ⟨u, h1, List.mem_cons_of_mem _ h2⟩

theorem TabOk.memo {P : Program} {G : Nat → Option (List AV)} {t : Tab} (h : TabOk P G t) (pol : FuncId → Bool) : MemoOk (tenv P G pol t) := by
  intro f args out hl
  obtain ⟨v, rfl, hm⟩ := look_some hl
  exact SealOk.env (E := tenv P G (fun _ => true) []) (E' := tenv P G pol t) rfl rfl (h _ hm)

theorem TabOk.env {P : Program} {G : Nat → Option (List AV)} {t : Tab} (h : TabOk P G t) (hN : NoNum P) (hM : P.follows .mixedOrders = true) (pol : FuncId → Bool) : EnvOk (tenv P G pol t) := ⟨hN, h.memo pol, hM⟩

theorem TabOk.nil (P : Program) (G : Nat → Option (List AV)) : TabOk P G [] := fun e he => by simp at he

theorem TabOk.chk {P : Program} {G : Nat → Option (List AV)} {t : Tab} (h : TabOk P G t) (hN : NoNum P) (hM : P.follows .mixedOrders = true) {pol : FuncId → Bool} {n : Nat} : ∀ {r : Tab}, chkT P G pol n t r = true → TabOk P G (r ++ t)
  | [], _ => h
  | (f, as, v) :: r, hc => by
    unfold chkT at hc
    split at hc
    · rename_i ha
      have ih := TabOk.chk h hN hM hc
      intro e he
      simp only [List.cons_append, List.mem_cons] at he
      rcases he with rfl | he
      · cases hs : callS (tenv P G pol t) n f as with
        | none => rw [hs] at ha; simp [agrees] at ha
        | some o =>
          rw [hs] at ha
          cases o with
          | pan ch => simp [agrees] at ha
          | ret u =>
            rw [← avEq_eq _ _ ha]
            exact SealOk.env (E := tenv P G pol t) (E' := tenv P G (fun _ => true) []) rfl rfl (callS_sound (h.env hN hM pol) hs)
      · exact ih e he
    · cases hc

end Go.Proofs.YtbjhjladdkbnmaaGreatDoor.Gx
