/-
  Soundness of all operations that leave the memory as it is.
-/
import Derived.Test.YtbjhjladdkbnmaaGreatDoorGxPure4
namespace Go.Proofs.YtbjhjladdkbnmaaGreatDoor.Gx
open Go

section
variable {E : Env} {F : Nat → Prop} {φ : Phi} {st : St} {w : World}

theorem evo_sound (hS : Sess E F φ st w) {fr : Fr} {tmps : Array Value} (hT : LRel (Bd F φ st) w φ fr.tm tmps.toList) {x : Option Operand} {v : Option AV} (h : evo E fr x = some v) :
    ORl (Bd F φ st) w φ v (x.map (evalT tmps)) := by
  cases x with
  | none => simp [evo] at h; subst h; trivial
  | some x => simp [evo] at h; obtain ⟨a, ha, rfl⟩ := h; exact ev_sound hS hT ha

/-- A value that a step gives. -/
def Gives (P : Program) (w : World) (B : Nat → Prop) (φ : Phi) (s : Sem Value) (v : AV) : Prop := ∃ u, s.run P w = .ok u w ∧ VRel B w φ v u

theorem gives_next {P : Program} {B : Nat → Prop} {s : Sem Value} {v : AV} (h : Gives P w B φ s v) :
    ∃ u, (do pure (Next.value (← s)) : Sem Next).run P w = .ok (.value u) w ∧ VRel B w φ v u := by
  obtain ⟨u, h1, h2⟩ := h
  exact ⟨u, by simp [h1], h2⟩

theorem callPure_sound (hS : Sess E F φ st w) {fr : Fr} {tmps : Array Value} (hT : LRel (Bd F φ st) w φ fr.tm tmps.toList) {c : Call} {y : TypeId} {v : AV} (h : callPure c E fr st = some v) :
    ∃ u, (do let d ← resolve (evalT tmps) c y; invoke d.target d.args : Sem Next).run E.P w = .ok (.value u) w ∧ VRel (Bd F φ st) w φ v u := by
  obtain ⟨callee, args, argTypes⟩ := c
  unfold callPure at h
  cases callee with
  | value f => simp [noneF] at h
  | invoke r m => simp [noneF] at h
  | builtin b =>
    simp only at h
    have hargs : ∀ {vs : List AV}, evs E fr args.toList = some vs → LRel (Bd F φ st) w φ vs (args.map (evalT tmps)).toList := by
      intro vs hvs
      have := evs_sound hS hT hvs
      simpa using this
    cases b <;> simp only [builtinPure, noneF] at h <;> first | (cases h; done) | skip
    · -- len
      unfold lenF at h
      split at h
      · rename_i x xs t hx ht
        obtain ⟨u, us, hu, hxu, _⟩ := (hargs hx).inv_cons
        obtain ⟨r, h1, h2⟩ := lenE_sound hS (us := us) (y := y) ht h hxu
        refine ⟨r, ?_, h2⟩
        have e : args.map (evalT tmps) = (u :: us).toArray := by rw [← hu]
        simp only [resolve, e]
        simp [invoke, builtin, h1]
      · cases h
    · unfold maxF at h
      simp only [Option.bind_eq_some_iff] at h
      obtain ⟨xs, hx, h⟩ := h
      obtain ⟨r, h1, h2⟩ := scalars_sound h (hargs hx)
      exact ⟨r, by simp [resolve, invoke, builtin, Builtin.max_] at h1 ⊢; simp [h1], h2⟩
    · unfold minF at h
      simp only [Option.bind_eq_some_iff] at h
      obtain ⟨xs, hx, h⟩ := h
      obtain ⟨r, h1, h2⟩ := scalars_sound h (hargs hx)
      exact ⟨r, by simp [resolve, invoke, builtin, Builtin.min_] at h1 ⊢; simp [h1], h2⟩

theorem pureOp_sound (hS : Sess E F φ st w) {fr : Fr} {tmps : Array Value} (hT : LRel (Bd F φ st) w φ fr.tm tmps.toList) {o : Oper} {v : AV} (h : pureOp o.op E fr st = some v) :
    ∃ u, (execOp (evalT tmps) o).run E.P w = .ok (.value u) w ∧ VRel (Bd F φ st) w φ v u := by
  obtain ⟨dst, op, ty, pos, after, guard⟩ := o
  simp only at h
  cases op <;> simp only [pureOp, noneF] at h <;> first | (cases h; done) | skip
  case move x => exact ⟨_, rfl, ev_sound hS hT h⟩
  case assign x => exact ⟨_, rfl, ev_sound hS hT h⟩
  case pick c a b =>
    unfold pickF at h
    split at h
    · rename_i a' b' h1 h2 h3
      simp at h; subst h
      have hc := ev_sound hS hT h1
      generalize hcu : evalT tmps c = cu at hc
      cases hc
      exact ⟨evalT tmps a, by simp [execOp, hcu, asBool], ev_sound hS hT h2⟩
    · rename_i a' b' h1 h2 h3
      simp at h; subst h
      have hc := ev_sound hS hT h1
      generalize hcu : evalT tmps c = cu at hc
      cases hc
      exact ⟨evalT tmps b, by simp [execOp, hcu, asBool], ev_sound hS hT h3⟩
    · cases h
  case build t parts =>
    unfold buildF at h
    simp only [Option.bind_eq_some_iff] at h
    obtain ⟨ps, hp, h⟩ := h
    obtain ⟨r, h1, h2⟩ := buildE_sound h (evp_sound hS hT hp)
    refine gives_next ⟨r, ?_, h2⟩
    have e : (parts.toList.map fun (i, x) => (i, evalT tmps x)).toArray = parts.map fun (i, x) => (i, evalT tmps x) := by
      apply Array.ext'; simp
    rw [← e]; exact h1
  case load t a =>
    unfold loadF at h
    split at h
    · rename_i a' ha
      exact gives_next (loadE_sound hS h (ev_sound hS hT ha))
    · cases h
  case nilCheck x =>
    unfold nilF at h
    split at h
    · rename_i b o' hx
      simp at h; subst h
      have hv := ev_sound hS hT hx
      generalize hcu : evalT tmps x = cu at hv
      have hv' := hv
      cases hv
      exact ⟨_, by simp [execOp, hcu], hv'⟩
    · rename_i cs hx
      simp at h; subst h
      have hv := ev_sound hS hT hx
      generalize hcu : evalT tmps x = cu at hv
      have hv' := hv
      cases hv
      exact ⟨_, by simp [execOp, hcu], hv'⟩
    · rename_i f a c hx
      simp at h; subst h
      have hv := ev_sound hS hT hx
      generalize hcu : evalT tmps x = cu at hv
      have hv' := hv
      cases hv
      exact ⟨_, by simp [execOp, hcu], hv'⟩
    · cases h
  case binOp op t x y yT =>
    unfold binF at h
    split at h
    · rename_i a b ha hb
      exact gives_next (binE_sound h (ev_sound hS hT ha) (ev_sound hS hT hb))
    · cases h
  case unOp op t x =>
    unfold unF at h
    simp only [Option.bind_eq_some_iff] at h
    obtain ⟨a, ha, h⟩ := h
    exact gives_next (unE_sound h (ev_sound hS hT ha))
  case convert s d x =>
    unfold convF at h
    simp only [Option.bind_eq_some_iff] at h
    obtain ⟨a, ha, h⟩ := h
    exact gives_next (convE_sound h (ev_sound hS hT ha))
  case makeInterface t x =>
    unfold mkifF at h
    split at h
    · cases h
    · rename_i d v' hni hu hx
      simp at h; subst h
      refine ⟨.iface t (evalT tmps x), ?_, .iface (ev_sound hS hT hx)⟩
      cases d <;> first | exact (hni _ rfl).elim | simp [execOp, Instr.makeInterface, run_und hu]
    · cases h
  case makeFunc fn a c =>
    unfold mkfnF at h
    split at h
    · rename_i f a' c' ha hc
      simp at h; subst h
      have h1 := evs_sound hS hT ha
      have h2 := evs_sound hS hT hc
      refine ⟨.func (.func f) (a.map (evalT tmps)) (c.map (evalT tmps)), by simp [execOp, Instr.makeFunc], ?_⟩
      exact .func (by have := h1.1; simpa using this) (by have := h2.1; simpa using this)
        (fun j x v hx hv => h1.2 j x v hx (by simpa using hv)) (fun j x v hx hv => h2.2 j x v hx (by simpa using hv))
    · cases h
  case slice t x lo hi mx =>
    unfold sliceF at h
    split at h
    · rename_i x' lo' hi' mx' hx hlo hhi hmx
      exact gives_next (sliceE_sound h (ev_sound hS hT hx) (evo_sound hS hT hlo) (evo_sound hS hT hhi) (evo_sound hS hT hmx))
    · cases h
  case fieldAddr t x f =>
    unfold faddrF at h
    split at h
    · rename_i a ha; exact gives_next (fieldAddrE_sound h (ev_sound hS hT ha))
    · cases h
  case field t x f =>
    unfold fieldF at h
    simp only [Option.bind_eq_some_iff] at h
    obtain ⟨a, ha, h⟩ := h
    exact gives_next (fieldE_sound h (ev_sound hS hT ha))
  case indexAddr t x i =>
    unfold iaddrF at h
    split at h
    · rename_i a b ha hb; exact gives_next (indexAddrE_sound h (ev_sound hS hT ha) (ev_sound hS hT hb))
    · cases h
  case index t x i =>
    unfold indexF at h
    split at h
    · rename_i a b ha hb; exact gives_next (indexE_sound h (ev_sound hS hT ha) (ev_sound hS hT hb))
    · cases h
  case lookup t x i ok =>
    unfold lookupF at h
    split at h
    · rename_i a b ha hb; exact gives_next (lookupE_sound hS h (ev_sound hS hT ha) (ev_sound hS hT hb))
    · cases h
  case extract t i =>
    unfold extractF at h
    split at h
    · rename_i vs hx
      have hv := ev_sound hS hT hx
      generalize hcu : evalT tmps t = cu at hv
      obtain ⟨us, rfl, hl⟩ := tup_list hv
      rw [get?_eq] at h
      have hlt := lt_of_get h
      have hlt' : i < us.size := by have := hl.1; simp at this; omega
      have e1 : us.toList[i]? = some us[i] := by simp [hlt']
      have e2 : us[i]? = some us[i] := by simp [hlt']
      exact ⟨us[i], by simp [execOp, hcu, Instr.extract, e2], hl.2 i v _ h e1⟩
    · cases h
  case typeAssert x xT aT ok =>
    unfold assertF at h
    simp only [Option.bind_eq_some_iff] at h
    obtain ⟨a, ha, h⟩ := h
    exact gives_next (typeAssertE_sound h (ev_sound hS hT ha))
  case call c => exact callPure_sound hS hT h

end
end Go.Proofs.YtbjhjladdkbnmaaGreatDoor.Gx
