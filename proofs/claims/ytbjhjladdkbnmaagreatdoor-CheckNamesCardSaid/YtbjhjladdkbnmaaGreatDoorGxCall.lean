/-
  Soundness of the evaluator: calls of functions, given that code is sound.
-/
import Derived.Test.YtbjhjladdkbnmaaGreatDoorGxSound
namespace Go.Proofs.YtbjhjladdkbnmaaGreatDoor.Gx
open Go

/-- Code is sound. -/
def RunOk (E : Env) (R : Rn) : Prop :=
  ∀ (c : Code) (fr : Fr) (st : St) (r : Ex × Fr × St), R c fr st = some r → ∀ (F : Nat → Prop) (φ : Phi) (w : World) (fn : FuncId) (kd : CallKind) (ro : Option Nat) (tmps : Array Value) (df : List Deferred) (cs : List Frame) (k : List Item),
    (E.P.funcs[fn]?).isSome = true → Sess E F φ st w → FRel (Bd F φ st) w φ fr kd ro tmps df cs →
    ExOk E F φ st w fn kd ro cs (lone (mkF fn kd ro tmps df (.code c :: k)) cs w) k r

def inMode (fr : Frame) (u : FrameMode) : Frame := { fr with mode := u }

section
variable {P : Program} {fn : FuncId} {kd : CallKind} {tmps : Array Value} {df : List Deferred} {k : List Item} {cs : List Frame} {w : World}

theorem st_ret : step P (lone (mkF fn kd none tmps df (.code .ret :: k)) cs w) = .next (lone (inMode (mkF fn kd none tmps df (.code .ret :: k)) .returning) cs w) :=
  step_lone_go (by simp [stepG, stepG.exec, mkF, inMode])
theorem st_fall : step P (lone (mkF fn kd none tmps df []) cs w) = .next (lone (inMode (mkF fn kd none tmps df []) .returning) cs w) :=
  step_lone_go (by simp [stepG, stepG.exec, mkF, inMode])

theorem loadAt_asAddr {t : TypeId} {u x : Value} (h : (Instr.loadAt t u).run P w = .ok x w) : (do loadVar t (← asAddr u) : Sem Value).run P w = .ok x w := by
  cases u with
  | pointer a =>
    cases a with
    | none => simp [Instr.loadAt, Instr.sureAddr] at h
    | some a => simpa [Instr.loadAt, Instr.sureAddr, asAddr] using h
  | _ => simp [Instr.loadAt, Instr.sureAddr] at h
end

section
variable {E : Env} {F : Nat → Prop} {φ : Phi} {st : St} {w : World}

/-- How a result is read. -/
def resM (tmps : Array Value) : ResultVar → Sem Value
  | .tmp t => pure (tmps.getD t undef)
  | .cell a t => do loadVar t (← asAddr (tmps.getD a undef))

theorem resL_sound (hS : Sess E F φ st w) {tm : List AV} {tmps : Array Value} (hT : LRel (Bd F φ st) w φ tm tmps.toList) : ∀ {rs : List ResultVar} {vs : List AV}, resL E st tm rs = some vs →
    ∃ us, (rs.mapM (resM tmps)).run E.P w = .ok us w ∧ LRel (Bd F φ st) w φ vs us
  | [], vs, h => by
    simp [resL] at h; subst h
    exact ⟨[], by simp, .nil⟩
  | r :: rs, vs, h => by
    unfold resL at h
    split at h
    · rename_i v vs' hv hvs
      simp at h; subst h
      obtain ⟨us, h1, h2⟩ := resL_sound hS hT hvs
      cases r with
      | tmp t =>
        simp at hv; subst hv
        exact ⟨tmps.getD t undef :: us, by simp [List.mapM_cons, resM, h1], .cons (nth_sound hT t) h2⟩
      | cell a t =>
        simp only at hv
        obtain ⟨x, hx, hr⟩ := loadE_sound hS hv (nth_sound hT a)
        have hx' := loadAt_asAddr hx
        exact ⟨x :: us, by rw [List.mapM_cons, Sem.run_bind, resM, hx']; simp [h1], .cons hr h2⟩
    · cases h

theorem resV_sound {B : Nat → Prop} {vs : List AV} {us : List Value} (h : LRel B w φ vs us) : VRel B w φ (resV vs) (if h : us.toArray.size = 1 then us.toArray[0] else .tuple us.toArray) := by
  cases vs with
  | nil => rw [h.inv_nil]; exact VRel.undef
  | cons v vs =>
    obtain ⟨u, us', rfl, h1, h2⟩ := h.inv_cons
    cases vs with
    | nil => rw [h2.inv_nil]; exact h1
    | cons v2 vs =>
      obtain ⟨u2, us'', rfl, h3, h4⟩ := h2.inv_cons
      have : ¬ (u :: u2 :: us'').toArray.size = 1 := by simp
      rw [dif_neg this]
      exact .tup (by simpa using h.1) (fun j x y hx hy => h.2 j x y hx (by simpa using hy))

theorem results_sound (hS : Sess E F φ st w) {tm : List AV} {tmps : Array Value} (hT : LRel (Bd F φ st) w φ tm tmps.toList) {fn : Func} {vs : List AV} (h : resL E st tm fn.results.toList = some vs) :
    ∃ u, (results fn tmps).run E.P w = .ok u w ∧ VRel (Bd F φ st) w φ (resV vs) u := by
  obtain ⟨us, h1, h2⟩ := resL_sound hS hT h
  refine ⟨_, ?_, resV_sound h2⟩
  have he : results fn tmps = (do
      let vs ← fn.results.mapM (resM tmps)
      pure (if h : vs.size = 1 then vs[0] else .tuple vs)) := by
    unfold results
    congr 1
  rw [he, Array.mapM_eq_mapM_toList]
  simp only [bind_map_left, Sem.run_bind, h1]
  simp

/-- The calls of a function end so. -/
def LeavOk (P : Program) (m : Machine) (cs : List Frame) (B : Nat → Prop) (w : World) (φ : Phi) (f : FuncId) : Out → Prop
  | .ret v => ∃ u fr, VRel B w φ v u ∧ Steps P m (lone fr cs w) ∧ fr.fn = f ∧ fr.leaving P w (.returned u)
  | .pan ch => ∃ chain fr, All2 (PRelC B w φ) ch chain ∧ Steps P m (lone fr cs w) ∧ fr.fn = f ∧ fr.leaving P w (.panicked chain)

theorem LeavOk.out {P : Program} {m : Machine} {c : Frame} {cs : List Frame} {B : Nat → Prop} {f : FuncId} {out : Out} (h : LeavOk P m (c :: cs) B w φ f out) : OutOk P m c cs B w φ out := by
  cases out with
  | ret v => obtain ⟨u, fr, h1, h2, _, h4⟩ := h; exact ⟨u, h1, h2.trans (.one (step_leave_returned h4))⟩
  | pan ch => obtain ⟨chain, fr, h1, h2, _, h4⟩ := h; exact ⟨chain, h1, h2.trans (.one (step_leave_panicked h4))⟩

theorem enter_mkF {P : Program} {f : FuncId} {fn : Func} {c : Code} (hf : P.funcs[f]? = some fn) (hb : fn.body = some c) (us : Array Value) (kd : CallKind) :
    Frame.enter P f us kd = mkF f kd none (us ++ Array.replicate (fn.ntmps - us.size) undef) [] [.code c] := by
  simp [Frame.enter, mkF, hf, hb]

theorem bodyOf_some {f : FuncId} {fn : Func} {c : Code} (h : bodyOf E f = some (fn, c)) : E.P.funcs[f]? = some fn ∧ fn.body = some c := by
  unfold bodyOf at h
  split at h
  · rename_i fn' hf
    split at h
    · rename_i c' hb
      simp at h; obtain ⟨rfl, rfl⟩ := h
      exact ⟨hf, hb⟩
    · cases h
  · cases h

theorem pads_sound {B : Nat → Prop} (n : Nat) : LRel B w φ (pads n) (List.replicate n undef) := by
  refine ⟨by simp [pads], fun j x v hx hv => ?_⟩
  simp only [pads, List.getElem?_replicate] at hx hv
  split at hx
  · rename_i hj
    rw [if_pos hj] at hv
    simp at hx hv; subst hx; subst hv
    exact VRel.undef
  · cases hx

/-- The body of a function. -/
theorem body_sound {R : Rn} (hR : RunOk E R) {f : FuncId} {fn : Func} {c : Code} (hf : bodyOf E f = some (fn, c)) {args : List AV} {rc : Option AMode} {m : AMode} {fr : Fr} {st' : St} (h : body R fn c args rc st = some (m, fr, st'))
    (hS : Sess E F φ st w) {us : Array Value} (hA : LRel (Bd F φ st) w φ args us.toList) {kd : CallKind} {cs : List Frame}
    (hrc : match rc with | none => kd = .normal | some m => kd = .deferred ∧ ∃ c rest, cs = c :: rest ∧ MRel (Bd F φ st) w φ m c.mode) :
    ∃ φ' w' tmps' df' cs' todo u, Sess E F φ' st' w' ∧ Ext φ st w φ' st' w' ∧ FRel (Bd F φ' st') w' φ' fr kd none tmps' df' cs' ∧ CsLike kd cs cs' ∧ MRel (Bd F φ' st') w' φ' m u ∧ u ≠ .run ∧
      Steps E.P (lone (Frame.enter E.P f us kd) cs w) (lone (inMode (mkF f kd none tmps' df' todo) u) cs' w') := by
  obtain ⟨hf1, hf2⟩ := bodyOf_some hf
  have hsome : (E.P.funcs[f]?).isSome = true := by simp [hf1]
  rw [enter_mkF hf1 hf2]
  have hl : args.length = us.size := by simpa using hA.1
  have hF0 : FRel (Bd F φ st) w φ ⟨args ++ pads (fn.ntmps - args.length), [], rc, none⟩ kd none (us ++ Array.replicate (fn.ntmps - us.size) undef) [] cs := by
    refine ⟨?_, .nil, ?_, rfl⟩
    · rw [hl]; simp only [Array.toList_append, Array.toList_replicate]; exact hA.append (pads_sound _)
    · cases rc with
      | none => exact hrc
      | some m => exact hrc
  unfold body at h
  split at h
  · rename_i fr' st1 hr
    simp at h; obtain ⟨rfl, rfl, rfl⟩ := h
    obtain ⟨φ', w', tmps', df', cs', h1, h2, h3, h4, h5⟩ := hR _ _ _ _ hr F φ w f kd none _ _ cs [] hsome hS hF0
    exact ⟨φ', w', tmps', df', cs', _, .returning, h1, h2, h3, h4, rfl, by simp, h5.trans (.one st_fall)⟩
  · rename_i fr' st1 hr
    simp at h; obtain ⟨rfl, rfl, rfl⟩ := h
    obtain ⟨φ', w', tmps', df', cs', h1, h2, h3, h4, k0, h5⟩ := hR _ _ _ _ hr F φ w f kd none _ _ cs [] hsome hS hF0
    exact ⟨φ', w', tmps', df', cs', _, .returning, h1, h2, h3, h4, rfl, by simp, h5.trans (.one st_ret)⟩
  · rename_i ch fr' st1 hr
    simp at h; obtain ⟨rfl, rfl, rfl⟩ := h
    obtain ⟨φ', w', tmps', df', cs', h1, h2, h3, h4, chain, k0, h5, h6⟩ := hR _ _ _ _ hr F φ w f kd none _ _ cs [] hsome hS hF0
    exact ⟨φ', w', tmps', df', cs', k0, .panicking chain, h1, h2, h3, h4, ⟨chain, rfl, h5⟩, by simp, h6⟩
  · cases h

theorem settle_sound {B : Nat → Prop} {m : AMode} {u : FrameMode} (h : MRel B w φ m u) : MRel B w φ (settleA m) (settle u) := by
  cases m with
  | returning => cases h; rfl
  | panicking ch =>
    obtain ⟨ch', rfl, hc⟩ := h
    cases hc with
    | nil => exact ⟨[], rfl, .nil⟩
    | cons he ht =>
      rename_i a e l l'
      obtain ⟨v, rec⟩ := a
      obtain ⟨v', rec', gx⟩ := e
      obtain ⟨h1, h2, h3⟩ := he
      simp only at h1 h2 h3
      subst h2; subst h3
      cases rec' with
      | true =>
        have hd : l'.dropWhile (fun x => !x.goexit) = [] := by
          clear h1
          induction ht with
          | nil => rfl
          | cons hab _ ih => simp [List.dropWhile_cons, hab.2.2, ih]
        simp [settleA, settle, hd, MRel]
      | false => exact ⟨_, rfl, .cons ⟨h1, rfl, rfl⟩ ht⟩

theorem raised_sound {B : Nat → Prop} {m : AMode} {u : FrameMode} (h : MRel B w φ m u) {ch : List APan} {chain : List PanicEntry} (hc : All2 (PRelC B w φ) ch chain) : MRel B w φ (raisedA m ch) (raised u chain) := by
  cases m with
  | returning => cases h; exact ⟨chain, rfl, hc⟩
  | panicking old => obtain ⟨old', rfl, ho⟩ := h; exact ⟨chain ++ old', rfl, hc.append ho⟩

theorem settleA_run {B : Nat → Prop} {m : AMode} {u : FrameMode} (h : MRel B w φ m u) : u ≠ .run := by
  cases m with
  | returning => cases h; simp
  | panicking old => obtain ⟨old', rfl, ho⟩ := h; simp

/-- No function of the program answers for the machine itself. -/
def NoNum (P : Program) : Prop := ∀ (f : FuncId) (fn : Func), P.funcs[f]? = some fn → fn.body.isSome = true → (fn.name == "runtime.NumGoroutine") = false

theorem callFunc_run (hN : NoNum E.P) {f : FuncId} {fn : Func} {c : Code} (hf : bodyOf E f = some (fn, c)) (args : Array Value) : (callFunc f args).run E.P w = .ok (.enter f args) w := by
  obtain ⟨h1, h2⟩ := bodyOf_some hf
  have h3 := hN f fn h1 (by simp [h2])
  have h4 : ¬fn.name = "runtime.NumGoroutine" := by simpa using h3
  simp [callFunc, h1, h4, h2]

end
end Go.Proofs.YtbjhjladdkbnmaaGreatDoor.Gx
