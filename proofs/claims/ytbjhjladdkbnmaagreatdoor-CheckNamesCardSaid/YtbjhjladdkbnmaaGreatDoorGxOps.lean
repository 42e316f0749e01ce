/-
  Soundness of operations one by one, given that calls are sound.
-/
import Derived.Test.YtbjhjladdkbnmaaGreatDoorGxCtl
namespace Go.Proofs.YtbjhjladdkbnmaaGreatDoor.Gx
open Go

/-- How a call has ended, as the caller's frame sees it. -/
def OutOk (P : Program) (m : Machine) (c : Frame) (cs : List Frame) (B : Nat → Prop) (w : World) (φ : Phi) : Out → Prop
  | .ret v => ∃ u, VRel B w φ v u ∧ Steps P m (lone (c.finish u) cs w)
  | .pan ch => ∃ chain, All2 (PRelC B w φ) ch chain ∧ Steps P m (lone (c.raise chain) cs w)

/-- The step that a call of a function value begins with. -/
def callSem (f : Value) (args : Array Value) : Sem Next := do let d ← Deferred.ofValue f args; invoke d.target d.args

def CalOk (E : Env) (cal : Cal) : Prop :=
  ∀ (fv : AV) (args : List AV) (st : St) (out : Out) (st' : St), cal fv args st = some (out, st') → ∀ (F : Nat → Prop) (φ : Phi) (w : World) (uf : Value) (us : Array Value), Sess E F φ st w →
    VRel (Bd F φ st) w φ fv uf → LRel (Bd F φ st) w φ args us.toList →
    ∃ nx fr, (callSem uf us).run E.P w = .ok nx w ∧ nextFrame E.P nx = some fr ∧
      ∀ (c : Frame) (cs : List Frame), ∃ φ' w', Sess E F φ' st' w' ∧ Ext φ st w φ' st' w' ∧ OutOk E.P (lone fr (c :: cs) w) c cs (Bd F φ' st') w' φ' out

section
variable {E : Env} {F : Nat → Prop} {φ : Phi} {st : St} {w : World}

/-- What an effect comes to. -/
def EffOk (E : Env) (F : Nat → Prop) (φ : Phi) (st : St) (w : World) (tmps : Array Value) (o : Oper) : EO → Prop
  | .val v st' => ∀ (fn : FuncId) (kd : CallKind) (ro : Option Nat) (df : List Deferred) (k : List Item) (cs : List Frame) (ops : Array Oper) (i : Nat) (rest : List Nat), ops[i]? = some o →
      Region.wanted o (yielded ops tmps) = true → ∃ φ' w' u, Sess E F φ' st' w' ∧ Ext φ st w φ' st' w' ∧ VRel (Bd F φ' st') w' φ' v u ∧
        Steps E.P (lone (mkF fn kd ro tmps df (.inRegion ops (i :: rest) :: k)) cs w) (lone (mkF fn kd ro (putT tmps o.dst u) df (.inRegion ops rest :: k)) cs w')
  | .pan ch st' => ∀ (fn : FuncId) (kd : CallKind) (ro : Option Nat) (df : List Deferred) (k : List Item) (cs : List Frame) (ops : Array Oper) (i : Nat) (rest : List Nat), ops[i]? = some o →
      Region.wanted o (yielded ops tmps) = true → ∃ φ' w' chain, Sess E F φ' st' w' ∧ Ext φ st w φ' st' w' ∧ All2 (PRelC (Bd F φ' st') w' φ') ch chain ∧
        Steps E.P (lone (mkF fn kd ro tmps df (.inRegion ops (i :: rest) :: k)) cs w) (lone { mkF fn kd ro tmps df (.inRegion ops (i :: rest) :: k) with mode := .panicking chain } cs w')
  | .recov => (execOp (evalT tmps) o).run E.P w = .ok .recover w ∧ ∀ c, o.op ≠ .defer c
  | .dfr d => ∃ cd, (execOp (evalT tmps) o).run E.P w = .ok (.defer cd) w ∧ DRel (Bd F φ st) w φ d cd

theorem eff_value {tmps : Array Value} {o : Oper} {v : AV} {st' : St} {φ' : Phi} {w' : World} {u : Value} (hd : ∀ c, o.op ≠ .defer c) (hr : (execOp (evalT tmps) o).run E.P w = .ok (.value u) w')
    (hS : Sess E F φ' st' w') (hE : Ext φ st w φ' st' w') (hv : VRel (Bd F φ' st') w' φ' v u) : EffOk E F φ st w tmps o (.val v st') :=
  fun _ _ _ _ _ _ _ _ _ ho hw => ⟨φ', w', u, hS, hE, hv, .one (st_op_value ho hw (.inr hd) hr)⟩

theorem eff_unit {tmps : Array Value} {o : Oper} {st' : St} {w' : World} {φ' : Phi} (hd : ∀ c, o.op ≠ .defer c) (hr : (execOp (evalT tmps) o).run E.P w = .ok .skip w')
    (hS : Sess E F φ' st' w') (hE : Ext φ st w φ' st' w') : EffOk E F φ st w tmps o (.val (.tup []) st') :=
  fun _ _ _ _ _ _ _ _ _ ho hw => ⟨φ', w', undef, hS, hE, VRel.undef, .one (st_op_unit ho hw (.inr hd) hr)⟩

theorem eff_panic {tmps : Array Value} {o : Oper} {t : TypeId} {v : AV} {u : Value} (hS : Sess E F φ st w) (hd : ∀ c, o.op ≠ .defer c) (hr : (execOp (evalT tmps) o).run E.P w = .halt (.panic (.iface t u)) w)
    (hv : VRel (Bd F φ st) w φ (.iface t v) (.iface t u)) : EffOk E F φ st w tmps o (.pan [⟨.iface t v, false⟩] st) :=
  fun _ _ _ _ _ _ _ _ _ ho hw => ⟨φ, w, _, hS, Ext.refl _ _ _, .cons ⟨hv, rfl, rfl⟩ .nil, .one (st_op_panic ho hw (.inr hd) hr)⟩

theorem comes1_eff {tmps : Array Value} {o : Oper} {s : Sem Value} {v : AV} {st' : St} (hd : ∀ c, o.op ≠ .defer c) (he : execOp (evalT tmps) o = (do pure (.value (← s)) : Sem Next)) (h : Comes1 E F φ st w s v st') :
    EffOk E F φ st w tmps o (.val v st') := by
  obtain ⟨u, φ', w', h1, h2, h3, h4⟩ := h
  exact eff_value hd (by rw [he]; simp [h1]) h2 h3 h4

theorem finish_raise {fn : FuncId} {kd : CallKind} {ro : Option Nat} {tmps : Array Value} {df : List Deferred} {todo : List Item} (chain : List PanicEntry) :
    (mkF fn kd ro tmps df todo).raise chain = { mkF fn kd ro tmps df todo with mode := .panicking chain } := rfl

theorem callEff_sound {cal : Cal} (hcal : CalOk E cal) (hS : Sess E F φ st w) {fr : Fr} {tmps : Array Value} (hT : LRel (Bd F φ st) w φ fr.tm tmps.toList) {dst : Option Tmp} {c : Call} {ty : TypeId} {pos : String} {after : Array Edge}
    {guard : Option (Nat × Bool)} {eo : EO} (h : callEff c E cal fr st = some eo) : EffOk E F φ st w tmps ⟨dst, .call c, ty, pos, after, guard⟩ eo := by
  obtain ⟨callee, args, argTypes⟩ := c
  have hd : ∀ c', (Op.call ⟨callee, args, argTypes⟩) ≠ .defer c' := by intro c' e; cases e
  have hargs : ∀ {vs : List AV}, evs E fr args.toList = some vs → LRel (Bd F φ st) w φ vs (args.map (evalT tmps)).toList := by
    intro vs hvs
    have := evs_sound hS hT hvs
    simpa using this
  have two : ∀ {x y : AV}, evs E fr args.toList = some [x, y] → ∃ ux uy, args.map (evalT tmps) = #[ux, uy] ∧ VRel (Bd F φ st) w φ x ux ∧ VRel (Bd F φ st) w φ y uy := by
    intro x y hxy
    obtain ⟨ux, l1, e1, hx, r1⟩ := (hargs hxy).inv_cons
    obtain ⟨uy, l2, e2, hy, r2⟩ := r1.inv_cons
    have e3 := r2.inv_nil
    subst e3; subst e2
    exact ⟨ux, uy, by apply Array.ext'; simpa using e1, hx, hy⟩
  unfold callEff at h
  cases callee with
  | value f =>
    simp only [callVF] at h
    split at h
    · rename_i fv vs hf hvs
      have hfv := ev_sound hS hT hf
      have hav := hargs hvs
      unfold valO at h
      split at h
      · rename_i v st' hc
        simp at h; subst h
        obtain ⟨nx, frame, hrun, hnf, hrest⟩ := hcal _ _ _ _ _ hc F φ w _ _ hS hfv hav
        intro fn kd ro df k cs ops i rest ho hw
        obtain ⟨φ', w', s1, s2, u, s3, s4⟩ := hrest (mkF fn kd ro tmps df (.inRegion ops (i :: rest) :: k)) cs
        refine ⟨φ', w', u, s1, s2, s3, .head (st_op_call ho hw (.inr hd) (nx := nx) (by simp only [execOp, resolve]; exact hrun) hnf) ?_⟩
        rw [finish_mkF ho] at s4
        exact s4
      · rename_i ch st' hc
        simp at h; subst h
        obtain ⟨nx, frame, hrun, hnf, hrest⟩ := hcal _ _ _ _ _ hc F φ w _ _ hS hfv hav
        intro fn kd ro df k cs ops i rest ho hw
        obtain ⟨φ', w', s1, s2, chain, s3, s4⟩ := hrest (mkF fn kd ro tmps df (.inRegion ops (i :: rest) :: k)) cs
        refine ⟨φ', w', chain, s1, s2, s3, .head (st_op_call ho hw (.inr hd) (nx := nx) (by simp only [execOp, resolve]; exact hrun) hnf) ?_⟩
        rw [finish_raise] at s4
        exact s4
      · cases h
    · cases h
  | invoke r m => simp [noneE] at h
  | builtin b =>
    simp only at h
    cases b <;> simp only [builtinEff, noneE] at h <;> first | (cases h; done) | skip
    · -- append
      unfold appF at h
      split at h
      · rename_i x y t hxy ht
        unfold valV at h
        split at h
        · rename_i v st' ha
          simp at h; subst h
          obtain ⟨ux, uy, e, hx, hy⟩ := two hxy
          obtain ⟨u, φ', w', h1, h2, h3, h4⟩ := appendE_sound hS (ty := ty) ha ht hx hy
          exact eff_value hd (by simp only [execOp, resolve, e, pure_bind, invoke, builtin]; simp [h1]) h2 h3 h4
        · cases h
      · cases h
    · -- copy
      unfold copyF at h
      split at h
      · rename_i x y t hxy ht
        unfold valV at h
        split at h
        · rename_i v st' ha
          simp at h; subst h
          obtain ⟨ux, uy, e, hx, hy⟩ := two hxy
          obtain ⟨u, φ', w', h1, h2, h3, h4⟩ := copyE_sound hS (ty := ty) ha ht hx hy
          exact eff_value hd (by simp only [execOp, resolve, e, pure_bind, invoke, builtin]; simp [h1]) h2 h3 h4
        · cases h
      · cases h
    · -- panic
      unfold panF at h
      split at h
      · rename_i x hx
        split at h
        · rename_i t v hv
          simp at h; subst h
          have hr := ev_sound hS hT hv
          generalize hu : evalT tmps x = u at hr
          cases hr with
          | iface hr' =>
            rename_i u'
            refine eff_panic hS hd ?_ (.iface hr')
            have e0 : (args.map (evalT tmps))[0]? = some (.iface t u') := by simp [hx, hu]
            simp [execOp, resolve, invoke, builtin, Array.getD_eq_getD_getElem?, e0, Instr.panic]
        · cases h
      · cases h
    · -- recover
      simp only [recF, Option.some.injEq] at h; subst h
      exact ⟨by simp [execOp, resolve, invoke, builtin], hd⟩

theorem effOp_sound {cal : Cal} (hcal : CalOk E cal) (hS : Sess E F φ st w) {fr : Fr} {tmps : Array Value} (hT : LRel (Bd F φ st) w φ fr.tm tmps.toList) {o : Oper} {eo : EO} (h : effOp o.op E cal fr st = some eo) :
    EffOk E F φ st w tmps o eo := by
  obtain ⟨dst, op, ty, pos, after, guard⟩ := o
  simp only at h
  cases op <;> simp only [effOp, noneE] at h <;> first | (cases h; done) | skip
  case store t a v =>
    unfold storeF at h
    split at h
    · rename_i a' v' ha hv
      unfold valU at h
      split at h
      · rename_i st' hs
        simp at h; subst h
        obtain ⟨w', h1, h2, h3⟩ := storeE_sound hS hs (ev_sound hS hT ha) (ev_sound hS hT hv)
        exact eff_unit (by intro c e; cases e) (by simp [execOp, h1]) h2 h3
      · cases h
    · cases h
  case call c => exact callEff_sound hcal hS hT h
  case panic x =>
    unfold panF at h
    simp only at h
    split at h
    · rename_i t v hv
      simp at h; subst h
      have hr := ev_sound hS hT hv
      generalize hu : evalT tmps x = u at hr
      cases hr with
      | iface hr' => exact eff_panic hS (by intro c e; cases e) (by simp [execOp, hu, Instr.panic]) (.iface hr')
    · cases h
  case mapUpdate t m k v =>
    unfold mapUpF at h
    split at h
    · rename_i m' k' v' hm hk hv
      unfold valU at h
      split at h
      · rename_i st' hs
        simp at h; subst h
        obtain ⟨w', h1, h2, h3⟩ := mapUpdateE_sound hS hs (ev_sound hS hT hm) (ev_sound hS hT hk) (ev_sound hS hT hv)
        exact eff_unit (by intro c e; cases e) (by simp [execOp, h1]) h2 h3
      · cases h
    · cases h
  case insert t m k v =>
    unfold mapUpF at h
    split at h
    · rename_i m' k' v' hm hk hv
      unfold valU at h
      split at h
      · rename_i st' hs
        simp at h; subst h
        obtain ⟨w', h1, h2, h3⟩ := mapUpdateE_sound hS hs (ev_sound hS hT hm) (ev_sound hS hT hk) (ev_sound hS hT hv)
        exact eff_unit (by intro c e; cases e) (by simp [execOp, h1]) h2 h3
      · cases h
    · cases h
  case range t x =>
    unfold rangeOpF at h
    split at h
    · rename_i x' hx
      unfold valV at h
      split at h
      · rename_i v st' hs
        simp at h; subst h
        exact comes1_eff (by intro c e; cases e) rfl (rangeE_sound hS hs (ev_sound hS hT hx))
      · cases h
    · cases h
  case next x s =>
    unfold nextF at h
    split at h
    · rename_i x' hx
      unfold valV at h
      split at h
      · rename_i v st' hs
        simp at h; subst h
        exact comes1_eff (by intro c e; cases e) rfl (nextE_sound hS hs (ev_sound hS hT hx))
      · cases h
    · cases h
  case entry x =>
    unfold entryF at h
    split at h
    · rename_i x' hx
      split at h
      · rename_i v hs
        simp at h; subst h
        obtain ⟨u, h1, h2⟩ := entryE_sound hS hs (ev_sound hS hT hx)
        exact comes1_eff (by intro c e; cases e) rfl ⟨u, φ, w, h1, hS, Ext.refl _ _ _, h2⟩
      · cases h
    · cases h
  case defer c =>
    unfold deferF at h
    obtain ⟨callee, args, argTypes⟩ := c
    cases callee with
    | value f =>
      simp only at h
      split at h
      · rename_i g a cc vs hf hvs
        simp at h; subst h
        have hfv := ev_sound hS hT hf
        have hav := evs_sound hS hT hvs
        generalize hu : evalT tmps f = u at hfv
        cases hfv with
        | func ha hc hav' hcv =>
          rename_i a' c'
          refine ⟨{ target := .fn (.func g) c', args := a' ++ args.map (evalT tmps) }, by simp [execOp, resolve, hu, Deferred.ofValue], g, a, cc, rfl, c', _, rfl, ⟨by simpa using hc, fun j x v hx hv => hcv j x v hx (by simpa using hv)⟩, ?_⟩
          rw [Array.toList_append]
          refine LRel.append ⟨by simpa using ha, fun j x v hx hv => hav' j x v hx (by simpa using hv)⟩ (by simpa using hav)
      · cases h
    | _ => cases h

end
end Go.Proofs.YtbjhjladdkbnmaaGreatDoor.Gx
