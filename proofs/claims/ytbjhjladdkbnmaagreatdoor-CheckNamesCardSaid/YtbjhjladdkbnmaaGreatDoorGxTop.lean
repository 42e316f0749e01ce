/-
  Soundness of the evaluator: all code.
-/
import Derived.Test.YtbjhjladdkbnmaaGreatDoorGxRange
namespace Go.Proofs.YtbjhjladdkbnmaaGreatDoor.Gx
open Go

section
variable {E : Env} {F : Nat → Prop} {φ : Phi} {st : St} {w : World}

theorem enterL_sound (hS : Sess E F φ st w) {fr : Fr} {kd : CallKind} {ro : Option Nat} {tmps : Array Value} {df : List Deferred} {cs : List Frame} (hF : FRel (Bd F φ st) w φ fr kd ro tmps df cs)
    {dblk : Nat} {mark : List ADef} {st1 : St} (h : enterL fr st = some (dblk, mark, st1)) :
    ∃ φ1 w1 cd y cmark, Sess E F φ1 st1 w1 ∧ Ext φ st w φ1 st1 w1 ∧ φ1 dblk = some (cd, y) ∧ All2 (DRel (Bd F φ1 st1) w1 φ1) mark cmark ∧
      ∀ (fn : FuncId) (tmps : Array Value) (params : Array Tmp) (assign bd : Code), (Instr.enterLoop fn tmps params assign bd ro).run E.P w =
        .ok (w1.heap.size, cmark) (pushed w1 (.loop { state := .ready, pending := none, fn, tmps, params, assign, body := bd, defers := cd })) := by
  unfold enterL at h
  have hro := hF.ro
  split at h
  · rename_i he
    simp at h; obtain ⟨rfl, rfl, rfl⟩ := h
    rw [he] at hro
    subst hro
    obtain ⟨s1, s2, s3⟩ := obj_new hS (ab := .defd false) rfl (.deferred (some [])) (fun B' φ' _ _ => by simp only [ORel, Bool.false_eq_true, if_false]; exact pushed_new w _)
    refine ⟨_, _, w.heap.size, 0, [{ target := .collected w.heap.size, args := #[] }], s1, s2, s3, .cons ⟨_, 0, rfl, s3⟩ .nil, fun fn tmps params assign bd => ?_⟩
    simp [Instr.enterLoop, pushed]
    rfl
  · rename_i l he
    rw [get?_eq] at h
    split at h
    · rename_i L hl
      simp at h; obtain ⟨rfl, rfl, rfl⟩ := h
      rw [he] at hro
      obtain ⟨cl, y, rfl, hp⟩ := hro
      obtain ⟨CL, h1, h2, h3, h4, h5, h6, h7, ⟨y8, h8⟩, h9⟩ := hS.blk l _ cl y hl hp
      refine ⟨φ, w, CL.defers, y8, [], hS, Ext.refl _ _ _, h8, .nil, fun fn tmps params assign bd => ?_⟩
      simp [Instr.enterLoop, Instr.getLoop, getObj_run h1 (by intro c t f; simp), pushed]
    · cases h

theorem rangeF_sound {R : Rn} (hcal : CalOk E (callV E R)) (hS : Sess E F φ st w) {fn : FuncId} (hfn : (E.P.funcs[fn]?).isSome = true) {kd : CallKind} {ro : Option Nat} {tmps : Array Value} {df : List Deferred} {cs : List Frame} {fr : Fr}
    (hF : FRel (Bd F φ st) w φ fr kd ro tmps df cs) {f : Operand} {params : Array Tmp} {assign bd : Code} {r : Ex × Fr × St} (h : rangeF E R f params.toList assign bd fr st = some r) (k : List Item) :
    ExOk E F φ st w fn kd ro cs (lone (mkF fn kd ro tmps df (.code (.rangeFunc f params assign bd) :: k)) cs w) k r := by
  unfold rangeF at h
  split at h
  · rename_i fv dblk mark st1 hev hen
    obtain ⟨φ1, w1, cd, y, cmark, s1, s2, s3, s4, s5⟩ := enterL_sound hS hF hen
    have hF1 := hF.mono s2.goes s2.phi
    obtain ⟨t1, t2, t3⟩ := obj_new s1 (ab := .loop ⟨.ready, none, fr.tm, params.toList, assign, bd, dblk⟩) rfl (.loop { state := .ready, pending := none, fn, tmps, params, assign, body := bd, defers := cd })
      (fun B' φ' hle g => ⟨_, pushed_new w1 _, rfl, rfl, rfl, rfl, rfl, hF1.tm.mono g hle, ⟨y, hle _ _ s3⟩, hfn⟩)
    have hF2 := hF1.mono t2.goes t2.phi
    have hfv := t2.val (s2.val (ev_sound hS hF.tm hev))
    cases hcv : callV E R fv [.yld st1.length] (st1 ++ [AB.loop ⟨.ready, none, fr.tm, params.toList, assign, bd, dblk⟩]) with
    | none => rw [hcv] at h; simp [endL] at h
    | some p =>
      obtain ⟨out, st3⟩ := p
      rw [hcv] at h
      obtain ⟨nx, fr0, hrun, hnf, hrest⟩ := hcal _ _ _ _ _ hcv F _ _ _ #[.func (.yield w1.heap.size) #[] #[]] t1 hfv (.cons (.yld t3) .nil)
      obtain ⟨φ3, w3, q1, q2, q3⟩ := hrest (mkF fn kd ro tmps (cmark ++ df) (.inRangeFunc w1.heap.size :: k)) cs
      have hstep := st_rangeFunc (P := E.P) (kd := kd) (df := df) (k := k) (cs := cs) (f := f) (s5 fn tmps params assign bd) hrun hnf
      have hE : Ext φ st w φ3 st3 w3 := s2.trans (t2.trans q2)
      have hF3 : FRel (Bd F φ3 st3) w3 φ3 { fr with df := mark ++ fr.df } kd ro tmps (cmark ++ df) cs := by
        have h3 := hF2.mono q2.goes q2.phi
        exact ⟨h3.tm, (s4.mono fun _ _ h => (h.mono t2.goes t2.phi).mono q2.goes q2.phi).append h3.df, h3.rc, h3.ro⟩
      have hp3 : φ3 st1.length = some (w1.heap.size, 0) := q2.phi _ _ t3
      cases out with
      | ret v =>
        obtain ⟨u, _, hu⟩ := q3
        have hfin : (mkF fn kd ro tmps (cmark ++ df) (.inRangeFunc w1.heap.size :: k)).finish u = mkF fn kd ro tmps (cmark ++ df) (.endRangeFunc w1.heap.size :: k) := rfl
        rw [hfin] at hu
        simp only [endL] at h
        rw [get?_eq] at h
        split at h
        · rename_i L hl
          split at h
          · cases h
          · rename_i hnb
            obtain ⟨CL, c1, c2, c3, c4, c5, c6, c7, c8, c9⟩ := loop_change q1 hl hp3
            obtain ⟨g1, g2⟩ := c9 .exhausted L.pending
            have hend := st_endRange (P := E.P) (fn := fn) (kd := kd) (ro := ro) (tmps := tmps) (df := cmark ++ df) (k := k) (cs := cs) c1 (by rw [c2]; exact hnb)
            have hW : ({ CL with state := .exhausted } : Loop) = { CL with state := .exhausted, pending := L.pending } := by rw [← c3]
            rw [hW, c3] at hend
            have hF4 := hF3.mono g2.goes g2.phi
            have hs := Steps.head hstep (hu.trans (.one hend))
            split at h
            · rename_i hpd
              simp at h; subst h
              rw [hpd] at hs
              exact ⟨φ3, _, tmps, _, cs, g1, hE.trans g2, hF4, .refl _ _, by simpa [Arr, hpd] using hs⟩
            · rename_i hpd
              simp at h; subst h
              rw [hpd] at hs
              exact ⟨φ3, _, tmps, _, cs, g1, hE.trans g2, hF4, .refl _ _, k, by simpa [hpd] using hs⟩
            · rename_i id hpd
              simp at h; subst h
              rw [hpd] at hs
              exact ⟨φ3, _, tmps, _, cs, g1, hE.trans g2, hF4, .refl _ _, k, rfl, by simpa [hpd] using hs⟩
            · cases h
        · cases h
      | pan ch =>
        simp [endL] at h; subst h
        obtain ⟨chain, hch, hu⟩ := q3
        exact ⟨φ3, w3, tmps, _, cs, q1, hE, hF3, .refl _ _, chain, _, hch, .head hstep hu⟩
  · cases h

/-- The first part has come out, then the second. -/
theorem seq_sound {R : Rn} {b : Code} {fn : FuncId} {kd : CallKind} {ro : Option Nat} {cs : List Frame} {m : Machine} {k : List Item} {it : Item} {r0 r : Ex × Fr × St}
    (hb : ∀ (φ : Phi) (st : St) (w : World) (fr : Fr) (tmps : Array Value) (df : List Deferred) (cs : List Frame), R b fr st = some r → Sess E F φ st w → FRel (Bd F φ st) w φ fr kd ro tmps df cs →
      ExOk E F φ st w fn kd ro cs (lone (mkF fn kd ro tmps df (it :: k)) cs w) k r)
    (hit : ∀ id, exitTo id (it :: k) = exitTo id k) (h : runSeq R b (some r0) = some r) (h0 : ExOk E F φ st w fn kd ro cs m (it :: k) r0) : ExOk E F φ st w fn kd ro cs m k r := by
  obtain ⟨ex, fr0, st0⟩ := r0
  obtain ⟨φ1, w1, tmps1, df1, cs1, s1, s2, s3, s4, s5⟩ := h0
  cases ex with
  | normal =>
    simp only [runSeq] at h
    exact ExOk.of_steps s5 s2 s4 (hb φ1 st0 w1 fr0 tmps1 df1 cs1 h s1 s3)
  | exit id =>
    simp [runSeq] at h; subst h
    obtain ⟨k0, e, hs⟩ := s5
    exact ⟨φ1, w1, tmps1, df1, cs1, s1, s2, s3, s4, k0, e.trans (hit id), hs⟩
  | ret => simp [runSeq] at h; subst h; exact ⟨φ1, w1, tmps1, df1, cs1, s1, s2, s3, s4, s5⟩
  | pan ch => simp [runSeq] at h; subst h; exact ⟨φ1, w1, tmps1, df1, cs1, s1, s2, s3, s4, s5⟩

/-- What is asked of the program and of what the evaluator is told. -/
structure EnvOk (E : Env) : Prop where
  noNum : NoNum E.P
  memo : MemoOk E
  mixed : E.P.follows .mixedOrders = true

/-- A loop, behind a round of it. -/
def LoopOk (E : Env) (R : Rn) : Prop :=
  ∀ (b : Code) (fr : Fr) (st : St) (r : Ex × Fr × St), R (.loop b) fr st = some r → ∀ (F : Nat → Prop) (φ : Phi) (w : World) (fn : FuncId) (kd : CallKind) (ro : Option Nat) (tmps : Array Value) (df : List Deferred) (cs : List Frame) (k : List Item),
    (E.P.funcs[fn]?).isSome = true → Sess E F φ st w → FRel (Bd F φ st) w φ fr kd ro tmps df cs →
    ExOk E F φ st w fn kd ro cs (lone (mkF fn kd ro tmps df (.inLoop b :: k)) cs w) k r

theorem run_sound (hE : EnvOk E) : ∀ n, RunOk E (run E n) ∧ LoopOk E (run E n)
  | 0 => ⟨fun c fr st r h => by simp [run] at h, fun c fr st r h => by simp [run] at h⟩
  | n + 1 => by
    obtain ⟨ihR, ihL⟩ := run_sound hE n
    have hcal := callV_sound ihR hE.noNum hE.memo
    have loop : ∀ {b : Code} {fr : Fr} {st : St} {r : Ex × Fr × St}, loopC b E (run E n) fr st = some r → ∀ {F : Nat → Prop} {φ : Phi} {w : World} {fn : FuncId} {kd : CallKind} {ro : Option Nat} {tmps : Array Value} {df : List Deferred} {cs : List Frame} {k : List Item},
        (E.P.funcs[fn]?).isSome = true → Sess E F φ st w → FRel (Bd F φ st) w φ fr kd ro tmps df cs → ExOk E F φ st w fn kd ro cs (lone (mkF fn kd ro tmps df (.code b :: .inLoop b :: k)) cs w) k r := by
      intro b fr st r h F φ w fn kd ro tmps df cs k hfn hS hF
      simp only [loopC] at h
      cases h0 : run E n b fr st with
      | none => rw [h0] at h; simp [runSeq] at h
      | some r0 =>
        rw [h0] at h
        exact seq_sound (fun φ st w fr tmps df cs hr hS hF => ihL b fr st r hr F φ w fn kd ro tmps df cs k hfn hS hF) (fun id => rfl) h (ihR _ _ _ _ h0 F φ w fn kd ro tmps df cs _ hfn hS hF)
    refine ⟨fun c fr st r h F φ w fn kd ro tmps df cs k hfn hS hF => ?_, fun b fr st r h F φ w fn kd ro tmps df cs k hfn hS hF => ?_⟩
    · simp only [run] at h
      cases c with
      | skip =>
        simp [codeC, skipC] at h; subst h
        exact ⟨φ, w, tmps, df, cs, hS, Ext.refl _ _ _, hF, .refl _ _, .one st_skip⟩
      | region id ops draw => exact region_sound hcal hE.mixed hS hF h k
      | seq a b =>
        simp only [codeC, seqC] at h
        cases h0 : run E n a fr st with
        | none => rw [h0] at h; simp [runSeq] at h
        | some r0 =>
          rw [h0] at h
          refine ExOk.of_steps (.one st_seq) (Ext.refl _ _ _) (.refl _ _) ?_
          exact seq_sound (fun φ st w fr tmps df cs hr hS hF => ihR b fr st r hr F φ w fn kd ro tmps df cs k hfn hS hF) (fun id => rfl) h (ihR _ _ _ _ h0 F φ w fn kd ro tmps df cs _ hfn hS hF)
      | cond c a b =>
        simp only [codeC, condC] at h
        split at h
        · rename_i hc
          have hv := ev_sound hS hF.tm hc
          generalize hu : evalT tmps c = u at hv
          cases hv
          refine ExOk.of_steps (.one (st_cond hu)) (Ext.refl _ _ _) (.refl _ _) ?_
          exact ihR _ _ _ _ h F φ w fn kd ro tmps df cs k hfn hS hF
        · rename_i hc
          have hv := ev_sound hS hF.tm hc
          generalize hu : evalT tmps c = u at hv
          cases hv
          refine ExOk.of_steps (.one (st_cond hu)) (Ext.refl _ _ _) (.refl _ _) ?_
          exact ihR _ _ _ _ h F φ w fn kd ro tmps df cs k hfn hS hF
        · cases h
      | block id b =>
        simp only [codeC, blockC] at h
        cases h0 : run E n b fr st with
        | none => rw [h0] at h; simp [runBlock] at h
        | some r0 =>
          rw [h0] at h
          refine ExOk.of_steps (.one st_block) (Ext.refl _ _ _) (.refl _ _) ?_
          obtain ⟨ex, fr0, st0⟩ := r0
          obtain ⟨φ1, w1, tmps1, df1, cs1, s1, s2, s3, s4, s5⟩ := ihR _ _ _ _ h0 F φ w fn kd ro tmps df cs (.inBlock id :: k) hfn hS hF
          cases ex with
          | normal =>
            simp [runBlock] at h; subst h
            exact ⟨φ1, w1, tmps1, df1, cs1, s1, s2, s3, s4, Steps.trans s5 (.one st_inBlock)⟩
          | exit j =>
            simp only [runBlock] at h
            obtain ⟨k0, e, hs⟩ := s5
            split at h
            · rename_i hj
              simp at h; subst h; subst hj
              exact ⟨φ1, w1, tmps1, df1, cs1, s1, s2, s3, s4, hs.trans (.one (st_exit (e.trans (by simp [exitTo]))))⟩
            · rename_i hj
              simp at h; subst h
              exact ⟨φ1, w1, tmps1, df1, cs1, s1, s2, s3, s4, k0, e.trans (by simp [exitTo, Ne.symm hj]), hs⟩
          | ret => simp [runBlock] at h; subst h; exact ⟨φ1, w1, tmps1, df1, cs1, s1, s2, s3, s4, s5⟩
          | pan ch => simp [runBlock] at h; subst h; exact ⟨φ1, w1, tmps1, df1, cs1, s1, s2, s3, s4, s5⟩
      | loop b => exact ExOk.of_steps (.one st_loop) (Ext.refl _ _ _) (.refl _ _) (loop h hfn hS hF)
      | rangeFunc f params assign bd => exact rangeF_sound hcal hS hfn hF h k
      | exit id =>
        simp [codeC, exitC] at h; subst h
        exact ⟨φ, w, tmps, df, cs, hS, Ext.refl _ _ _, hF, .refl _ _, k, rfl, .refl _ _⟩
      | ret =>
        simp [codeC, retC] at h; subst h
        exact ⟨φ, w, tmps, df, cs, hS, Ext.refl _ _ _, hF, .refl _ _, k, .refl _ _⟩
      | _ => simp [codeC, noneC] at h
    · simp only [run] at h
      exact ExOk.of_steps (.one st_inLoop) (Ext.refl _ _ _) (.refl _ _) (loop h hfn hS hF)

/-- A sealed call that the evaluator carries out. -/
theorem callS_sound (hE : EnvOk E) {n : Nat} {f : FuncId} {args : List AV} {out : Out} (h : sealed E (run E n) f args = some out) : SealOk E f args out :=
  sealed_sound (run_sound hE n).1 hE.noNum h

/-- A sealed call, as the kit's calls have it. -/
theorem SealOk.calls {f : FuncId} {args : List AV} {v : AV} (h : SealOk E f args (.ret v)) {us : Array Value} (hS : Sess E F phi0 [] w) (hA : LRel (Bd F phi0 []) w phi0 args us.toList) :
    Calls E.P f us w fun e w' => (∃ u, e = .returned u ∧ VRel F w' phi0 v u) ∧ Grew w w' := by
  intro cs
  obtain ⟨w', hg, u, fr, h1, h2, h3, h4⟩ := h.2 F w us cs hS hA
  exact ⟨.returned u, w', fr, ⟨⟨u, rfl, h1⟩, hg⟩, h2, h3, h4⟩

end
end Go.Proofs.YtbjhjladdkbnmaaGreatDoor.Gx
