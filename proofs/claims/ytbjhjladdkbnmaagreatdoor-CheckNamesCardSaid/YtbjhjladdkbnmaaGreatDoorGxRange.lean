/-
  Soundness of the evaluator: ranges over functions.
-/
import Derived.Test.YtbjhjladdkbnmaaGreatDoorGxCall2
namespace Go.Proofs.YtbjhjladdkbnmaaGreatDoor.Gx
open Go

section
variable {P : Program} {fn : FuncId} {kd : CallKind} {ro : Option Nat} {tmps : Array Value} {df : List Deferred} {k : List Item} {cs : List Frame} {w w1 : World}

theorem st_rangeFunc {f : Operand} {params : Array Tmp} {assign bd : Code} {l : Nat} {mark : List Deferred} {nx : Next} {fr0 : Frame} (he : (Instr.enterLoop fn tmps params assign bd ro).run P w = .ok (l, mark) w1)
    (hc : (callSem (evalT tmps f) #[.func (.yield l) #[] #[]]).run P w1 = .ok nx w1) (hn : nextFrame P nx = some fr0) :
    step P (lone (mkF fn kd ro tmps df (.code (.rangeFunc f params assign bd) :: k)) cs w) = .next (lone fr0 (mkF fn kd ro tmps (mark ++ df) (.inRangeFunc l :: k) :: cs) w1) := by
  have hev := eval_mkF (fn := fn) (kd := kd) (ro := ro) (tmps := tmps) (df := mark ++ df) (.inRangeFunc l :: k)
  simp only [mkF] at hev
  have hrun : (do let d ← resolve (evalT tmps) { callee := .value f, args := #[.const (.func (.yield l) #[] #[])], argTypes := #[] } 0; invoke d.target d.args : Sem Next).run P w1 = .ok nx w1 := by
    have : (resolve (evalT tmps) { callee := .value f, args := #[.const (.func (.yield l) #[] #[])], argTypes := #[] } 0) = Deferred.ofValue (evalT tmps f) #[.func (.yield l) #[] #[]] := by
      simp [resolve, evalT]
    rw [this]; exact hc
  refine step_lone_go ?_
  cases nx <;> simp [nextFrame] at hn <;> subst hn <;> simp [stepG, stepG.exec, stepG.apply, mkF, he, hev, hrun]

theorem st_endRange {l : Nat} {L : Loop} (hl : w.heap[l]? = some (.loop L)) (hb : L.state ≠ .busy) :
    step P (lone (mkF fn kd ro tmps df (.endRangeFunc l :: k)) cs w) = .next (lone (mkF fn kd ro tmps df ((L.pending.map Item.code).toList ++ k)) cs (setAt w l (.loop { L with state := .exhausted }))) := by
  have hrun : (Instr.endLoop l).run P w = .ok L.pending (setAt w l (.loop { L with state := .exhausted })) := by
    simp [Instr.endLoop, Instr.getLoop, getObj_run hl (by intro c t f; simp), setObj_run hl (by intro c t f; simp), hb]
  exact step_lone_go (by simp [stepG, stepG.exec, mkF, hrun])

theorem st_beginRound {l : Nat} {L : Loop} (hl : w.heap[l]? = some (.loop L)) (hb : L.state = .ready) :
    step P (lone (mkF fn kd (some l) tmps df (.beginRound :: k)) cs w) = .next (lone (mkF fn kd (some l) tmps df k) cs (setAt w l (.loop { L with state := .busy }))) := by
  have hrun : (Instr.beginRound l).run P w = .ok () (setAt w l (.loop { L with state := .busy })) := by
    simp [Instr.beginRound, Instr.getLoop, getObj_run hl (by intro c t f; simp), setObj_run hl (by intro c t f; simp), hb]
  exact step_lone_go (by simp [stepG, stepG.exec, stepG.apply, mkF, hrun, Frame.finish])

theorem endRound_run {l : Nat} {L : Loop} (hl : w.heap[l]? = some (.loop L)) (jump : Option Code) :
    (Instr.endRound l jump).run P w = .ok (.bool jump.isNone) (setAt w l (.loop { L with state := if jump.isNone then .ready else .done, pending := jump })) := by
  simp [Instr.endRound, Instr.getLoop, getObj_run hl (by intro c t f; simp), setObj_run hl (by intro c t f; simp)]

theorem st_roundEnd {l : Nat} {L : Loop} {c : Frame} (hl : w.heap[l]? = some (.loop L)) :
    step P (lone (mkF fn .normal (some l) tmps df []) (c :: cs) w) = .next (lone (c.finish (.bool true)) cs (setAt w l (.loop { L with state := .ready, pending := none }))) := by
  have h := endRound_run (P := P) hl none
  exact step_lone_go (by simp [stepG, stepG.exec, mkF, h, doReturn])

theorem st_roundRet {l : Nat} {L : Loop} {c : Frame} (hl : w.heap[l]? = some (.loop L)) :
    step P (lone (mkF fn .normal (some l) tmps df (.code .ret :: k)) (c :: cs) w) = .next (lone (c.finish (.bool false)) cs (setAt w l (.loop { L with state := .done, pending := some .ret }))) := by
  have h := endRound_run (P := P) hl (some .ret)
  exact step_lone_go (by simp [stepG, stepG.exec, mkF, h, doReturn])

theorem st_roundExit {l id : Nat} {L : Loop} {c : Frame} (hl : w.heap[l]? = some (.loop L)) (hx : exitTo id k = none) :
    step P (lone (mkF fn .normal (some l) tmps df (.code (.exit id) :: k)) (c :: cs) w) = .next (lone (c.finish (.bool false)) cs (setAt w l (.loop { L with state := .done, pending := some (.exit id) }))) := by
  have h := endRound_run (P := P) hl (some (.exit id))
  exact step_lone_go (by simp [stepG, stepG.exec, mkF, h, doReturn, hx])

end

section
variable {E : Env} {F : Nat → Prop} {φ : Phi} {st : St} {w : World}

/-- A loop's record changes. -/
theorem loop_change (hS : Sess E F φ st w) {l cl y : Nat} {L : ALoop} (hl : st[l]? = some (.loop L)) (hp : φ l = some (cl, y)) :
    ∃ CL : Loop, w.heap[cl]? = some (.loop CL) ∧ CL.state = L.state ∧ CL.pending = L.pending ∧ CL.params.toList = L.params ∧ CL.assign = L.assign ∧ CL.body = L.body ∧ LRel (Bd F φ st) w φ L.tmps CL.tmps.toList ∧ (E.P.funcs[CL.fn]?).isSome = true ∧
      ∀ (s : LoopState) (p : Option Code), Sess E F φ (upd st l (.loop { L with state := s, pending := p })) (setAt w cl (.loop { CL with state := s, pending := p })) ∧
        Ext φ st w φ (upd st l (.loop { L with state := s, pending := p })) (setAt w cl (.loop { CL with state := s, pending := p })) := by
  obtain ⟨CL, h1, h2, h3, h4, h5, h6, h7, ⟨y8, h8⟩, h9⟩ := hS.blk l _ cl y hl hp
  refine ⟨CL, h1, h2, h3, h4, h5, h6, h7, h9, fun s p => ?_⟩
  rw [upd_eq]
  have hown : Own φ st cl := ⟨l, _, y, hl, rfl, hp⟩
  have g : Goes (Bd F φ st) w (Bd F φ st) (setAt w cl (.loop { CL with state := s, pending := p })) := goes_setAt (.inr hown) h1 (fun c t fz hc => by cases hc)
  exact hS.change hl rfl rfl hp (fun c t fz hc => by rw [h1] at hc; cases hc) ⟨_, setAt_same h1, rfl, rfl, h4, h5, h6, h7.mono g (fun _ _ h => h), ⟨y8, h8⟩, h9⟩

theorem setParams_sound {B : Nat → Prop} : ∀ {ps : List Tmp} {args tm : List AV} {us : List Value} {tmps : Array Value}, args.length = ps.length → LRel B w φ args us → LRel B w φ tm tmps.toList →
    LRel B w φ (setParams ps args tm) ((ps.zip us).foldl (fun tmps (x : Tmp × Value) => tmps.setIfInBounds x.1 x.2) tmps).toList
  | [], args, tm, us, tmps, hl, hA, hT => by simpa [setParams] using hT
  | p :: ps, args, tm, us, tmps, hl, hA, hT => by
    cases args with
    | nil => simp at hl
    | cons a args =>
      obtain ⟨u, us', rfl, h1, h2⟩ := hA.inv_cons
      simp only [setParams, List.zip_cons_cons, List.foldl_cons]
      refine setParams_sound (by simpa using hl) h2 ?_
      rw [upd_eq, Array.toList_setIfInBounds]
      exact hT.set p h1

/-- A round. -/
theorem round_sound {R : Rn} (hR : RunOk E R) {l : Nat} {args : List AV} {out : Out} {st' : St} (h : round R l args st = some (out, st')) (hS : Sess E F φ st w) {cl y : Nat} (hp : φ l = some (cl, y)) {us : Array Value}
    (hA : LRel (Bd F φ st) w φ args us.toList) : ∃ nx fr, (Instr.yield cl us).run E.P w = .ok nx w ∧ nextFrame E.P nx = some fr ∧
      ∀ (c : Frame) (cs : List Frame), ∃ φ' w', Sess E F φ' st' w' ∧ Ext φ st w φ' st' w' ∧ OutOk E.P (lone fr (c :: cs) w) c cs (Bd F φ' st') w' φ' out := by
  unfold round at h
  rw [get?_eq] at h
  split at h
  · rename_i L hl
    split at h
    · rename_i hlen
      obtain ⟨CL, c1, c2, c3, c4, c5, c6, c7, c8, c9⟩ := loop_change hS hl hp
      have hsz : us.size = CL.params.size := by
        have h1 := hA.1; have h2 : CL.params.size = L.params.length := by rw [← c4]; simp
        simp at h1; omega
      have hyield : (Instr.yield cl us).run E.P w = .ok (.round cl CL.fn ((CL.params.zip us).foldl (fun tmps (x : Tmp × Value) => tmps.setIfInBounds x.1 x.2) CL.tmps) CL.assign CL.body) w := by
        simp [Instr.yield, Instr.getLoop, getObj_run c1 (by intro c t f; simp), hsz]
      refine ⟨_, _, hyield, rfl, fun c cs => ?_⟩
      have hT : LRel (Bd F φ st) w φ (setParams L.params args L.tmps) ((CL.params.zip us).foldl (fun tmps (x : Tmp × Value) => tmps.setIfInBounds x.1 x.2) CL.tmps).toList := by
        have := setParams_sound (ps := L.params) hlen hA c7
        rw [← Array.foldl_toList, Array.toList_zip, c4]
        exact this
      have hF0 : FRel (Bd F φ st) w φ ⟨setParams L.params args L.tmps, [], none, some l⟩ .normal (some cl) ((CL.params.zip us).foldl (fun tmps (x : Tmp × Value) => tmps.setIfInBounds x.1 x.2) CL.tmps) [] (c :: cs) :=
        ⟨hT, .nil, rfl, cl, y, rfl, hp⟩
      split at h
      · rename_i fr1 st1 hr1
        rw [← c5] at hr1
        obtain ⟨φ1, w1, tmps1, df1, cs1, s1, s2, s3, s4, s5⟩ := hR _ _ _ _ hr1 F φ w CL.fn .normal (some cl) _ _ (c :: cs) [.beginRound, .code CL.body] c8 hS hF0
        have hcs1 : cs1 = c :: cs := by rcases s4 with h | ⟨h, _⟩; exact h; cases h
        subst hcs1
        simp only at s1 s2 s3
        have hp1 : φ1 l = some (cl, y) := s2.phi _ _ hp
        rw [get?_eq] at h
        split at h
        · rename_i L1 hl1
          split at h
          · rename_i hready
            obtain ⟨CL1, d1, d2, d3, d4, d5, d6, d7, d8, d9⟩ := loop_change s1 hl1 hp1
            obtain ⟨e1, e2⟩ := d9 .busy L1.pending
            have hb1 := st_beginRound (P := E.P) (fn := CL.fn) (kd := .normal) (tmps := tmps1) (df := df1) (k := [.code CL.body]) (cs := c :: cs) d1 (by rw [d2, hready])
            have hW : ({ CL1 with state := .busy } : Loop) = { CL1 with state := .busy, pending := L1.pending } := by rw [← d3]
            rw [hW] at hb1
            have hF1 := s3.mono e2.goes e2.phi
            split at h
            · rename_i ex tm2 rc2 ro2 st2 hr2
              rw [← c6] at hr2
              obtain ⟨φ2, w2, tmps2, df2, cs2, t1, t2, t3, t4, t5⟩ := hR _ _ _ _ hr2 F φ1 _ CL.fn .normal (some cl) _ _ (c :: cs) [] c8 e1 hF1
              have hcs2 : cs2 = c :: cs := by rcases t4 with h | ⟨h, _⟩; exact h; cases h
              subst hcs2
              simp only at t1 t2 t3
              have hdf2 : df2 = [] := by have := t3.df; cases this; rfl
              subst hdf2
              have hp2 : φ2 l = some (cl, y) := t2.phi _ _ hp1
              have hpre : Steps E.P (lone (Frame.round cl CL.fn ((CL.params.zip us).foldl (fun tmps (x : Tmp × Value) => tmps.setIfInBounds x.1 x.2) CL.tmps) CL.assign CL.body .normal) (c :: cs) w)
                  (lone (mkF CL.fn .normal (some cl) tmps1 df1 [.code CL.body]) (c :: cs) (setAt w1 cl (.loop { CL1 with state := .busy, pending := L1.pending }))) := Steps.trans s5 (.one hb1)
              rw [get?_eq] at h
              split at h
              · rename_i L2 hl2
                obtain ⟨CL2, f1, f2, f3, f4, f5, f6, f7, f8, f9⟩ := loop_change t1 hl2 hp2
                have hE : Ext φ st w φ2 st2 w2 := s2.trans (e2.trans t2)
                unfold endRound at h
                cases ex with
                | normal =>
                  simp at h; obtain ⟨rfl, rfl⟩ := h
                  obtain ⟨g1, g2⟩ := f9 .ready none
                  exact ⟨φ2, _, g1, hE.trans g2, _, .bool true, hpre.trans (Steps.trans t5 (.one (st_roundEnd f1)))⟩
                | ret =>
                  simp at h; obtain ⟨rfl, rfl⟩ := h
                  obtain ⟨g1, g2⟩ := f9 .done (some .ret)
                  obtain ⟨k0, t5⟩ := t5
                  exact ⟨φ2, _, g1, hE.trans g2, _, .bool false, hpre.trans (Steps.trans t5 (.one (st_roundRet f1)))⟩
                | exit id =>
                  simp at h; obtain ⟨rfl, rfl⟩ := h
                  obtain ⟨g1, g2⟩ := f9 .done (some (.exit id))
                  obtain ⟨k0, hk0, t5⟩ := t5
                  exact ⟨φ2, _, g1, hE.trans g2, _, .bool false, hpre.trans (Steps.trans t5 (.one (st_roundExit f1 (by rw [hk0]; rfl))))⟩
                | pan ch =>
                  simp at h; obtain ⟨rfl, rfl⟩ := h
                  obtain ⟨chain, k0, hch, t5⟩ := t5
                  obtain ⟨fnc, hfnc⟩ := Option.isSome_iff_exists.1 c8
                  exact ⟨φ2, w2, t1, hE, chain, hch, hpre.trans (Steps.trans t5 (.one (step_leave_panicked ⟨rfl, rfl, fnc, hfnc⟩)))⟩
              · cases h
            · cases h
          · cases h
        · cases h
      · cases h
    · cases h
  · cases h

/-- Calls are sound. -/
theorem callV_sound {R : Rn} (hR : RunOk E R) (hN : NoNum E.P) (hM : MemoOk E) : CalOk E (callV E R) := by
  intro fv args st out st' h F φ w uf us hS hf hA
  cases hf with
  | func ha hc hav hcv =>
    rename_i f a c a' c'
    simp only [callV] at h
    have hargs : LRel (Bd F φ st) w φ (a ++ args ++ c) (a' ++ us ++ c').toList := by
      simp only [Array.toList_append]
      exact (LRel.append ⟨by simpa using ha, fun j x v hx hv => hav j x v hx (by simpa using hv)⟩ hA).append ⟨by simpa using hc, fun j x v hx hv => hcv j x v hx (by simpa using hv)⟩
    obtain ⟨⟨fn, cd, hb⟩, hrest⟩ := callF_sound hR hN hM h hS hargs
    refine ⟨.enter f (a' ++ us ++ c'), Frame.enter E.P f (a' ++ us ++ c') .normal, ?_, rfl, fun c cs => ?_⟩
    · simp only [callSem, Deferred.ofValue, pure_bind, invoke]
      exact callFunc_run hN hb _
    · obtain ⟨φ', w', s1, s2, s3⟩ := hrest (c :: cs)
      exact ⟨φ', w', s1, s2, s3.out⟩
  | yld hp =>
    simp only [callV] at h
    obtain ⟨nx, fr, h1, h2, h3⟩ := round_sound hR h hS hp hA
    refine ⟨nx, fr, ?_, h2, h3⟩
    simp only [callSem, Deferred.ofValue, pure_bind, invoke]
    simpa using h1
  | _ => simp [callV] at h

end
end Go.Proofs.YtbjhjladdkbnmaaGreatDoor.Gx
