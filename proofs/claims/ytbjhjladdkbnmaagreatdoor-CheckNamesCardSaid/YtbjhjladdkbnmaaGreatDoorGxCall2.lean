/-
  Soundness of the evaluator: deferred calls, calls in the session, sealed calls.
-/
import Derived.Test.YtbjhjladdkbnmaaGreatDoorGxCall
namespace Go.Proofs.YtbjhjladdkbnmaaGreatDoor.Gx
open Go

section
variable {E : Env} {F : Nat → Prop} {φ : Phi} {st : St} {w : World}

theorem LRel.app3 {B : Nat → Prop} {a b c : List AV} {a' b' c' : Array Value} (h1 : LRel B w φ (a ++ b) (a' ++ b').toList) (h2 : LRel B w φ c c'.toList) : LRel B w φ (a ++ b ++ c) (a' ++ b' ++ c').toList := by
  rw [Array.toList_append]; exact h1.append h2

/-- A deferred call. -/
theorem deferred_sound {R : Rn} (hR : RunOk E R) (hN : NoNum E.P) {fv : AV} {args : List AV} {m m' : AMode} {st' : St} (h : deferred E R fv args m st = some (m', st')) (hS : Sess E F φ st w) {d : Deferred} (hd : DRel (Bd F φ st) w φ (.call fv args) d)
    {fr : Frame} {ds : List Deferred} {cs : List Frame} (hds : fr.defers = d :: ds) (hm : MRel (Bd F φ st) w φ m fr.mode) :
    ∃ φ' w' u', Sess E F φ' st' w' ∧ Ext φ st w φ' st' w' ∧ MRel (Bd F φ' st') w' φ' m' u' ∧ Steps E.P (lone fr cs w) (lone (inMode { fr with defers := ds } u') cs w') := by
  obtain ⟨g, a, c, rfl, c', ar, rfl, hc, ha⟩ := hd
  simp only [deferred] at h
  split at h
  · rename_i fn cd hb
    split at h
    · rename_i m1 fr1 st1 hbody
      have hrun : (invoke (.fn (.func g) c') ar).run E.P w = .ok (.enter g (ar ++ c')) w := by simp only [invoke]; exact callFunc_run hN hb _
      have hstep := step_defer (P := E.P) (cs := cs) (settleA_run hm) hds rfl hrun
      have hargs : LRel (Bd F φ st) w φ (a ++ args ++ c) (ar ++ c').toList := by rw [Array.toList_append]; exact ha.append hc
      obtain ⟨φ1, w1, tmps1, df1, cs1, todo1, u1, s1, s2, s3, s4, s5, s6, s7⟩ := body_sound hR hb hbody hS hargs (kd := .deferred) (cs := { fr with defers := ds } :: cs) ⟨rfl, _, _, rfl, hm⟩
      have hend : ∀ u, fr1.rc = some u → ∃ x, cs1 = inMode { fr with defers := ds } x :: cs ∧ MRel (Bd F φ1 st1) w1 φ1 u x := by
        intro u hu
        have := s3.rc
        rw [hu] at this
        obtain ⟨_, c0, rest, e, hm0⟩ := this
        rcases s4 with rfl | ⟨_, c2, rest2, x, e1, rfl⟩
        · simp at e; obtain ⟨rfl, rfl⟩ := e
          exact ⟨fr.mode, rfl, hm0⟩
        · simp at e1; obtain ⟨rfl, rfl⟩ := e1
          simp at e; obtain ⟨rfl, rfl⟩ := e
          exact ⟨x, rfl, hm0⟩
      have hsome := (bodyOf_some hb).1
      split at h
      · rename_i u v hdf hrc hends
        simp at h; obtain ⟨rfl, rfl⟩ := h
        obtain ⟨x, rfl, hx⟩ := hend u hrc
        have hdf1 : df1 = [] := by have := s3.df; rw [hdf] at this; cases this; rfl
        subst hdf1
        cases m1 with
        | panicking ch => simp [ends] at hends
        | returning =>
          cases s5
          simp only [ends, Option.map_eq_some_iff] at hends
          obtain ⟨vs, hvs, _⟩ := hends
          obtain ⟨r, hr, _⟩ := results_sound s1 s3.tm hvs
          refine ⟨φ1, w1, settle x, s1, s2, settle_sound hx, .head hstep (s7.trans (.one ?_))⟩
          exact step_going_returned (c := inMode { fr with defers := ds } x) (v := r) rfl ⟨rfl, rfl, fn, hsome, hr⟩
      · rename_i u ch hdf hrc hends
        simp at h; obtain ⟨rfl, rfl⟩ := h
        obtain ⟨x, rfl, hx⟩ := hend u hrc
        have hdf1 : df1 = [] := by have := s3.df; rw [hdf] at this; cases this; rfl
        subst hdf1
        cases m1 with
        | returning => simp [ends] at hends
        | panicking ch' =>
          simp [ends] at hends; subst hends
          obtain ⟨chain, rfl, hch⟩ := s5
          refine ⟨φ1, w1, raised x chain, s1, s2, raised_sound hx hch, .head hstep (s7.trans (.one ?_))⟩
          exact step_going_panicked (c := inMode { fr with defers := ds } x) ⟨rfl, rfl, fn, hsome⟩
      · cases h
    · cases h
  · cases h

theorem st_collected {P : Program} {fr : Frame} {ds : List Deferred} {cs : List Frame} {b : Nat} (hm : fr.mode ≠ .run) (hd : fr.defers = { target := .collected b, args := #[] } :: ds) (hb : w.heap[b]? = some (.deferred (some []))) :
    step P (lone fr cs w) = .next (lone { fr with defers := ds } cs (setAt w b (.deferred none))) := by
  have hrun : (Instr.takeDeferred b).run P w = .ok [] (setAt w b (.deferred none)) := by
    simp [Instr.takeDeferred, getObj_run hb (by intro c t fz; simp), setObj_run hb (by intro c t fz; simp)]
  refine step_lone_go ?_
  cases hmode : fr.mode with
  | run => exact absurd hmode hm
  | returning => simp [stepG, unwind, hmode, hd, hrun]
  | panicking chain => simp [stepG, unwind, hmode, hd, hrun]

/-- Leaving a function: its deferred calls. -/
theorem leave_sound {R : Rn} (hR : RunOk E R) (hN : NoNum E.P) : ∀ (ds : List ADef) {m m' : AMode} {st st' : St} {φ : Phi} {w : World}, leave E R ds m st = some (m', st') → Sess E F φ st w →
    ∀ {fr : Frame} {cs : List Frame}, All2 (DRel (Bd F φ st) w φ) ds fr.defers → MRel (Bd F φ st) w φ m fr.mode →
    ∃ φ' w' u', Sess E F φ' st' w' ∧ Ext φ st w φ' st' w' ∧ MRel (Bd F φ' st') w' φ' m' u' ∧ Steps E.P (lone fr cs w) (lone (inMode { fr with defers := [] } u') cs w')
  | [], m, m', st, st', φ, w, h, hS, fr, cs, hds, hm => by
    simp [leave] at h; obtain ⟨rfl, rfl⟩ := h
    have he : fr.defers = [] := by generalize fr.defers = l at hds; cases hds; rfl
    refine ⟨φ, w, fr.mode, hS, Ext.refl _ _ _, hm, ?_⟩
    have : inMode { fr with defers := [] } fr.mode = fr := by cases fr; simp [inMode] at he ⊢; exact he
    rw [this]; exact .refl _ _
  | .coll b :: ds, m, m', st, st', φ, w, h, hS, fr, cs, hds, hm => by
    simp only [leave] at h
    rw [get?_eq] at h
    split at h
    · rename_i hb
      generalize hl : fr.defers = l at hds
      cases hds with
      | cons hd ht =>
        rename_i d l'
        obtain ⟨cb, y, rfl, hp⟩ := hd
        have hblk := hS.blk b _ cb y hb hp
        simp only [ORel, Bool.false_eq_true, if_false] at hblk
        have hstep := st_collected (P := E.P) (cs := cs) (settleA_run hm) hl hblk
        rw [upd_eq] at h
        obtain ⟨hS1, hE1⟩ := hS.change (ab' := .defd true) hb rfl rfl hp (o' := .deferred none) (fun c t fz hc => by rw [hblk] at hc; cases hc) (by simp only [ORel, if_true]; exact setAt_same hblk)
        obtain ⟨φ2, w2, u2, s1, s2, s3, s4⟩ := leave_sound hR hN ds h hS1 (fr := { fr with defers := l' }) (cs := cs) (ht.mono fun _ _ => DRel.mono hE1.goes hE1.phi) (hm.mono hE1.goes hE1.phi)
        exact ⟨φ2, w2, u2, s1, hE1.trans s2, s3, .head hstep s4⟩
    · cases h
  | .call fv args :: ds, m, m', st, st', φ, w, h, hS, fr, cs, hds, hm => by
    simp only [leave] at h
    split at h
    · rename_i m1 st1 hdef
      generalize hl : fr.defers = l at hds
      cases hds with
      | cons hd ht =>
        rename_i d l'
        obtain ⟨φ1, w1, u1, s1, s2, s3, s4⟩ := deferred_sound hR hN hdef hS hd (cs := cs) hl hm
        obtain ⟨φ2, w2, u2, t1, t2, t3, t4⟩ := leave_sound hR hN ds h s1 (fr := inMode { fr with defers := l' } u1) (cs := cs) (ht.mono fun _ _ => DRel.mono s2.goes s2.phi) s3
        exact ⟨φ2, w2, u2, t1, s2.trans t2, t3, s4.trans t4⟩
    · cases h

theorem ends_sound {fn : Func} {f : FuncId} (hf : E.P.funcs[f]? = some fn) {m : AMode} {fr : Fr} {out : Out} (h : ends E fn m fr st = some out) (hS : Sess E F φ st w) {tmps : Array Value} (hT : LRel (Bd F φ st) w φ fr.tm tmps.toList)
    {u : FrameMode} (hm : MRel (Bd F φ st) w φ m u) {m0 : Machine} {todo : List Item} {cs : List Frame} (hs : Steps E.P m0 (lone (inMode (mkF f .normal none tmps [] todo) u) cs w)) : LeavOk E.P m0 cs (Bd F φ st) w φ f out := by
  cases m with
  | returning =>
    cases hm
    simp only [ends, Option.map_eq_some_iff] at h
    obtain ⟨vs, hvs, rfl⟩ := h
    obtain ⟨r, hr, hv⟩ := results_sound hS hT hvs
    exact ⟨r, _, hv, hs, rfl, rfl, rfl, rfl, fn, hf, hr⟩
  | panicking ch =>
    simp [ends] at h; subst h
    obtain ⟨chain, rfl, hch⟩ := hm
    exact ⟨chain, _, hch, hs, rfl, rfl, rfl, fn, hf⟩

/-- A call in the session. -/
theorem inline_sound {R : Rn} (hR : RunOk E R) (hN : NoNum E.P) {f : FuncId} {args : List AV} {out : Out} {st' : St} (h : inline E R f args st = some (out, st')) (hS : Sess E F φ st w) {us : Array Value} (hA : LRel (Bd F φ st) w φ args us.toList) (cs : List Frame) :
    ∃ φ' w', Sess E F φ' st' w' ∧ Ext φ st w φ' st' w' ∧ LeavOk E.P (lone (Frame.enter E.P f us .normal) cs w) cs (Bd F φ' st') w' φ' f out := by
  unfold inline at h
  split at h
  · rename_i fn c hb
    split at h
    · rename_i m fr st1 hbody
      split at h
      · rename_i m' st2 hlv
        simp only [Option.map_eq_some_iff, Prod.mk.injEq] at h
        obtain ⟨o, hends, rfl, rfl⟩ := h
        obtain ⟨φ1, w1, tmps1, df1, cs1, todo1, u1, s1, s2, s3, s4, s5, s6, s7⟩ := body_sound hR hb hbody hS hA (kd := .normal) (cs := cs) rfl
        have hcs : cs1 = cs := by rcases s4 with h | ⟨h, _⟩; exact h; cases h
        subst hcs
        obtain ⟨φ2, w2, u2, t1, t2, t3, t4⟩ := leave_sound hR hN fr.df hlv s1 (fr := inMode (mkF f .normal none tmps1 df1 todo1) u1) (cs := cs1) s3.df s5
        exact ⟨φ2, w2, t1, s2.trans t2, ends_sound (bodyOf_some hb).1 hends t1 (t2.list s3.tm) t3 (s7.trans t4)⟩
      · cases h
    · cases h
  · cases h

theorem inline_body {R : Rn} {f : FuncId} {args : List AV} {r : Out × St} (h : inline E R f args st = some r) : ∃ fn c, bodyOf E f = some (fn, c) := by
  unfold inline at h
  split at h
  · rename_i fn c hb; exact ⟨fn, c, hb⟩
  · cases h

/-- Nothing that was there has changed. -/
structure Grew (w w' : World) : Prop where
  size : w.heap.size ≤ w'.heap.size
  keep : ∀ (cb : Nat), cb < w.heap.size → w'.heap[cb]? = w.heap[cb]?
  aux : w'.tape = w.tape ∧ w'.os = w.os ∧ w'.output = w.output ∧ ∀ a, w'.frozen? a = w.frozen? a

theorem Grew.shape {w' : World} (h : Grew w w') (cb : Nat) (cells : Array Value) (t : TypeId) (fz : Nat × Nat) (hc : w.heap[cb]? = some (.cells cells t fz)) : ∃ cells' : Array Value, w'.heap[cb]? = some (.cells cells' t fz) ∧ cells'.size = cells.size :=
  ⟨cells, by rw [h.keep cb (heap_lt hc)]; exact hc, rfl⟩

theorem Sess.grew {w' : World} (h : Sess E F φ st w) (hg : Grew w w') : Sess E F φ st w' ∧ Ext φ st w φ st w' := by
  have hext : Ext φ st w φ st w' := ⟨⟨fun _ _ h => h, hg.size, fun cb hlt _ => hg.keep cb hlt, fun _ _ o => o, hg.shape, Nat.le_refl _, hg.aux⟩, fun _ _ => rfl⟩
  have g := hext.goes (F := F)
  exact ⟨⟨fun b ab cb co h1 h2 => (h.blk b ab cb co h1 h2).other g (fun _ _ h => h) (hg.keep cb (h.lt b cb co h2).1) (fun _ => (h.lt b cb co h2).1), h.inj,
    fun b cb co hb => ⟨Nat.lt_of_lt_of_le (h.lt b cb co hb).1 hg.size, (h.lt b cb co hb).2⟩, fun gl cs hgl => (h.glob gl cs hgl).mono g (fun _ _ h => h), fun cb hf => ⟨Nat.lt_of_lt_of_le (h.fout cb hf).1 hg.size, (h.fout cb hf).2⟩⟩, hext⟩

theorem own_nil (φ : Phi) (cb : Nat) : ¬Own φ [] cb := by
  rintro ⟨b, ab, co, h, _⟩; simp at h

theorem Sess.inner (h : Sess E F φ st w) : Sess E (Bd F φ st) phi0 [] w where
  blk := fun b ab cb co hb => by simp at hb
  inj := fun b b' ab ab' cb co co' hb => by simp at hb
  lt := fun b cb co hb => by simp [phi0] at hb
  glob := fun g cs hg => (h.glob g cs hg).mono ⟨fun cb _ hb => ⟨fun hb' => hb'.elim hb (own_nil _ _), rfl⟩, Nat.le_refl _, fun cb cells t fz hc => ⟨cells, hc, rfl⟩⟩ (fun _ _ h => h)
  fout := fun cb hf => ⟨hf.elim (fun hf => (h.fout cb hf).1) (fun ⟨b, ab, co, h1, _, h3⟩ => (h.lt b cb co h3).1), own_nil _ _⟩

theorem goes_in : Goes (Bd F φ st) w (Bd (Bd F φ st) phi0 []) w :=
  ⟨fun cb _ hb => ⟨fun hb' => hb'.elim hb (own_nil _ _), rfl⟩, Nat.le_refl _, fun cb cells t fz hc => ⟨cells, hc, rfl⟩⟩

/-- What a sealed call comes to. -/
def SealOk (E : Env) (f : FuncId) (args : List AV) (out : Out) : Prop :=
  (∃ fn c, bodyOf E f = some (fn, c)) ∧ ∀ (F : Nat → Prop) (w : World) (us : Array Value) (cs : List Frame), Sess E F phi0 [] w → LRel (Bd F phi0 []) w phi0 args us.toList →
    ∃ w', Grew w w' ∧ LeavOk E.P (lone (Frame.enter E.P f us .normal) cs w) cs F w' phi0 f out

theorem goes_out {φ' : Phi} {st' : St} : Goes (Bd F φ' st') w F w :=
  ⟨fun cb _ hb => ⟨fun hf => hb (.inl hf), rfl⟩, Nat.le_refl _, fun cb cells t fz hc => ⟨cells, hc, rfl⟩⟩

theorem sealed_sound {R : Rn} (hR : RunOk E R) (hN : NoNum E.P) {f : FuncId} {args : List AV} {out : Out} (h : sealed E R f args = some out) : SealOk E f args out := by
  unfold sealed at h
  split at h
  · rename_i o st1 hin
    refine ⟨inline_body hin, fun F w us cs hS hA => ?_⟩
    obtain ⟨φ1, w1, s1, s2, s3⟩ := inline_sound hR hN hin hS hA cs
    refine ⟨w1, ⟨s2.size, fun cb hlt => s2.keep cb hlt (own_nil _ _), s2.aux⟩, ?_⟩
    unfold frzOut at h
    split at h
    · rename_i v
      simp only [Option.map_eq_some_iff] at h
      obtain ⟨⟨v', st2⟩, hf, rfl⟩ := h
      obtain ⟨u, fr, t1, t2, t3, t4⟩ := s3
      obtain ⟨_, _, q⟩ := frzV_sound frzDepth _ _ _ _ _ hf s1 t1
      exact ⟨u, fr, q.mono goes_out (fun _ _ h => h), t2, t3, t4⟩
    · split at h
      · rename_i v
        simp only [Option.map_eq_some_iff] at h
        obtain ⟨⟨v', st2⟩, hf, rfl⟩ := h
        obtain ⟨chain, fr, t1, t2, t3, t4⟩ := s3
        cases t1 with
        | cons ha hb =>
          cases hb
          obtain ⟨_, _, q⟩ := frzV_sound frzDepth _ _ _ _ _ hf s1 ha.1
          exact ⟨_, fr, .cons ⟨q.mono goes_out (fun _ _ h => h), ha.2⟩ .nil, t2, t3, t4⟩
      · cases h
  · cases h

/-- What the evaluator is told of sealed calls is true. -/
def MemoOk (E : Env) : Prop := ∀ (f : FuncId) (args : List AV) (out : Out), E.memo f args = some out → SealOk E f args out

theorem SealOk.call {f : FuncId} {args : List AV} {out : Out} (h : SealOk E f args out) (hS : Sess E F φ st w) {us : Array Value} (hA : LRel (Bd F φ st) w phi0 args us.toList) (cs : List Frame) :
    ∃ w', Sess E F φ st w' ∧ Ext φ st w φ st w' ∧ LeavOk E.P (lone (Frame.enter E.P f us .normal) cs w) cs (Bd F φ st) w' φ f out := by
  obtain ⟨w', hg, hl⟩ := h.2 (Bd F φ st) w us cs hS.inner (hA.mono goes_in (fun _ _ h => h))
  obtain ⟨s1, s2⟩ := hS.grew hg
  refine ⟨w', s1, s2, ?_⟩
  have hφ : ∀ b x, phi0 b = some x → φ b = some x := fun b x h => by simp [phi0] at h
  have g : Goes (Bd F φ st) w' (Bd F φ st) w' := ⟨fun cb _ hb => ⟨hb, rfl⟩, Nat.le_refl _, fun cb cells t fz hc => ⟨cells, hc, rfl⟩⟩
  cases out with
  | ret v => obtain ⟨u, fr, t1, t2, t3, t4⟩ := hl; exact ⟨u, fr, t1.mono g hφ, t2, t3, t4⟩
  | pan ch => obtain ⟨chain, fr, t1, t2, t3, t4⟩ := hl; exact ⟨chain, fr, t1.mono fun _ _ h => h.mono g hφ, t2, t3, t4⟩

theorem callF_sound {R : Rn} (hR : RunOk E R) (hN : NoNum E.P) (hM : MemoOk E) {f : FuncId} {args : List AV} {out : Out} {st' : St} (h : callF E R f args st = some (out, st')) (hS : Sess E F φ st w) {us : Array Value}
    (hA : LRel (Bd F φ st) w φ args us.toList) : (∃ fn c, bodyOf E f = some (fn, c)) ∧ ∀ cs : List Frame,
    ∃ φ' w', Sess E F φ' st' w' ∧ Ext φ st w φ' st' w' ∧ LeavOk E.P (lone (Frame.enter E.P f us .normal) cs w) cs (Bd F φ' st') w' φ' f out := by
  unfold callF at h
  split at h
  · split at h
    · rename_i args' st1 hfr
      obtain ⟨s1, s2, s3⟩ := frzL_sound (frzV_sound frzDepth) hfr hS hA
      have fin : SealOk E f args' out → st1 = st' → (∃ fn c, bodyOf E f = some (fn, c)) ∧ ∀ cs : List Frame,
          ∃ φ' w', Sess E F φ' st' w' ∧ Ext φ st w φ' st' w' ∧ LeavOk E.P (lone (Frame.enter E.P f us .normal) cs w) cs (Bd F φ' st') w' φ' f out := by
        rintro hs rfl
        refine ⟨hs.1, fun cs => ?_⟩
        obtain ⟨w', t1, t2, t3⟩ := hs.call s1 s3 cs
        exact ⟨φ, w', t1, s2.trans t2, t3⟩
      split at h
      · rename_i o hm
        simp at h; obtain ⟨rfl, rfl⟩ := h
        exact fin (hM _ _ _ hm) rfl
      · split at h
        · rename_i o hs
          simp at h; obtain ⟨rfl, rfl⟩ := h
          exact fin (sealed_sound hR hN hs) rfl
        · cases h
    · exact ⟨inline_body h, fun cs => inline_sound hR hN h hS hA cs⟩
  · exact ⟨inline_body h, fun cs => inline_sound hR hN h hS hA cs⟩

end
end Go.Proofs.YtbjhjladdkbnmaaGreatDoor.Gx
