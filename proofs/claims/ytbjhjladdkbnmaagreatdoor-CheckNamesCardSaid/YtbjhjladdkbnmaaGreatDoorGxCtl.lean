/-
  The machine's moves for a frame of any kind; frames beside abstract frames.
-/
import Derived.Test.YtbjhjladdkbnmaaGreatDoorGxFrz
namespace Go.Proofs.YtbjhjladdkbnmaaGreatDoor.Gx
open Go

def mkF (fn : FuncId) (kd : CallKind) (ro : Option Nat) (tmps : Array Value) (df : List Deferred) (todo : List Item) : Frame :=
  { fn, tmps, todo, defers := df, mode := .run, kind := kd, roundOf := ro }

def putT (tmps : Array Value) (dst : Option Tmp) (v : Value) : Array Value :=
  match dst with
  | some d => tmps.setIfInBounds d v
  | none => tmps

section
variable {P : Program} {fn : FuncId} {kd : CallKind} {ro : Option Nat} {tmps : Array Value} {df : List Deferred} {k : List Item} {cs : List Frame} {w : World}

theorem eval_mkF (todo : List Item) : (mkF fn kd ro tmps df todo).eval = evalT tmps := by funext x; cases x <;> rfl

theorem st_skip : step P (lone (mkF fn kd ro tmps df (.code .skip :: k)) cs w) = .next (lone (mkF fn kd ro tmps df k) cs w) := step_lone_go (by simp [stepG, stepG.exec, mkF])
theorem st_inBlock {id : Nat} : step P (lone (mkF fn kd ro tmps df (.inBlock id :: k)) cs w) = .next (lone (mkF fn kd ro tmps df k) cs w) := step_lone_go (by simp [stepG, stepG.exec, mkF])
theorem st_seq {x y : Code} : step P (lone (mkF fn kd ro tmps df (.code (.seq x y) :: k)) cs w) = .next (lone (mkF fn kd ro tmps df (.code x :: .code y :: k)) cs w) := step_lone_go (by simp [stepG, stepG.exec, mkF])
theorem st_block {id : Nat} {c : Code} : step P (lone (mkF fn kd ro tmps df (.code (.block id c) :: k)) cs w) = .next (lone (mkF fn kd ro tmps df (.code c :: .inBlock id :: k)) cs w) := step_lone_go (by simp [stepG, stepG.exec, mkF])
theorem st_loop {c : Code} : step P (lone (mkF fn kd ro tmps df (.code (.loop c) :: k)) cs w) = .next (lone (mkF fn kd ro tmps df (.code c :: .inLoop c :: k)) cs w) := step_lone_go (by simp [stepG, stepG.exec, mkF])
theorem st_inLoop {c : Code} : step P (lone (mkF fn kd ro tmps df (.inLoop c :: k)) cs w) = .next (lone (mkF fn kd ro tmps df (.code c :: .inLoop c :: k)) cs w) := step_lone_go (by simp [stepG, stepG.exec, mkF])
theorem st_cond {c : Operand} {x y : Code} {t : Bool} (h : evalT tmps c = .bool t) :
    step P (lone (mkF fn kd ro tmps df (.code (.cond c x y) :: k)) cs w) = .next (lone (mkF fn kd ro tmps df (.code (if t then x else y) :: k)) cs w) :=
  step_lone_go (by
    have := congrFun (eval_mkF (fn := fn) (kd := kd) (ro := ro) (tmps := tmps) (df := df) (.code (.cond c x y) :: k)) c
    simp only [mkF] at this
    simp [stepG, stepG.exec, mkF, this, h])
theorem st_exit {id : Nat} {k' : List Item} (h : exitTo id k = some k') : step P (lone (mkF fn kd ro tmps df (.code (.exit id) :: k)) cs w) = .next (lone (mkF fn kd ro tmps df k') cs w) :=
  step_lone_go (by simp [stepG, stepG.exec, mkF, h])
theorem st_region {id : Nat} {ops : Array Oper} : step P (lone (mkF fn kd ro tmps df (.code (.region id ops false) :: k)) cs w) = .next (lone (mkF fn kd ro tmps df (.inRegion ops (List.range ops.size) :: k)) cs w) :=
  step_lone_go (by simp [stepG, stepG.exec, mkF])
theorem st_region_draw {id : Nat} {ops : Array Oper} : step P (lone (mkF fn kd ro tmps df (.code (.region id ops true) :: k)) cs w) =
    .next (lone (mkF fn kd ro tmps df (.inRegion ops (Region.schedule (P.follows .mixedOrders) ops (w.tape w.drawn (.order fn id))) :: k)) cs { w with drawn := w.drawn + 1 }) :=
  step_lone_go (by simp [stepG, stepG.exec, mkF, choose, Sem.run, Question.forced, Question.cut])
theorem st_region_end {ops : Array Oper} : step P (lone (mkF fn kd ro tmps df (.inRegion ops [] :: k)) cs w) = .next (lone (mkF fn kd ro tmps df k) cs w) := step_lone_go (by simp [stepG, stepG.exec, mkF])

theorem finish_mkF {ops : Array Oper} {i : Nat} {rest : List Nat} {o : Oper} (ho : ops[i]? = some o) (v : Value) :
    (mkF fn kd ro tmps df (.inRegion ops (i :: rest) :: k)).finish v = mkF fn kd ro (putT tmps o.dst v) df (.inRegion ops rest :: k) := by
  simp only [Frame.finish, mkF, ho, Option.bind_some, putT]
  cases o.dst <;> rfl

theorem st_op_skip {ops : Array Oper} {i : Nat} {rest : List Nat} {o : Oper} (ho : ops[i]? = some o) (hw : Region.wanted o (yielded ops tmps) = false) :
    step P (lone (mkF fn kd ro tmps df (.inRegion ops (i :: rest) :: k)) cs w) = .next (lone (mkF fn kd ro (putT tmps o.dst undef) df (.inRegion ops rest :: k)) cs w) := by
  rw [← finish_mkF ho]
  exact step_lone_go (by simp [stepG, stepG.exec, mkF, ho, hw])

theorem stepG_oper {ops : Array Oper} {i : Nat} {rest : List Nat} {o : Oper} (ho : ops[i]? = some o) (hw : Region.wanted o (yielded ops tmps) = true) (hd : ro = none ∨ ∀ c, o.op ≠ .defer c) :
    stepG P true { frame := mkF fn kd ro tmps df (.inRegion ops (i :: rest) :: k), callers := cs, status := .running, dying := none } w =
      stepG.apply P true (mkF fn kd ro tmps df (.inRegion ops (i :: rest) :: k)) cs none (execOp (evalT tmps) o) w := by
  have he := eval_mkF (fn := fn) (kd := kd) (ro := ro) (tmps := tmps) (df := df) (.inRegion ops (i :: rest) :: k)
  simp only [mkF] at he
  cases ro with
  | none => simp [stepG, stepG.exec, stepG.oper, Frame.oper?, mkF, ho, hw, he]
  | some l =>
    have hd := hd.resolve_left (by simp)
    simp only [stepG, stepG.exec, stepG.oper, Frame.oper?, mkF, ho, hw, Option.map_some, Option.getD_some, if_true]
    cases hop : o.op <;> first | exact absurd hop (hd _) | simp [he]

theorem st_op_value {ops : Array Oper} {i : Nat} {rest : List Nat} {o : Oper} {v : Value} {w' : World} (ho : ops[i]? = some o) (hw : Region.wanted o (yielded ops tmps) = true) (hd : ro = none ∨ ∀ c, o.op ≠ .defer c)
    (hr : (execOp (evalT tmps) o).run P w = .ok (.value v) w') :
    step P (lone (mkF fn kd ro tmps df (.inRegion ops (i :: rest) :: k)) cs w) = .next (lone (mkF fn kd ro (putT tmps o.dst v) df (.inRegion ops rest :: k)) cs w') := by
  rw [← finish_mkF ho]
  exact step_lone_go (by rw [stepG_oper ho hw hd]; simp [stepG.apply, hr])

theorem st_op_unit {ops : Array Oper} {i : Nat} {rest : List Nat} {o : Oper} {w' : World} (ho : ops[i]? = some o) (hw : Region.wanted o (yielded ops tmps) = true) (hd : ro = none ∨ ∀ c, o.op ≠ .defer c)
    (hr : (execOp (evalT tmps) o).run P w = .ok .skip w') :
    step P (lone (mkF fn kd ro tmps df (.inRegion ops (i :: rest) :: k)) cs w) = .next (lone (mkF fn kd ro (putT tmps o.dst undef) df (.inRegion ops rest :: k)) cs w') := by
  rw [← finish_mkF ho]
  exact step_lone_go (by rw [stepG_oper ho hw hd]; simp [stepG.apply, hr])

theorem st_op_defer {ops : Array Oper} {i : Nat} {rest : List Nat} {o : Oper} {d : Deferred} {w' : World} (ho : ops[i]? = some o) (hw : Region.wanted o (yielded ops tmps) = true)
    (hr : (execOp (evalT tmps) o).run P w = .ok (.defer d) w') :
    step P (lone (mkF fn kd none tmps df (.inRegion ops (i :: rest) :: k)) cs w) = .next (lone (mkF fn kd none (putT tmps o.dst undef) (d :: df) (.inRegion ops rest :: k)) cs w') := by
  have := finish_mkF (fn := fn) (kd := kd) (ro := none) (tmps := tmps) (df := d :: df) (k := k) (rest := rest) ho undef
  rw [← this]
  exact step_lone_go (by rw [stepG_oper ho hw (.inl rfl)]; simp [stepG.apply, hr, mkF])

theorem st_op_panic {ops : Array Oper} {i : Nat} {rest : List Nat} {o : Oper} {v : Value} {w' : World} (ho : ops[i]? = some o) (hw : Region.wanted o (yielded ops tmps) = true) (hd : ro = none ∨ ∀ c, o.op ≠ .defer c)
    (hr : (execOp (evalT tmps) o).run P w = .halt (.panic v) w') :
    step P (lone (mkF fn kd ro tmps df (.inRegion ops (i :: rest) :: k)) cs w) =
      .next (lone { mkF fn kd ro tmps df (.inRegion ops (i :: rest) :: k) with mode := .panicking [{ v, recovered := false }] } cs w') :=
  step_lone_go (by rw [stepG_oper ho hw hd]; simp [stepG.apply, hr, Frame.raise, mkF])

/-- The frame that a call enters. -/
def nextFrame (P : Program) : Next → Option Frame
  | .enter f args => some (Frame.enter P f args .normal)
  | .round l f tmps assign body => some (Frame.round l f tmps assign body .normal)
  | _ => none

theorem st_op_call {ops : Array Oper} {i : Nat} {rest : List Nat} {o : Oper} {nx : Next} {fr : Frame} {w' : World} (ho : ops[i]? = some o) (hw : Region.wanted o (yielded ops tmps) = true) (hd : ro = none ∨ ∀ c, o.op ≠ .defer c)
    (hr : (execOp (evalT tmps) o).run P w = .ok nx w') (hn : nextFrame P nx = some fr) :
    step P (lone (mkF fn kd ro tmps df (.inRegion ops (i :: rest) :: k)) cs w) = .next (lone fr (mkF fn kd ro tmps df (.inRegion ops (i :: rest) :: k) :: cs) w') := by
  refine step_lone_go ?_
  rw [stepG_oper ho hw hd]
  cases nx <;> simp [nextFrame] at hn <;> subst hn <;> simp [stepG.apply, hr, mkF]

end

/-! ### Lists, one beside the other -/
inductive All2 {α β : Type} (R : α → β → Prop) : List α → List β → Prop
  | nil : All2 R [] []
  | cons {a : α} {b : β} {l : List α} {m : List β} : R a b → All2 R l m → All2 R (a :: l) (b :: m)

theorem All2.mono {α β : Type} {R S : α → β → Prop} (h : ∀ a b, R a b → S a b) {l : List α} {m : List β} (hl : All2 R l m) : All2 S l m := by
  induction hl with
  | nil => exact .nil
  | cons hab _ ih => exact .cons (h _ _ hab) ih

theorem All2.append {α β : Type} {R : α → β → Prop} {l l' : List α} {m m' : List β} (h : All2 R l m) (h' : All2 R l' m') : All2 R (l ++ l') (m ++ m') := by
  induction h with
  | nil => exact h'
  | cons hab _ ih => exact .cons hab ih

/-! ### Frames -/
/-- An entry of a chain of panics. -/
def PRelC (B : Nat → Prop) (w : World) (φ : Phi) (a : APan) (e : PanicEntry) : Prop := VRel B w φ a.v e.v ∧ e.recovered = a.recovered ∧ e.goexit = false

def MRel (B : Nat → Prop) (w : World) (φ : Phi) : AMode → FrameMode → Prop
  | .returning, m => m = .returning
  | .panicking ch, m => ∃ ch', m = .panicking ch' ∧ All2 (PRelC B w φ) ch ch'

def DRel (B : Nat → Prop) (w : World) (φ : Phi) : ADef → Deferred → Prop
  | .call fv args, d => ∃ g a c, fv = .func g a c ∧ ∃ (c' ar : Array Value), d = { target := .fn (.func g) c', args := ar } ∧ LRel B w φ c c'.toList ∧ LRel B w φ (a ++ args) ar.toList
  | .coll b, d => ∃ cb y, d = { target := .collected cb, args := #[] } ∧ φ b = some (cb, y)

structure FRel (B : Nat → Prop) (w : World) (φ : Phi) (fr : Fr) (kd : CallKind) (ro : Option Nat) (tmps : Array Value) (df : List Deferred) (cs : List Frame) : Prop where
  tm : LRel B w φ fr.tm tmps.toList
  df : All2 (DRel B w φ) fr.df df
  rc : match fr.rc with
    | none => kd = .normal
    | some m => kd = .deferred ∧ ∃ c rest, cs = c :: rest ∧ MRel B w φ m c.mode
  ro : match fr.ro with
    | none => ro = none
    | some l => ∃ cl y, ro = some cl ∧ φ l = some (cl, y)

section
variable {B B' : Nat → Prop} {w w' : World} {φ φ' : Phi}

theorem PRelC.mono (g : Goes B w B' w') (hp : ∀ b x, φ b = some x → φ' b = some x) {a : APan} {e : PanicEntry} (h : PRelC B w φ a e) : PRelC B' w' φ' a e := ⟨h.1.mono g hp, h.2⟩
theorem MRel.mono (g : Goes B w B' w') (hp : ∀ b x, φ b = some x → φ' b = some x) {m : AMode} {u : FrameMode} (h : MRel B w φ m u) : MRel B' w' φ' m u := by
  cases m with
  | returning => exact h
  | panicking ch => obtain ⟨ch', h1, h2⟩ := h; exact ⟨ch', h1, h2.mono fun _ _ => PRelC.mono g hp⟩
theorem DRel.mono (g : Goes B w B' w') (hp : ∀ b x, φ b = some x → φ' b = some x) {a : ADef} {d : Deferred} (h : DRel B w φ a d) : DRel B' w' φ' a d := by
  cases a with
  | call fv args => obtain ⟨f, a, c, h1, c', ar, h2, h3, h4⟩ := h; exact ⟨f, a, c, h1, c', ar, h2, h3.mono g hp, h4.mono g hp⟩
  | coll b => obtain ⟨cb, y, h1, h2⟩ := h; exact ⟨cb, y, h1, hp _ _ h2⟩
theorem FRel.mono (g : Goes B w B' w') (hp : ∀ b x, φ b = some x → φ' b = some x) {fr : Fr} {kd : CallKind} {ro : Option Nat} {tmps : Array Value} {df : List Deferred} {cs : List Frame}
    (h : FRel B w φ fr kd ro tmps df cs) : FRel B' w' φ' fr kd ro tmps df cs where
  tm := h.tm.mono g hp
  df := h.df.mono fun _ _ => DRel.mono g hp
  rc := by
    have := h.rc
    cases hr : fr.rc with
    | none => rw [hr] at this; exact this
    | some m => rw [hr] at this; obtain ⟨h1, c, rest, h2, h3⟩ := this; exact ⟨h1, c, rest, h2, h3.mono g hp⟩
  ro := by
    have := h.ro
    cases hr : fr.ro with
    | none => rw [hr] at this; exact this
    | some l => rw [hr] at this; obtain ⟨cl, y, h1, h2⟩ := this; exact ⟨cl, y, h1, hp _ _ h2⟩

theorem putT_list (tmps : Array Value) (dst : Option Tmp) (v : Value) : (putT tmps dst v).toList = (match dst with | some d => tmps.toList.set d v | none => tmps.toList) := by
  cases dst <;> simp [putT]

theorem FRel.put {fr : Fr} {kd : CallKind} {ro : Option Nat} {tmps : Array Value} {df : List Deferred} {cs : List Frame} (h : FRel B w φ fr kd ro tmps df cs) (dst : Option Tmp) {v : AV} {u : Value} (hv : VRel B w φ v u) :
    FRel B w φ (put fr dst v) kd ro (putT tmps dst u) df cs := by
  obtain ⟨tm, dfa, rc, roa⟩ := fr
  cases dst with
  | none => exact h
  | some d =>
    refine ⟨?_, h.df, h.rc, h.ro⟩
    rw [putT_list]
    simp only [Gx.put, upd_eq]
    exact h.tm.set d hv

theorem put_rest (fr : Fr) (dst : Option Tmp) (v : AV) : (put fr dst v).df = fr.df ∧ (put fr dst v).rc = fr.rc ∧ (put fr dst v).ro = fr.ro := by
  obtain ⟨tm, df, rc, ro⟩ := fr
  cases dst <;> exact ⟨rfl, rfl, rfl⟩

end

/-- The callers: as they were, or, for a deferred call, the first one in another mode. -/
def CsLike (kd : CallKind) (cs cs' : List Frame) : Prop := cs' = cs ∨ (kd = .deferred ∧ ∃ c rest u, cs = c :: rest ∧ cs' = { c with mode := u } :: rest)

theorem CsLike.refl (kd : CallKind) (cs : List Frame) : CsLike kd cs cs := .inl rfl
theorem CsLike.trans {kd : CallKind} {a b c : List Frame} (h : CsLike kd a b) (h' : CsLike kd b c) : CsLike kd a c := by
  rcases h with rfl | ⟨hk, x, rest, u, rfl, rfl⟩
  · exact h'
  · rcases h' with rfl | ⟨_, y, rest', u', h1, rfl⟩
    · exact .inr ⟨hk, x, rest, u, rfl, rfl⟩
    · simp at h1
      obtain ⟨rfl, rfl⟩ := h1
      exact .inr ⟨hk, x, rest, u', rfl, rfl⟩

end Go.Proofs.YtbjhjladdkbnmaaGreatDoor.Gx
