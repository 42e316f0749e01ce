/-
  Sessions: an abstract memory beside a world; how both go on.
-/
import Derived.Test.YtbjhjladdkbnmaaGreatDoorGxRel
namespace Go.Proofs.YtbjhjladdkbnmaaGreatDoor.Gx
open Go

def live : AB → Bool
  | .frz _ | .dead => false
  | _ => true

/-- The blocks of the world that the session may write. -/
def Own (φ : Phi) (st : St) (cb : Nat) : Prop := ∃ b ab co, st[b]? = some ab ∧ live ab = true ∧ φ b = some (cb, co)

/-- The blocks that may yet be written: by the sessions around ('F'), or by this one. -/
def Bd (F : Nat → Prop) (φ : Phi) (st : St) (cb : Nat) : Prop := F cb ∨ Own φ st cb

def EntRel (B : Nat → Prop) (w : World) (φ : Phi) (es : List AEnt) (ces : Array MapEntry) : Prop :=
  es.length = ces.size ∧ ∀ (j : Nat) e c, es[j]? = some e → ces[j]? = some c → VRel B w φ e.key c.key ∧ VRel B w φ e.val c.val ∧ e.born = c.born

/-- One block. -/
def ORel (P : Program) (B : Nat → Prop) (w : World) (φ : Phi) (cb co : Nat) : AB → Prop
  | .own cs => ∃ cells t, w.heap[cb]? = some (.cells cells t (0, 0)) ∧ ∀ (j : Nat) c, cs[j]? = some c → ∃ v, cells[co + j]? = some v ∧ VRel B w φ c v
  | .frz cs => ¬B cb ∧ ∃ cells t fz, w.heap[cb]? = some (.cells cells t fz) ∧ ∀ (j : Nat) c, cs[j]? = some c → ∃ v, cells[co + j]? = some v ∧ VRel B w phi0 c v
  | .dead => True
  | .map es clock => ∃ ces, w.heap[cb]? = some (.map ces clock) ∧ EntRel B w φ es ces
  | .iter m since seen stepped => co = 0 ∧ ∃ cm, w.heap[cb]? = some (.mapIter cm since seen.toArray stepped) ∧ (m = none → cm = none) ∧ (∀ b, m = some b → ∃ x y, cm = some x ∧ φ b = some (x, y))
  | .siter s pos => co = 0 ∧ w.heap[cb]? = some (.stringIter ⟨s.toArray⟩ pos)
  | .loop L => ∃ CL, w.heap[cb]? = some (.loop CL) ∧ CL.state = L.state ∧ CL.pending = L.pending ∧ CL.params.toList = L.params ∧ CL.assign = L.assign ∧ CL.body = L.body ∧
      LRel B w φ L.tmps CL.tmps.toList ∧ (∃ y, φ L.defers = some (CL.defers, y)) ∧ (P.funcs[CL.fn]?).isSome = true
  | .defd taken => w.heap[cb]? = some (.deferred (if taken then none else some []))

structure Sess (E : Env) (F : Nat → Prop) (φ : Phi) (st : St) (w : World) : Prop where
  blk : ∀ b ab cb co, st[b]? = some ab → φ b = some (cb, co) → ORel E.P (Bd F φ st) w φ cb co ab
  inj : ∀ b b' ab ab' cb co co', st[b]? = some ab → live ab = true → st[b']? = some ab' → live ab' = true → φ b = some (cb, co) → φ b' = some (cb, co') → b = b'
  lt : ∀ b cb co, φ b = some (cb, co) → cb < w.heap.size ∧ b < st.length
  glob : ∀ g cs, E.G g = some cs → VRel (Bd F φ st) w phi0 (.iptr cs) (.pointer (some ⟨g, 0, none⟩))
  fout : ∀ cb, F cb → cb < w.heap.size ∧ ¬Own φ st cb

/-- How things go on, but for the places of blocks that had none. -/
structure Ext0 (φ : Phi) (st : St) (w : World) (φ' : Phi) (st' : St) (w' : World) : Prop where
  phi : ∀ b x, φ b = some x → φ' b = some x
  size : w.heap.size ≤ w'.heap.size
  keep : ∀ (cb : Nat), cb < w.heap.size → ¬Own φ st cb → w'.heap[cb]? = w.heap[cb]?
  ownd : ∀ cb, cb < w.heap.size → Own φ' st' cb → Own φ st cb
  shape : ∀ (cb : Nat) (cells : Array Value) (t : TypeId) (fz : Nat × Nat), w.heap[cb]? = some (.cells cells t fz) → ∃ cells' : Array Value, w'.heap[cb]? = some (.cells cells' t fz) ∧ cells'.size = cells.size
  len : st.length ≤ st'.length
  aux : w'.tape = w.tape ∧ w'.os = w.os ∧ w'.output = w.output ∧ ∀ a, w'.frozen? a = w.frozen? a

/-- How things go on: an old block's place stays, also if it has none. -/
structure Ext (φ : Phi) (st : St) (w : World) (φ' : Phi) (st' : St) (w' : World) : Prop extends Ext0 φ st w φ' st' w' where
  old : ∀ b, b < st.length → φ' b = φ b

theorem Ext0.refl (φ : Phi) (st : St) (w : World) : Ext0 φ st w φ st w :=
  ⟨fun _ _ h => h, Nat.le_refl _, fun _ _ _ => rfl, fun _ _ h => h, fun _ cells _ _ h => ⟨cells, h, rfl⟩, Nat.le_refl _, rfl, rfl, rfl, fun _ => rfl⟩

theorem Ext.refl (φ : Phi) (st : St) (w : World) : Ext φ st w φ st w := ⟨Ext0.refl φ st w, fun _ _ => rfl⟩

theorem Ext0.trans {φ φ' φ'' : Phi} {st st' st'' : St} {w w' w'' : World} (h : Ext0 φ st w φ' st' w') (h' : Ext0 φ' st' w' φ'' st'' w'') : Ext0 φ st w φ'' st'' w'' where
  phi b x hb := h'.phi b x (h.phi b x hb)
  size := Nat.le_trans h.size h'.size
  keep cb hlt ho := by rw [h'.keep cb (Nat.lt_of_lt_of_le hlt h.size) (fun o => ho (h.ownd cb hlt o)), h.keep cb hlt ho]
  ownd cb hlt o := h.ownd cb hlt (h'.ownd cb (Nat.lt_of_lt_of_le hlt h.size) o)
  shape cb cells t fz hc := by
    obtain ⟨c1, h1, e1⟩ := h.shape cb cells t fz hc
    obtain ⟨c2, h2, e2⟩ := h'.shape cb c1 t fz h1
    exact ⟨c2, h2, e2.trans e1⟩
  len := Nat.le_trans h.len h'.len
  aux := ⟨h'.aux.1.trans h.aux.1, h'.aux.2.1.trans h.aux.2.1, h'.aux.2.2.1.trans h.aux.2.2.1, fun a => (h'.aux.2.2.2 a).trans (h.aux.2.2.2 a)⟩

theorem Ext.trans {φ φ' φ'' : Phi} {st st' st'' : St} {w w' w'' : World} (h : Ext φ st w φ' st' w') (h' : Ext φ' st' w' φ'' st'' w'') : Ext φ st w φ'' st'' w'' :=
  ⟨h.toExt0.trans h'.toExt0, fun b hb => by rw [h'.old b (Nat.lt_of_lt_of_le hb h.len), h.old b hb]⟩

theorem cell?_of_heap {w w' : World} {cb : Nat} (h : w'.heap[cb]? = w.heap[cb]?) (o : Nat) : w'.cell? ⟨cb, o, none⟩ = w.cell? ⟨cb, o, none⟩ := by
  simp only [World.cell?, h]

theorem lt_of_cell? {w : World} {cb o : Nat} {v : Value} (h : w.cell? ⟨cb, o, none⟩ = some v) : cb < w.heap.size := by
  simp only [World.cell?] at h
  rcases Nat.lt_or_ge cb w.heap.size with hl | hl
  · exact hl
  · simp [Array.getElem?_eq_none hl] at h

/-- What the relation of values asks of a way on. -/
structure Goes (B : Nat → Prop) (w : World) (B' : Nat → Prop) (w' : World) : Prop where
  keep : ∀ (cb : Nat), cb < w.heap.size → ¬B cb → ¬B' cb ∧ w'.heap[cb]? = w.heap[cb]?
  size : w.heap.size ≤ w'.heap.size
  shape : ∀ (cb : Nat) (cells : Array Value) (t : TypeId) (fz : Nat × Nat), w.heap[cb]? = some (.cells cells t fz) → ∃ cells' : Array Value, w'.heap[cb]? = some (.cells cells' t fz) ∧ cells'.size = cells.size

theorem VRel.mono {B B' : Nat → Prop} {w w' : World} (g : Goes B w B' w') {φ : Phi} {v : AV} {u : Value} (h : VRel B w φ v u) :
    ∀ {φ' : Phi}, (∀ b x, φ b = some x → φ' b = some x) → VRel B' w' φ' v u := by
  induction h with
  | bool b => intro φ' _; exact .bool b
  | int k n => intro φ' _; exact .int k n
  | str l => intro φ' _; exact .str l
  | nilptr => intro φ' _; exact .nilptr
  | ptr h => intro φ' hp; exact .ptr (hp _ _ h)
  | iptr vs hb hl hc hv ih =>
    intro φ' _
    obtain ⟨h1, h2⟩ := g.keep _ hl hb
    exact .iptr vs h1 (Nat.lt_of_lt_of_le hl g.size) (fun j c hj => by rw [cell?_of_heap h2]; exact hc j c hj) (fun j c hj => ih j c hj (fun _ _ h => h))
  | nilsl => intro φ' _; exact .nilsl
  | sl h ho hl hx hg =>
    intro φ' hp
    refine .sl (hp _ _ h) ho hl hx (fun sz e => (hg sz e).imp id fun ⟨cells, t, fz, h1, h2⟩ => ?_)
    obtain ⟨c', h3, h4⟩ := g.shape _ _ _ _ h1
    exact ⟨c', t, fz, h3, by omega⟩
  | isl vs hx hl hb hc hv ih =>
    rename_i cs cap a ccap
    intro φ' _
    refine .isl vs hx hl (fun hne => ?_) (fun j c hj => ?_) (fun j c hj => ih j c hj (fun _ _ h => h))
    · cases cs with
      | nil => exact absurd rfl hne
      | cons c cs => exact ⟨(g.keep _ (lt_of_cell? (hc 0 c rfl)) (hb hne).1).1, (hb hne).2⟩
    · have hne : cs ≠ [] := fun e => by subst e; simp at hj
      rw [cell?_of_heap (g.keep _ (lt_of_cell? (hc j c hj)) (hb hne).1).2]
      exact hc j c hj
  | nilmap => intro φ' _; exact .nilmap
  | map h => intro φ' hp; exact .map (hp _ _ h)
  | func ha hc hav hcv iha ihc => intro φ' hp; exact .func ha hc (fun j x v hx hv => iha j x v hx hv hp) (fun j x v hx hv => ihc j x v hx hv hp)
  | yld h => intro φ' hp; exact .yld (hp _ _ h)
  | nilfn => intro φ' _; exact .nilfn
  | iface h ih => intro φ' hp; exact .iface (ih hp)
  | nilif => intro φ' _; exact .nilif
  | agg hl hv ih => intro φ' hp; exact .agg hl (fun j x v hx hv => ih j x v hx hv hp)
  | tup hl hv ih => intro φ' hp; exact .tup hl (fun j x v hx hv => ih j x v hx hv hp)
  | unk u => intro φ' _; exact .unk u
  | oint h1 h2 => intro φ' _; exact .oint h1 h2
  | ostr h => intro φ' _; exact .ostr h

theorem LRel.mono {B B' : Nat → Prop} {w w' : World} (g : Goes B w B' w') {φ φ' : Phi} (hp : ∀ b x, φ b = some x → φ' b = some x) {l : List AV} {vs : List Value}
    (h : LRel B w φ l vs) : LRel B' w' φ' l vs := ⟨h.1, fun j x v hx hv => (h.2 j x v hx hv).mono g hp⟩

theorem Ext0.goes {F : Nat → Prop} {φ φ' : Phi} {st st' : St} {w w' : World} (h : Ext0 φ st w φ' st' w') : Goes (Bd F φ st) w (Bd F φ' st') w' where
  keep cb hlt hb := ⟨fun hb' => hb'.elim (fun hf => hb (.inl hf)) (fun o => hb (.inr (h.ownd cb hlt o))), h.keep cb hlt (fun o => hb (.inr o))⟩
  size := h.size
  shape := h.shape

theorem Ext0.val {F : Nat → Prop} {φ φ' : Phi} {st st' : St} {w w' : World} (h : Ext0 φ st w φ' st' w') {v : AV} {u : Value} (hv : VRel (Bd F φ st) w φ v u) :
    VRel (Bd F φ' st') w' φ' v u := hv.mono h.goes h.phi

theorem Ext0.list {F : Nat → Prop} {φ φ' : Phi} {st st' : St} {w w' : World} (h : Ext0 φ st w φ' st' w') {l : List AV} {vs : List Value} (hv : LRel (Bd F φ st) w φ l vs) :
    LRel (Bd F φ' st') w' φ' l vs := hv.mono h.goes h.phi

/-- Another block than the one that changes. -/
theorem ORel.other {P : Program} {B B' : Nat → Prop} {w w' : World} (g : Goes B w B' w') {φ φ' : Phi} (hp : ∀ b x, φ b = some x → φ' b = some x) {cb co : Nat} {ab : AB}
    (hh : w'.heap[cb]? = w.heap[cb]?) (hB : live ab = false → cb < w.heap.size) (h : ORel P B w φ cb co ab) : ORel P B' w' φ' cb co ab := by
  cases ab with
  | own cs =>
    obtain ⟨cells, t, h1, h2⟩ := h
    exact ⟨cells, t, hh ▸ h1, fun j c hj => let ⟨v, e, r⟩ := h2 j c hj; ⟨v, e, r.mono g hp⟩⟩
  | frz cs =>
    obtain ⟨hb, cells, t, fz, h1, h2⟩ := h
    exact ⟨(g.keep cb (hB rfl) hb).1, cells, t, fz, hh ▸ h1, fun j c hj => let ⟨v, e, r⟩ := h2 j c hj; ⟨v, e, r.mono g (fun _ _ h => h)⟩⟩
  | dead => trivial
  | map es clock =>
    obtain ⟨ces, h1, h2, h3⟩ := h
    exact ⟨ces, hh ▸ h1, h2, fun j e c he hc => let ⟨a, b, d⟩ := h3 j e c he hc; ⟨a.mono g hp, b.mono g hp, d⟩⟩
  | iter m since seen stepped =>
    obtain ⟨h0, cm, h1, h2, h3⟩ := h
    exact ⟨h0, cm, hh ▸ h1, h2, fun b hb => let ⟨x, y, e, r⟩ := h3 b hb; ⟨x, y, e, hp _ _ r⟩⟩
  | siter s pos => exact ⟨h.1, hh ▸ h.2⟩
  | loop L =>
    obtain ⟨CL, h1, h2, h3, h4, h5, h6, h7, ⟨y, h8⟩, h9⟩ := h
    exact ⟨CL, hh ▸ h1, h2, h3, h4, h5, h6, h7.mono g hp, ⟨y, hp _ _ h8⟩, h9⟩
  | defd taken => exact hh.trans h

/-- The world behind a new block. -/
def pushed (w : World) (o : Obj) : World := { w with heap := w.heap.push o }

theorem pushed_old (w : World) (o : Obj) {cb : Nat} (h : cb < w.heap.size) : (pushed w o).heap[cb]? = w.heap[cb]? := by
  simp [pushed, Array.getElem?_push, Nat.ne_of_lt h]

theorem pushed_new (w : World) (o : Obj) : (pushed w o).heap[w.heap.size]? = some o := by simp [pushed]

theorem heap_lt {w : World} {cb : Nat} {o : Obj} (h : w.heap[cb]? = some o) : cb < w.heap.size := by
  rcases Nat.lt_or_ge cb w.heap.size with hl | hl
  · exact hl
  · simp [Array.getElem?_eq_none hl] at h

/-- The world with another object in a block. -/
def setAt (w : World) (cb : Nat) (o : Obj) : World := { w with heap := w.heap.setIfInBounds cb o }

theorem setAt_same {w : World} {cb : Nat} {o o' : Obj} (h : w.heap[cb]? = some o) : (setAt w cb o').heap[cb]? = some o' := by
  simp [setAt, Array.getElem?_setIfInBounds, heap_lt h]

theorem setAt_other (w : World) {cb x : Nat} (o : Obj) (h : cb ≠ x) : (setAt w cb o).heap[x]? = w.heap[x]? := by
  simp [setAt, Array.getElem?_setIfInBounds, h]

def phiSet (φ : Phi) (b cb co : Nat) : Phi := fun x => if x = b then some (cb, co) else φ x

theorem phiSet_le {φ : Phi} {b cb co : Nat} (h : φ b = none) : ∀ x y, φ x = some y → phiSet φ b cb co x = some y := by
  intro x y hx
  unfold phiSet
  split
  · rename_i e; subst e; rw [h] at hx; cases hx
  · exact hx

section
variable {E : Env} {F : Nat → Prop} {φ : Phi} {st : St} {w : World}

theorem Sess.fresh (h : Sess E F φ st w) {b : Nat} (hb : st.length ≤ b) : φ b = none := by
  cases e : φ b with
  | none => rfl
  | some x => have := (h.lt b x.1 x.2 e).2; omega

theorem get_append {st : St} {ab x : AB} {b : Nat} (h : (st ++ [ab])[b]? = some x) : (b < st.length ∧ st[b]? = some x) ∨ (b = st.length ∧ x = ab) := by
  rcases Nat.lt_trichotomy b st.length with hl | hl | hl
  · exact .inl ⟨hl, by rwa [List.getElem?_append_left hl] at h⟩
  · subst hl; simp at h; exact .inr ⟨rfl, h.symm⟩
  · rw [List.getElem?_eq_none (by simp; omega)] at h; cases h

theorem lt_of_get {α : Type} {l : List α} {i : Nat} {x : α} (h : l[i]? = some x) : i < l.length := by
  rcases Nat.lt_or_ge i l.length with hl | hl
  · exact hl
  · simp [List.getElem?_eq_none hl] at h

/-- A block of the abstract memory alone: the world's comes later. -/
theorem own_ghost (hf : φ st.length = none) (ab : AB) (cb : Nat) : Own φ (st ++ [ab]) cb ↔ Own φ st cb := by
  constructor
  · rintro ⟨b, x, co, h1, h2, h3⟩
    rcases get_append h1 with ⟨_, h⟩ | ⟨rfl, _⟩
    · exact ⟨b, x, co, h, h2, h3⟩
    · rw [hf] at h3; cases h3
  · rintro ⟨b, x, co, h1, h2, h3⟩
    exact ⟨b, x, co, by rw [List.getElem?_append_left (lt_of_get h1)]; exact h1, h2, h3⟩

theorem Sess.ghost (h : Sess E F φ st w) (ab : AB) : Sess E F φ (st ++ [ab]) w ∧ Ext φ st w φ (st ++ [ab]) w := by
  have hf := h.fresh (Nat.le_refl st.length)
  have ho := own_ghost hf ab
  have hB : Bd F φ (st ++ [ab]) = Bd F φ st := funext fun cb => by simp only [Bd, ho]
  refine ⟨⟨?_, ?_, ?_, ?_, ?_⟩, ⟨⟨fun _ _ h => h, Nat.le_refl _, fun _ _ _ => rfl, fun cb _ o => (ho cb).1 o, fun _ c _ _ h => ⟨c, h, rfl⟩, by simp, rfl, rfl, rfl, fun _ => rfl⟩, fun _ _ => rfl⟩⟩
  · intro b x cb co h1 h2
    rw [hB]
    rcases get_append h1 with ⟨_, h3⟩ | ⟨rfl, _⟩
    · exact h.blk b x cb co h3 h2
    · rw [hf] at h2; cases h2
  · intro b b' x x' cb co co' h1 h2 h3 h4 h5 h6
    rcases get_append h1 with ⟨_, h1⟩ | ⟨rfl, _⟩
    · rcases get_append h3 with ⟨_, h3⟩ | ⟨rfl, _⟩
      · exact h.inj b b' x x' cb co co' h1 h2 h3 h4 h5 h6
      · rw [hf] at h6; cases h6
    · rw [hf] at h5; cases h5
  · intro b cb co hb
    have := h.lt b cb co hb
    exact ⟨this.1, by simp; omega⟩
  · rw [hB]; exact h.glob
  · intro cb hf; exact ⟨(h.fout cb hf).1, fun o => (h.fout cb hf).2 ((ho cb).1 o)⟩

theorem frozen_same {w' : World} {a : Addr} (h : w'.heap[a.block]? = w.heap[a.block]?) : w'.frozen? a = w.frozen? a := by
  simp only [World.frozen?, h]

/-- Nothing of a live block is frozen. -/
theorem live_unfrozen {P : Program} {B : Nat → Prop} {cb co : Nat} {ab : AB} (hl : live ab = true) (h : ORel P B w φ cb co ab) (a : Addr) (ha : a.block = cb) : w.frozen? a = false := by
  subst ha
  cases ab with
  | own cs => obtain ⟨cells, t, h1, _⟩ := h; simp [World.frozen?, h1]
  | frz cs => cases hl
  | dead => cases hl
  | map es clock => obtain ⟨ces, h1, _⟩ := h; simp [World.frozen?, h1]
  | iter m since seen stepped => obtain ⟨_, cm, h1, _⟩ := h; simp [World.frozen?, h1]
  | siter s pos => simp [World.frozen?, h.2]
  | loop L => obtain ⟨CL, h1, _⟩ := h; simp [World.frozen?, h1]
  | defd taken => simp only [ORel] at h; simp [World.frozen?, h]

/-- The world's block comes to an abstract one. -/
theorem Sess.realize (h : Sess E F φ st w) {b : Nat} {ab : AB} (hb : st[b]? = some ab) (hl : live ab = true) (hf : φ b = none) (o : Obj)
    (hfor : ∀ B', Goes (Bd F φ st) w B' (pushed w o) → ORel E.P B' (pushed w o) (phiSet φ b w.heap.size 0) w.heap.size 0 ab) :
    Sess E F (phiSet φ b w.heap.size 0) st (pushed w o) ∧ Ext0 φ st w (phiSet φ b w.heap.size 0) st (pushed w o) := by
  have hle := phiSet_le (cb := w.heap.size) (co := 0) hf
  have hown : ∀ cb, Own (phiSet φ b w.heap.size 0) st cb → cb < w.heap.size → Own φ st cb := by
    rintro cb ⟨x, ax, co, h1, h2, h3⟩ hlt
    unfold phiSet at h3
    split at h3
    · simp at h3; omega
    · exact ⟨x, ax, co, h1, h2, h3⟩
  have hfrz : ∀ a, (pushed w o).frozen? a = w.frozen? a := by
    intro a
    rcases Nat.lt_trichotomy a.block w.heap.size with hlt | he | hgt
    · exact frozen_same (pushed_old w o hlt)
    · have := live_unfrozen hl (hfor (Bd F φ st) ⟨fun cb hlt hb => ⟨hb, pushed_old w o hlt⟩, by simp [pushed], fun cb c t fz hc => ⟨c, by rw [pushed_old w o (heap_lt hc)]; exact hc, rfl⟩⟩) a he
      rw [this]
      simp [World.frozen?, he]
    · have h1 : (pushed w o).heap[a.block]? = none := by simp [pushed]; omega
      have h2 : w.heap[a.block]? = none := by simp; omega
      simp [World.frozen?, h1, h2]
  have hext : Ext0 φ st w (phiSet φ b w.heap.size 0) st (pushed w o) :=
    ⟨hle, by simp [pushed], fun cb hlt _ => pushed_old w o hlt, fun cb hlt ho => hown cb ho hlt,
      fun cb c t fz hc => ⟨c, by rw [pushed_old w o (heap_lt hc)]; exact hc, rfl⟩, Nat.le_refl _, rfl, rfl, rfl, hfrz⟩
  have g := hext.goes (F := F)
  refine ⟨⟨?_, ?_, ?_, ?_, ?_⟩, hext⟩
  · intro x ax cb co h1 h2
    by_cases hx : x = b
    · subst hx
      rw [hb] at h1; cases h1
      have : cb = w.heap.size ∧ co = 0 := by simp [phiSet] at h2; omega
      obtain ⟨rfl, rfl⟩ := this
      exact hfor _ g
    · have h3 : φ x = some (cb, co) := by simpa [phiSet, hx] using h2
      have hlt := (h.lt x cb co h3).1
      exact (h.blk x ax cb co h1 h3).other g hle (pushed_old w o hlt) (fun _ => hlt)
  · intro x x' ax ax' cb co co' h1 h2 h3 h4 h5 h6
    by_cases hx : x = b
    · by_cases hx' : x' = b
      · rw [hx, hx']
      · subst hx
        have e1 : cb = w.heap.size := by simp [phiSet] at h5; omega
        have e2 : φ x' = some (cb, co') := by simpa [phiSet, hx'] using h6
        have := (h.lt x' cb co' e2).1
        omega
    · have e1 : φ x = some (cb, co) := by simpa [phiSet, hx] using h5
      by_cases hx' : x' = b
      · subst hx'
        have e2 : cb = w.heap.size := by simp [phiSet] at h6; omega
        have := (h.lt x cb co e1).1
        omega
      · exact h.inj x x' ax ax' cb co co' h1 h2 h3 h4 e1 (by simpa [phiSet, hx'] using h6)
  · intro x cb co hx
    by_cases e : x = b
    · subst e
      have e1 : cb = w.heap.size := by simp [phiSet] at hx; omega
      exact ⟨by simp [pushed, e1], lt_of_get hb⟩
    · have := h.lt x cb co (by simpa [phiSet, e] using hx)
      exact ⟨by simp [pushed]; omega, this.2⟩
  · intro gl cs hg; exact (h.glob gl cs hg).mono g (fun _ _ h => h)
  · intro cb hf; exact ⟨by have := (h.fout cb hf).1; simp [pushed]; omega, fun ho => (h.fout cb hf).2 (hown cb ho (h.fout cb hf).1)⟩

/-- A new block on both sides. -/
theorem ghost_real {φ' : Phi} {ab : AB} {w' : World} {cb co : Nat} (h1 : Ext φ st w φ (st ++ [ab]) w) (h2 : Ext0 φ (st ++ [ab]) w (phiSet φ st.length cb co) (st ++ [ab]) w') (hφ : φ' = phiSet φ st.length cb co) :
    Ext φ st w φ' (st ++ [ab]) w' := by
  subst hφ
  exact ⟨h1.toExt0.trans h2, fun b hb => by simp [phiSet, Nat.ne_of_lt hb]⟩

/-- A live block changes on both sides. -/
theorem Sess.change (h : Sess E F φ st w) {b : Nat} {ab ab' : AB} (hb : st[b]? = some ab) (hl : live ab = true) (hl' : live ab' = true) {cb co : Nat} (hp : φ b = some (cb, co))
    {o' : Obj} (hsh : ∀ (cells : Array Value) (t : TypeId) (fz : Nat × Nat), w.heap[cb]? = some (.cells cells t fz) → ∃ cells' : Array Value, o' = .cells cells' t fz ∧ cells'.size = cells.size)
    (hfor : ORel E.P (Bd F φ st) (setAt w cb o') φ cb co ab') :
    Sess E F φ (st.set b ab') (setAt w cb o') ∧ Ext φ st w φ (st.set b ab') (setAt w cb o') := by
  have hlt := (h.lt b cb co hp).1
  have hcb : ∃ o, w.heap[cb]? = some o := ⟨w.heap[cb], Array.getElem?_eq_getElem hlt⟩
  obtain ⟨o, ho⟩ := hcb
  have hget : ∀ (x : Nat) ax, (st.set b ab')[x]? = some ax → (x = b ∧ ax = ab') ∨ (x ≠ b ∧ st[x]? = some ax) := by
    intro x ax hx
    rw [List.getElem?_set] at hx
    by_cases e : b = x
    · subst e; simp [lt_of_get hb] at hx; exact .inl ⟨rfl, hx.symm⟩
    · simp [e] at hx; exact .inr ⟨fun e' => e e'.symm, hx⟩
  have hown : ∀ c, Own φ (st.set b ab') c ↔ Own φ st c := by
    intro c
    constructor
    · rintro ⟨x, ax, co', h1, h2, h3⟩
      rcases hget x ax h1 with ⟨rfl, rfl⟩ | ⟨_, h1⟩
      · exact ⟨x, ab, co', hb, hl, h3⟩
      · exact ⟨x, ax, co', h1, h2, h3⟩
    · rintro ⟨x, ax, co', h1, h2, h3⟩
      by_cases e : x = b
      · subst e; exact ⟨x, ab', co', by simp [lt_of_get hb], hl', h3⟩
      · exact ⟨x, ax, co', by rw [List.getElem?_set_ne (fun e' => e e'.symm)]; exact h1, h2, h3⟩
  have hB : Bd F φ (st.set b ab') = Bd F φ st := funext fun c => by simp only [Bd, hown]
  have hownb : Own φ st cb := ⟨b, ab, co, hb, hl, hp⟩
  have hext : Ext φ st w φ (st.set b ab') (setAt w cb o') := by
    refine ⟨⟨fun _ _ h => h, by simp [setAt], fun c _ hn => setAt_other w o' (fun e => hn (e ▸ hownb)), fun c _ ho => (hown c).1 ho, fun c cells t fz hc => ?_, by simp, rfl, rfl, rfl, fun a => ?_⟩, fun _ _ => rfl⟩
    rotate_left
    · by_cases e : cb = a.block
      · rw [live_unfrozen hl' hfor a e.symm, live_unfrozen hl (h.blk b ab cb co hb hp) a e.symm]
      · exact frozen_same (setAt_other w o' e)
    by_cases e : cb = c
    · subst e
      obtain ⟨c', e1, e2⟩ := hsh cells t fz hc
      exact ⟨c', by rw [setAt_same hc, e1], e2⟩
    · exact ⟨cells, by rw [setAt_other w o' e]; exact hc, rfl⟩
  have g : Goes (Bd F φ st) w (Bd F φ st) (setAt w cb o') := by have := hext.goes (F := F); rwa [hB] at this
  refine ⟨⟨?_, ?_, ?_, ?_, ?_⟩, hext⟩
  · intro x ax c co' h1 h2
    rw [hB]
    rcases hget x ax h1 with ⟨rfl, rfl⟩ | ⟨hne, h1⟩
    · rw [hp] at h2; cases h2; exact hfor
    · by_cases e : cb = c
      · subst e
        cases hlx : live ax with
        | true => exact absurd (h.inj x b ax ab cb co' co h1 hlx hb hl h2 hp) hne
        | false =>
          cases ax with
          | dead => trivial
          | frz cs => exact absurd (.inr hownb) (h.blk x _ cb co' h1 h2).1
          | _ => cases hlx
      · exact (h.blk x ax c co' h1 h2).other g (fun _ _ h => h) (setAt_other w o' e) (fun _ => (h.lt x c co' h2).1)
  · intro x x' ax ax' c c1 c2 h1 h2 h3 h4 h5 h6
    rcases hget x ax h1 with ⟨rfl, rfl⟩ | ⟨_, h1''⟩
    · rcases hget x' ax' h3 with ⟨rfl, rfl⟩ | ⟨_, h3⟩
      · rfl
      · exact h.inj x x' ab ax' c c1 c2 hb hl h3 h4 h5 h6
    · have h1' := h1''
      rcases hget x' ax' h3 with ⟨rfl, rfl⟩ | ⟨_, h3⟩
      · exact h.inj x x' ax ab c c1 c2 h1' h2 hb hl h5 h6
      · exact h.inj x x' ax ax' c c1 c2 h1' h2 h3 h4 h5 h6
  · intro x c co' hx
    have := h.lt x c co' hx
    simpa [setAt] using this
  · rw [hB]; intro gl cs hg; exact (h.glob gl cs hg).mono g (fun _ _ h => h)
  · intro c hf; have := h.fout c hf; exact ⟨by simpa [setAt] using this.1, fun o => this.2 ((hown c).1 o)⟩

/-- A live block is given up: nobody writes it any more. -/
theorem Sess.retire (h : Sess E F φ st w) {b : Nat} {ab ab' : AB} (hb : st[b]? = some ab) (hl : live ab = true) (hl' : live ab' = false)
    (hfor : ∀ cb co, φ b = some (cb, co) → ORel E.P (Bd F φ (st.set b ab')) w φ cb co ab') :
    Sess E F φ (st.set b ab') w ∧ Ext φ st w φ (st.set b ab') w := by
  have hget : ∀ (x : Nat) ax, (st.set b ab')[x]? = some ax → (x = b ∧ ax = ab') ∨ (x ≠ b ∧ st[x]? = some ax) := by
    intro x ax hx
    rw [List.getElem?_set] at hx
    by_cases e : b = x
    · subst e; simp [lt_of_get hb] at hx; exact .inl ⟨rfl, hx.symm⟩
    · simp [e] at hx; exact .inr ⟨fun e' => e e'.symm, hx⟩
  have hown : ∀ c, Own φ (st.set b ab') c → Own φ st c := by
    rintro c ⟨x, ax, co', h1, h2, h3⟩
    rcases hget x ax h1 with ⟨rfl, rfl⟩ | ⟨_, h1⟩
    · rw [hl'] at h2; cases h2
    · exact ⟨x, ax, co', h1, h2, h3⟩
  have hext : Ext φ st w φ (st.set b ab') w :=
    ⟨⟨fun _ _ h => h, Nat.le_refl _, fun _ _ _ => rfl, fun c _ o => hown c o, fun _ c _ _ h => ⟨c, h, rfl⟩, by simp, rfl, rfl, rfl, fun _ => rfl⟩, fun _ _ => rfl⟩
  have g := hext.goes (F := F)
  refine ⟨⟨?_, ?_, ?_, ?_, ?_⟩, hext⟩
  · intro x ax c co' h1 h2
    rcases hget x ax h1 with ⟨rfl, rfl⟩ | ⟨_, h1⟩
    · exact hfor c co' h2
    · exact (h.blk x ax c co' h1 h2).other g (fun _ _ h => h) rfl (fun _ => (h.lt x c co' h2).1)
  · intro x x' ax ax' c c1 c2 h1 h2 h3 h4 h5 h6
    rcases hget x ax h1 with ⟨rfl, rfl⟩ | ⟨_, h1⟩
    · rw [hl'] at h2; cases h2
    · rcases hget x' ax' h3 with ⟨rfl, rfl⟩ | ⟨_, h3⟩
      · rw [hl'] at h4; cases h4
      · exact h.inj x x' ax ax' c c1 c2 h1 h2 h3 h4 h5 h6
  · intro x c co' hx; have := h.lt x c co' hx; simpa using this
  · intro gl cs hg; exact (h.glob gl cs hg).mono g (fun _ _ h => h)
  · intro c hf; exact ⟨(h.fout c hf).1, fun o => (h.fout c hf).2 (hown c o)⟩

/-- Draws from the tape change nothing that is looked at here. -/
theorem Sess.same_heap {w' : World} (h : Sess E F φ st w) (hh : w'.heap = w.heap) (ha : w'.tape = w.tape ∧ w'.os = w.os ∧ w'.output = w.output) :
    Sess E F φ st w' ∧ Ext φ st w φ st w' := by
  have hext : Ext φ st w φ st w' := ⟨⟨fun _ _ h => h, by rw [hh]; exact Nat.le_refl _, fun _ _ _ => by rw [hh], fun _ _ o => o, fun cb c t fz hc => ⟨c, by rw [hh]; exact hc, rfl⟩, Nat.le_refl _, ha.1, ha.2.1, ha.2.2, fun a => by simp only [World.frozen?, hh]⟩, fun _ _ => rfl⟩
  have g := hext.goes (F := F)
  exact ⟨⟨fun b ab cb co h1 h2 => (h.blk b ab cb co h1 h2).other g (fun _ _ h => h) (by rw [hh]) (fun _ => (h.lt b cb co h2).1), h.inj,
    fun b cb co hb => by rw [hh]; exact h.lt b cb co hb, fun gl cs hg => (h.glob gl cs hg).mono g (fun _ _ h => h), fun cb hf => by rw [hh]; exact h.fout cb hf⟩, hext⟩

end
end Go.Proofs.YtbjhjladdkbnmaaGreatDoor.Gx
