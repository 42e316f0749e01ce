/-
  How abstract values, session memories and frames stand to the model's values, worlds and frames.
-/
import Derived.Test.YtbjhjladdkbnmaaGreatDoorGxRun
import Derived.Defers
namespace Go.Proofs.YtbjhjladdkbnmaaGreatDoor.Gx
open Go

/-! ### Lists -/
theorem get?_eq {α : Type} : ∀ (l : List α) (i : Nat), get? l i = l[i]?
  | [], _ => by simp [get?]
  | x :: l, 0 => by simp [get?]
  | x :: l, n + 1 => by simp [get?, get?_eq l n]

theorem upd_eq {α : Type} : ∀ (l : List α) (i : Nat) (v : α), upd l i v = l.set i v
  | [], _, _ => by simp [upd]
  | x :: l, 0, v => by simp [upd]
  | x :: l, n + 1, v => by simp [upd, upd_eq l n v]

theorem nth_eq : ∀ (l : List AV) (i : Nat), nth l i = (l[i]?).getD (.tup [])
  | [], _ => by simp [nth]
  | x :: l, 0 => by simp [nth]
  | x :: l, n + 1 => by simp [nth, nth_eq l n]

theorem dropN_eq : ∀ (l : List AV) (n : Nat), dropN l n = l.drop n
  | l, 0 => by cases l <;> simp [dropN]
  | [], n + 1 => by simp [dropN]
  | x :: l, n + 1 => by simp [dropN, dropN_eq l n]

theorem takeN_some : ∀ (l : List AV) (n : Nat) (r : List AV), takeN l n = some r → r = l.take n ∧ r.length = n
  | l, 0, r, h => by cases l <;> simp [takeN] at h <;> simp [← h]
  | [], n + 1, r, h => by simp [takeN] at h
  | x :: l, n + 1, r, h => by
    simp only [takeN, Option.map_eq_some_iff] at h
    obtain ⟨r', h1, rfl⟩ := h
    obtain ⟨h2, h3⟩ := takeN_some l n r' h1
    exact ⟨by simp [h2], by simp [h3]⟩

theorem writeAt_some : ∀ (cs : List AV) (n : Nat) (vs r : List AV), writeAt cs n vs = some r →
    r.length = cs.length ∧ (vs ≠ [] → n + vs.length ≤ cs.length) ∧ ∀ j, r[j]? = if n ≤ j ∧ j < n + vs.length then vs[j - n]? else cs[j]?
  | cs, n, [], r, h => by
    have : r = cs := by cases cs <;> simp [writeAt] at h <;> simp [h]
    subst this
    refine ⟨rfl, by simp, fun j => ?_⟩
    rw [if_neg (by simp)]
  | [], n, v :: vs, r, h => by simp [writeAt] at h
  | c :: cs, 0, v :: vs, r, h => by
    simp only [writeAt, Option.map_eq_some_iff] at h
    obtain ⟨r', h1, rfl⟩ := h
    obtain ⟨h2, h3, h4⟩ := writeAt_some cs 0 vs r' h1
    refine ⟨by simp [h2], fun _ => ?_, fun j => ?_⟩
    · by_cases he : vs = []
      · subst he; simp
      · have := h3 he; simp at *; omega
    · cases j with
      | zero => simp
      | succ j =>
        have := h4 j
        simp only [List.getElem?_cons_succ, this]
        by_cases hj : j < vs.length
        · simp [hj]
        · simp [hj]
  | c :: cs, n + 1, v :: vs, r, h => by
    simp only [writeAt, Option.map_eq_some_iff] at h
    obtain ⟨r', h1, rfl⟩ := h
    obtain ⟨h2, h3, h4⟩ := writeAt_some cs n (v :: vs) r' h1
    refine ⟨by simp [h2], fun hne => ?_, fun j => ?_⟩
    · have := h3 hne; simp at *; omega
    · cases j with
      | zero => simp
      | succ j =>
        have := h4 j
        simp only [List.getElem?_cons_succ, this]
        by_cases hj : n ≤ j ∧ j < n + (v :: vs).length
        · rw [if_pos hj, if_pos (by omega)]
          congr 1
          omega
        · rw [if_neg hj, if_neg (by omega)]

/-! ### The relation of values -/
abbrev Phi := Nat → Option (Nat × Nat)
def phi0 : Phi := fun _ => none

/-- 'B': the blocks that may yet be written. -/
inductive VRel (B : Nat → Prop) (w : World) : Phi → AV → Value → Prop
  | bool {φ : Phi} (b : Bool) : VRel B w φ (.bool b) (.bool b)
  | int {φ : Phi} (k : IntKind) (n : Int) : VRel B w φ (.int k n) (.int k n)
  | str {φ : Phi} (l : List UInt8) : VRel B w φ (.str l) (.string ⟨l.toArray⟩)
  | nilptr {φ : Phi} : VRel B w φ .nilptr (.pointer none)
  | ptr {φ : Phi} {b off cb co : Nat} (h : φ b = some (cb, co)) : VRel B w φ (.ptr b off) (.pointer (some ⟨cb, co + off, none⟩))
  | iptr {φ : Phi} {cs : List AV} {cb o : Nat} (vs : Nat → Value) (hb : ¬B cb) (hl : cb < w.heap.size)
      (hc : ∀ (j : Nat) c, cs[j]? = some c → w.cell? ⟨cb, o + j, none⟩ = some (vs j))
      (hv : ∀ (j : Nat) c, cs[j]? = some c → VRel B w phi0 c (vs j)) : VRel B w φ (.iptr cs) (.pointer (some ⟨cb, o, none⟩))
  | nilsl {φ : Phi} : VRel B w φ .nilsl (.slice none 0 0)
  | sl {φ : Phi} {b off len : Nat} {cap : Cap} {cb co o ccap : Nat} (h : φ b = some (cb, co)) (ho : ccap = 0 ∨ o = co + off) (hl : len ≤ ccap)
      (hx : ∀ c, cap = .ex c → ccap = c)
      (hg : ∀ sz, cap = .gr sz → ccap = 0 ∨ ∃ cells t fz, w.heap[cb]? = some (.cells cells t fz) ∧ co + off + ccap * sz ≤ cells.size) :
      VRel B w φ (.sl b off len cap) (.slice (some ⟨cb, o, none⟩) len ccap)
  | isl {φ : Phi} {len : Nat} {cs : List AV} {cap : Option Nat} {a : Addr} {ccap : Nat} (vs : Nat → Value) (hx : ∀ c, cap = some c → ccap = c) (hl : len ≤ ccap)
      (hb : cs ≠ [] → ¬B a.block ∧ a.spot = none)
      (hc : ∀ (j : Nat) c, cs[j]? = some c → w.cell? ⟨a.block, a.off + j, none⟩ = some (vs j))
      (hv : ∀ (j : Nat) c, cs[j]? = some c → VRel B w phi0 c (vs j)) : VRel B w φ (.isl len cs cap) (.slice (some a) len ccap)
  | nilmap {φ : Phi} : VRel B w φ .nilmap (.map none)
  | map {φ : Phi} {b cb co : Nat} (h : φ b = some (cb, co)) : VRel B w φ (.map b) (.map (some cb))
  | func {φ : Phi} {f : FuncId} {a c : List AV} {a' c' : Array Value} (ha : a.length = a'.size) (hc : c.length = c'.size)
      (hav : ∀ (j : Nat) x v, a[j]? = some x → a'[j]? = some v → VRel B w φ x v) (hcv : ∀ (j : Nat) x v, c[j]? = some x → c'[j]? = some v → VRel B w φ x v) :
      VRel B w φ (.func f a c) (.func (.func f) a' c')
  | yld {φ : Phi} {l cl co : Nat} (h : φ l = some (cl, co)) : VRel B w φ (.yld l) (.func (.yield cl) #[] #[])
  | nilfn {φ : Phi} : VRel B w φ .nilfn .nilFunc
  | iface {φ : Phi} {t : TypeId} {x : AV} {v : Value} (h : VRel B w φ x v) : VRel B w φ (.iface t x) (.iface t v)
  | nilif {φ : Phi} : VRel B w φ .nilif .nilIface
  | agg {φ : Phi} {cs : List AV} {vs : Array Value} (hl : cs.length = vs.size) (hv : ∀ (j : Nat) x v, cs[j]? = some x → vs[j]? = some v → VRel B w φ x v) :
      VRel B w φ (.agg cs) (.agg vs)
  | tup {φ : Phi} {cs : List AV} {vs : Array Value} (hl : cs.length = vs.size) (hv : ∀ (j : Nat) x v, cs[j]? = some x → vs[j]? = some v → VRel B w φ x v) :
      VRel B w φ (.tup cs) (.tuple vs)
  | unk {φ : Phi} (u : Value) : VRel B w φ .unk u
  | oint {φ : Phi} {k : IntKind} {lo hi n : Int} (h1 : lo ≤ n) (h2 : n ≤ hi) : VRel B w φ (.oint k lo hi) (.int k n)
  | ostr {φ : Phi} {ne : List (List UInt8)} {l : List UInt8} (h : l ∉ ne) : VRel B w φ (.ostr ne) (.string ⟨l.toArray⟩)

/-- Lists, place by place. -/
def LRel (B : Nat → Prop) (w : World) (φ : Phi) (l : List AV) (vs : List Value) : Prop :=
  l.length = vs.length ∧ ∀ (j : Nat) x v, l[j]? = some x → vs[j]? = some v → VRel B w φ x v

section
variable {B : Nat → Prop} {w : World} {φ : Phi}

theorem LRel.nil : LRel B w φ [] [] := ⟨rfl, fun j x v h => by simp at h⟩

theorem LRel.cons {x : AV} {v : Value} {l : List AV} {vs : List Value} (h : VRel B w φ x v) (hl : LRel B w φ l vs) : LRel B w φ (x :: l) (v :: vs) := by
  refine ⟨by simp [hl.1], fun j y u hy hu => ?_⟩
  cases j with
  | zero => simp at hy hu; subst hy; subst hu; exact h
  | succ j => simp at hy hu; exact hl.2 j y u hy hu

theorem LRel.of_cons {x : AV} {v : Value} {l : List AV} {vs : List Value} (h : LRel B w φ (x :: l) (v :: vs)) : VRel B w φ x v ∧ LRel B w φ l vs :=
  ⟨h.2 0 x v rfl rfl, by simpa using h.1, fun j y u hy hu => h.2 (j + 1) y u (by simpa using hy) (by simpa using hu)⟩

theorem LRel.inv_cons {x : AV} {l : List AV} {vs : List Value} (h : LRel B w φ (x :: l) vs) : ∃ v vs', vs = v :: vs' ∧ VRel B w φ x v ∧ LRel B w φ l vs' := by
  cases vs with
  | nil => have := h.1; simp at this
  | cons v vs' => exact ⟨v, vs', rfl, h.of_cons.1, h.of_cons.2⟩

theorem LRel.inv_nil {vs : List Value} (h : LRel B w φ [] vs) : vs = [] := by
  have := h.1; simp at this; exact List.eq_nil_of_length_eq_zero this.symm

theorem LRel.append {l l' : List AV} {vs vs' : List Value} (h : LRel B w φ l vs) (h' : LRel B w φ l' vs') : LRel B w φ (l ++ l') (vs ++ vs') := by
  induction l generalizing vs with
  | nil => rw [h.inv_nil]; simpa using h'
  | cons x l ih =>
    obtain ⟨v, vs1, rfl, h1, h2⟩ := h.inv_cons
    exact LRel.cons h1 (ih h2)

theorem LRel.drop {l : List AV} {vs : List Value} (h : LRel B w φ l vs) (n : Nat) : LRel B w φ (l.drop n) (vs.drop n) :=
  ⟨by simp [h.1], fun j x v hx hv => h.2 (n + j) x v (by simpa using hx) (by simpa using hv)⟩

theorem LRel.take {l : List AV} {vs : List Value} (h : LRel B w φ l vs) (n : Nat) : LRel B w φ (l.take n) (vs.take n) := by
  refine ⟨by simp [h.1], fun j x v hx hv => ?_⟩
  rw [List.getElem?_take] at hx hv
  split at hx
  · rename_i hj; rw [if_pos hj] at hv; exact h.2 j x v hx hv
  · simp at hx

theorem LRel.set {l : List AV} {vs : List Value} (h : LRel B w φ l vs) (i : Nat) {x : AV} {v : Value} (hv : VRel B w φ x v) : LRel B w φ (l.set i x) (vs.set i v) := by
  refine ⟨by simp [h.1], fun j y u hy hu => ?_⟩
  rw [List.getElem?_set] at hy hu
  by_cases hij : i = j
  · subst hij
    simp only [if_true] at hy hu
    split at hy
    · split at hu
      · simp at hy hu; subst hy; subst hu; exact hv
      · simp at hu
    · simp at hy
  · simp only [hij, if_false] at hy hu
    exact h.2 j y u hy hu

theorem VRel.cells {v : AV} {u : Value} (h : VRel B w φ v u) (hne : v ≠ .unk) : LRel B w φ (cellsOf v) u.cells.toList := by
  cases h with
  | unk => exact absurd rfl hne
  | agg hl hv => exact ⟨by simpa [Value.cells, cellsOf] using hl, fun j x v hx hv' => hv j x v (by simpa [cellsOf] using hx) (by simpa [Value.cells] using hv')⟩
  | bool b => exact LRel.cons (.bool b) .nil
  | int k n => exact LRel.cons (.int k n) .nil
  | str l => exact LRel.cons (.str l) .nil
  | nilptr => exact LRel.cons .nilptr .nil
  | ptr h => exact LRel.cons (.ptr h) .nil
  | iptr vs hb hl hc hv => exact LRel.cons (.iptr vs hb hl hc hv) .nil
  | nilsl => exact LRel.cons .nilsl .nil
  | sl h ho hl hx hg => exact LRel.cons (.sl h ho hl hx hg) .nil
  | isl vs hx hl hb hc hv => exact LRel.cons (.isl vs hx hl hb hc hv) .nil
  | nilmap => exact LRel.cons .nilmap .nil
  | map h => exact LRel.cons (.map h) .nil
  | func ha hc hav hcv => exact LRel.cons (.func ha hc hav hcv) .nil
  | yld h => exact LRel.cons (.yld h) .nil
  | nilfn => exact LRel.cons .nilfn .nil
  | iface h => exact LRel.cons (.iface h) .nil
  | nilif => exact LRel.cons .nilif .nil
  | tup hl hv => exact LRel.cons (.tup hl hv) .nil
  | oint h1 h2 => exact LRel.cons (.oint h1 h2) .nil
  | ostr h => exact LRel.cons (.ostr h) .nil

theorem ne_unk {v : AV} (h : (cellsOf v).all isCell = true) : v ≠ .unk := fun e => by subst e; simp [cellsOf, isCell] at h

/-- A row as an aggregate. -/
theorem VRel.of_list {l : List AV} {vs : List Value} (h : LRel B w φ l vs) : VRel B w φ (.agg l) (.agg vs.toArray) :=
  .agg (by simp [h.1]) (fun j x v hx hv => h.2 j x v hx (by simpa using hv))

theorem VRel.of_list_tup {l : List AV} {vs : List Value} (h : LRel B w φ l vs) : VRel B w φ (.tup l) (.tuple vs.toArray) :=
  .tup (by simp [h.1]) (fun j x v hx hv => h.2 j x v hx (by simpa using hv))

theorem VRel.undef : VRel B w φ (.tup []) undef := .tup rfl (fun j x v h => by simp at h)

/-! Values that come of closed terms. -/
theorem ofS_rel {v : Value} {x : AV} (h : ofS v = some x) : VRel B w φ x v := by
  unfold ofS at h
  split at h <;> simp at h <;> subst h
  case h_3 s => exact .str s.data.toList
  all_goals constructor

theorem ofL_rel : ∀ {vs : List Value} {l : List AV}, ofL vs = some l → LRel B w φ l vs
  | [], l, h => by simp [ofL] at h; subst h; exact .nil
  | v :: vs, l, h => by
    unfold ofL at h
    split at h
    · rename_i a l' ha hl'
      simp at h; subst h
      exact .cons (ofS_rel ha) (ofL_rel hl')
    · simp at h

theorem ofV_rel {v : Value} {x : AV} (h : ofV v = some x) : VRel B w φ x v := by
  unfold ofV at h
  split at h
  · rename_i cs
    simp at h
    obtain ⟨l, h1, rfl⟩ := h
    have := VRel.of_list (ofL_rel (B := B) (w := w) (φ := φ) h1)
    simpa using this
  · rename_i vs
    simp at h
    obtain ⟨l, h1, rfl⟩ := h
    have := VRel.of_list_tup (ofL_rel (B := B) (w := w) (φ := φ) h1)
    simpa using this
  · exact ofS_rel h

theorem ofV_ne {v : Value} {x : AV} (h : ofV v = some x) : x ≠ .unk := by
  intro e; subst e
  unfold ofV at h
  split at h
  · simp at h
  · simp at h
  · unfold ofS at h; split at h <;> simp at h

/-- A scalar is the value of one abstract value alone. -/
theorem toS_rel {x : AV} {v u : Value} (h : toS x = some v) (hr : VRel B w φ x u) : u = v := by
  cases hr <;> simp [toS] at h <;> exact h

theorem toL_rel : ∀ {l : List AV} {vs us : List Value}, toL l = some vs → LRel B w φ l us → us = vs
  | [], vs, us, h, hr => by simp [toL] at h; subst h; exact hr.inv_nil
  | x :: l, vs, us, h, hr => by
    unfold toL at h
    split at h
    · rename_i a l' ha hl'
      simp at h; subst h
      obtain ⟨v, vs', rfl, h1, h2⟩ := hr.inv_cons
      rw [toS_rel ha h1, toL_rel hl' h2]
    · simp at h

theorem toV_rel {x : AV} {v u : Value} (h : toV x = some v) (hr : VRel B w φ x u) : u = v := by
  unfold toV at h
  split at h
  · rename_i cs
    simp at h
    obtain ⟨l, h1, rfl⟩ := h
    cases hr with
    | agg hl hv =>
      rename_i vs
      have : vs.toList = l := toL_rel h1 ⟨by simpa using hl, fun j x v hx hv' => hv j x v hx (by simpa using hv')⟩
      rw [← this]
  · exact toS_rel h hr

end

/-- A run that does not look at the world. -/
theorem pureRun_run {α : Type} {P : Program} : ∀ (s : Sem α) {a : α}, pureRun P s = some a → ∀ w, s.run P w = .ok a w
  | .pure a, _, h, w => by simp [pureRun] at h; subst h; rfl
  | .program k, _, h, w => by simp only [pureRun] at h; simp only [Sem.run]; exact pureRun_run (k P) h w
  | .load .., _, h, _ => by simp [pureRun] at h
  | .store .., _, h, _ => by simp [pureRun] at h
  | .new .., _, h, _ => by simp [pureRun] at h
  | .shape .., _, h, _ => by simp [pureRun] at h
  | .freeze .., _, h, _ => by simp [pureRun] at h
  | .frozen .., _, h, _ => by simp [pureRun] at h
  | .getObj .., _, h, _ => by simp [pureRun] at h
  | .setObj .., _, h, _ => by simp [pureRun] at h
  | .choose .., _, h, _ => by simp [pureRun] at h
  | .sys .., _, h, _ => by simp [pureRun] at h
  | .mark .., _, h, _ => by simp [pureRun] at h
  | .halt _, _, h, _ => by simp [pureRun] at h

end Go.Proofs.YtbjhjladdkbnmaaGreatDoor.Gx
