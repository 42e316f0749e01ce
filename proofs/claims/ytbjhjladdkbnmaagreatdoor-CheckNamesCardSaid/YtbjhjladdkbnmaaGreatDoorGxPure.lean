/-
  Soundness of the operations that leave the memory as it is.
-/
import Derived.Test.YtbjhjladdkbnmaaGreatDoorGxSess
import Derived.Laws.Sem
namespace Go.Proofs.YtbjhjladdkbnmaaGreatDoor.Gx
open Go

/-! ### The model's small steps -/
section
variable {P : Program} {w : World}
theorem run_und {t : TypeId} {d : TypeDesc} (h : P.underlying t = some d) : (underlying t).run P w = .ok d w := by simp [underlying, h]
theorem run_info {t : TypeId} {i : TypeInfo} (h : P.info? t = some i) : (typeInfo t).run P w = .ok i w := by simp [typeInfo, h]
theorem run_size {t : TypeId} {n : Nat} (h : szOf P t = some n) : (sizeOf t).run P w = .ok n w := by
  unfold szOf at h; simp at h; obtain ⟨i, h1, rfl⟩ := h; simp [sizeOf, run_info h1]
theorem run_agg {t : TypeId} {b : Bool} (h : aggT P t = some b) : (isAgg t).run P w = .ok b w := by
  unfold aggT at h
  cases hu : P.underlying t with
  | none => simp [hu] at h
  | some d => rw [hu] at h; cases d <;> simp at h <;> subst h <;> simp [isAgg, run_und hu]
theorem zeroT_some {t : TypeId} {z : AV} (h : zeroT P t = some z) : ∃ i v, P.info? t = some i ∧ i.zero = some v ∧ ofV v = some z := by
  unfold zeroT at h
  simp [Option.bind_eq_some_iff] at h
  obtain ⟨v, ⟨i, h1, h2⟩, h3⟩ := h
  exact ⟨i, v, h1, h2, h3⟩
theorem run_zero {t : TypeId} {z : AV} (h : zeroT P t = some z) : ∃ v, (zeroValue t).run P w = .ok v w ∧ ofV v = some z := by
  obtain ⟨i, v, h1, h2, h3⟩ := zeroT_some h
  exact ⟨v, by simp [zeroValue, run_info h1, h2], h3⟩
end

/-- A row of cells of the world. -/
def Row (w : World) (cb o : Nat) (us : List Value) : Prop := ∀ (j : Nat) u, us[j]? = some u → w.cell? ⟨cb, o + j, none⟩ = some u

theorem Row.drop {w : World} {cb o : Nat} {us : List Value} (h : Row w cb o us) (n : Nat) : Row w cb (o + n) (us.drop n) := by
  intro j u hj
  have := h (n + j) u (by simpa using hj)
  rwa [← Nat.add_assoc] at this

theorem Row.take {w : World} {cb o : Nat} {us : List Value} (h : Row w cb o us) (n : Nat) : Row w cb o (us.take n) := by
  intro j u hj
  rw [List.getElem?_take] at hj
  split at hj
  · exact h j u hj
  · cases hj

theorem addr_add (cb o n : Nat) : (⟨cb, o, none⟩ : Addr).add n = ⟨cb, o + n, none⟩ := by
  unfold Addr.add; split
  · rename_i h; subst h; rfl
  · rfl

theorem run_loadCellsFrom {P : Program} {w : World} {cb o : Nat} : ∀ (us : List Value) (i : Nat) (acc : Array Value), Row w cb (o + i) us →
    (loadCellsFrom ⟨cb, o, none⟩ i us.length acc).run P w = .ok (acc ++ us.toArray) w
  | [], i, acc, _ => by simp [loadCellsFrom]
  | u :: us, i, acc, h => by
    have h0 := h 0 u rfl
    simp only [Nat.add_zero] at h0
    have h1 : Row w cb (o + (i + 1)) us := by
      have := h.drop 1
      simpa [Nat.add_assoc] using this
    simp [loadCellsFrom, addr_add, h0, run_loadCellsFrom us (i + 1) (acc.push u) h1]

theorem run_loadCells {P : Program} {w : World} {cb o : Nat} {us : List Value} (h : Row w cb o us) :
    (loadCells ⟨cb, o, none⟩ us.length).run P w = .ok us.toArray w := by
  have := run_loadCellsFrom (P := P) us 0 #[] (o := o) (by simpa using h)
  simpa [loadCells] using this

/-- Values for a row, one by one. -/
theorem pick_row {B : Nat → Prop} {w : World} {φ : Phi} : ∀ (cs : List AV) (X : Nat → Value → Prop), (∀ (j : Nat) c, cs[j]? = some c → ∃ v, X j v ∧ VRel B w φ c v) →
    ∃ us : List Value, us.length = cs.length ∧ (∀ (j : Nat) u, us[j]? = some u → X j u) ∧ LRel B w φ cs us
  | [], X, _ => ⟨[], rfl, fun j u h => by simp at h, .nil⟩
  | c :: cs, X, h => by
    obtain ⟨v, hx, hv⟩ := h 0 c rfl
    obtain ⟨us, h1, h2, h3⟩ := pick_row cs (fun j => X (j + 1)) (fun j c hj => h (j + 1) c (by simpa using hj))
    refine ⟨v :: us, by simp [h1], fun j u hj => ?_, .cons hv h3⟩
    cases j with
    | zero => simp at hj; subst hj; exact hx
    | succ j => simp at hj; exact h2 j u hj

theorem VRel.weak {B : Nat → Prop} {w : World} {v : AV} {u : Value} (h : VRel B w phi0 v u) (φ : Phi) : VRel B w φ v u :=
  h.mono ⟨fun _ _ hb => ⟨hb, rfl⟩, Nat.le_refl _, fun _ c _ _ h => ⟨c, h, rfl⟩⟩ (fun _ _ h => by simp [phi0] at h)

theorem LRel.weak {B : Nat → Prop} {w : World} {l : List AV} {us : List Value} (h : LRel B w phi0 l us) (φ : Phi) : LRel B w φ l us :=
  ⟨h.1, fun j x v hx hv => (h.2 j x v hx hv).weak φ⟩

theorem cell_of_cells {w : World} {cb o : Nat} {cells : Array Value} {t : TypeId} {fz : Nat × Nat} (h : w.heap[cb]? = some (.cells cells t fz)) : w.cell? ⟨cb, o, none⟩ = cells[o]? := by
  simp [World.cell?, h]

section
variable {E : Env} {F : Nat → Prop} {φ : Phi} {st : St} {w : World}

/-- The cells from an address on. -/
theorem cellsAt_sound (hS : Sess E F φ st w) {a : AV} {u : Value} {cs : List AV} (h : cellsAt st a = some cs) (hv : VRel (Bd F φ st) w φ a u) :
    ∃ cb o us, u = .pointer (some ⟨cb, o, none⟩) ∧ LRel (Bd F φ st) w φ cs us ∧ Row w cb o us := by
  cases hv with
  | ptr hp =>
    rename_i b off cb co
    simp only [cellsAt, get?_eq] at h
    split at h
    · rename_i cs0 hb
      simp at h; subst h
      obtain ⟨cells, t, h1, h2⟩ := hS.blk b _ cb co hb hp
      obtain ⟨us, e1, e2, e3⟩ := pick_row (B := Bd F φ st) (w := w) (φ := φ) cs0 (fun j v => cells[co + j]? = some v) h2
      have hr : Row w cb co us := fun j u hj => by rw [cell_of_cells h1]; exact e2 j u hj
      refine ⟨cb, co + off, us.drop off, rfl, ?_, hr.drop off⟩
      rw [dropN_eq]; exact e3.drop off
    · rename_i cs0 hb
      simp at h; subst h
      obtain ⟨_, cells, t, fz, h1, h2⟩ := hS.blk b _ cb co hb hp
      obtain ⟨us, e1, e2, e3⟩ := pick_row (B := Bd F φ st) (w := w) (φ := phi0) cs0 (fun j v => cells[co + j]? = some v) h2
      have hr : Row w cb co us := fun j u hj => by rw [cell_of_cells h1]; exact e2 j u hj
      refine ⟨cb, co + off, us.drop off, rfl, ?_, hr.drop off⟩
      rw [dropN_eq]; exact (e3.weak φ).drop off
    · cases h
  | iptr vs hb hl hc hv =>
    rename_i cs0 cb o
    simp [cellsAt] at h; subst h
    obtain ⟨us, e1, e2, e3⟩ := pick_row (B := Bd F φ st) (w := w) (φ := phi0) cs0 (fun j v => w.cell? ⟨cb, o + j, none⟩ = some v) (fun j c hj => ⟨vs j, hc j c hj, hv j c hj⟩)
    exact ⟨cb, o, us, rfl, e3.weak φ, e2⟩
  | _ => simp [cellsAt] at h

theorem loadE_sound (hS : Sess E F φ st w) {t : TypeId} {a v : AV} {u : Value} (h : loadE E.P st t a = some v) (ha : VRel (Bd F φ st) w φ a u) :
    ∃ x, (Instr.loadAt t u).run E.P w = .ok x w ∧ VRel (Bd F φ st) w φ v x := by
  unfold loadE at h
  split at h
  · rename_i cs h1 h2
    obtain ⟨cb, o, us, rfl, hL, hR⟩ := cellsAt_sound hS h1 ha
    split at h
    · rename_i n hn
      simp at h
      obtain ⟨r, hr, rfl⟩ := h
      obtain ⟨e1, e2⟩ := takeN_some _ _ _ hr
      have hlen : (us.take n).length = n := by
        rw [← (hL.take n).1, ← e1, e2]
      refine ⟨.agg (us.take n).toArray, ?_, VRel.of_list (e1 ▸ hL.take n)⟩
      have := run_loadCells (P := E.P) (hR.take n)
      rw [hlen] at this
      simp [Instr.loadAt, Instr.sureAddr, loadVar, run_agg h2, run_size hn, this]
    · cases h
  · rename_i c cs h1 h2
    simp at h; subst h
    obtain ⟨cb, o, us, rfl, hL, hR⟩ := cellsAt_sound hS h1 ha
    obtain ⟨x, us', rfl, hx, _⟩ := hL.inv_cons
    have := hR 0 x rfl
    simp only [Nat.add_zero] at this
    exact ⟨x, by simp [Instr.loadAt, Instr.sureAddr, loadVar, run_agg h2, this], hx⟩
  · cases h

/-! ### Operands -/
def evalT (tmps : Array Value) : Operand → Value
  | .tmp t => tmps.getD t undef
  | .const v => v
  | .global g => .pointer (some ⟨g, 0, none⟩)
  | .func f => .func (.func f) #[] #[]

theorem nth_sound {B : Nat → Prop} {tm : List AV} {tmps : Array Value} (h : LRel B w φ tm tmps.toList) (t : Nat) : VRel B w φ (nth tm t) (tmps.getD t undef) := by
  rw [nth_eq]
  rcases Nat.lt_or_ge t tm.length with hl | hl
  · have hl' : t < tmps.size := by have := h.1; simp at this; omega
    have e1 : tm[t]? = some tm[t] := List.getElem?_eq_getElem hl
    have e2 : tmps.toList[t]? = some tmps[t] := by simp [hl']
    have := h.2 t _ _ e1 e2
    simpa [e1, hl', Array.getD] using this
  · have hl' : tmps.size ≤ t := by have := h.1; simp at this; omega
    have e2 : tmps.getD t undef = undef := by simp [Array.getD, Nat.not_lt.2 hl']
    simp [List.getElem?_eq_none hl, e2]
    exact VRel.undef

theorem ev_sound (hS : Sess E F φ st w) {fr : Fr} {tmps : Array Value} (hT : LRel (Bd F φ st) w φ fr.tm tmps.toList) {x : Operand} {v : AV} (h : ev E fr x = some v) :
    VRel (Bd F φ st) w φ v (evalT tmps x) := by
  cases x with
  | tmp t => simp [ev] at h; subst h; exact nth_sound hT t
  | const c => exact ofV_rel h
  | global g =>
    simp [ev] at h
    obtain ⟨cs, h1, rfl⟩ := h
    exact (hS.glob g cs h1).weak φ
  | func f => simp [ev] at h; subst h; exact .func rfl rfl (fun j x v h => by simp at h) (fun j x v h => by simp at h)

theorem evs_sound (hS : Sess E F φ st w) {fr : Fr} {tmps : Array Value} (hT : LRel (Bd F φ st) w φ fr.tm tmps.toList) : ∀ {xs : List Operand} {vs : List AV}, evs E fr xs = some vs →
    LRel (Bd F φ st) w φ vs (xs.map (evalT tmps))
  | [], vs, h => by simp [evs] at h; subst h; exact .nil
  | x :: xs, vs, h => by
    unfold evs at h
    split at h
    · rename_i v vs' h1 h2
      simp at h; subst h
      exact .cons (ev_sound hS hT h1) (evs_sound hS hT h2)
    · cases h

/-- Parts of a composite value. -/
def PRel (B : Nat → Prop) (w : World) (φ : Phi) (l : List (Nat × AV)) (us : List (Nat × Value)) : Prop :=
  l.map (·.1) = us.map (·.1) ∧ LRel B w φ (l.map (·.2)) (us.map (·.2))

theorem evp_sound (hS : Sess E F φ st w) {fr : Fr} {tmps : Array Value} (hT : LRel (Bd F φ st) w φ fr.tm tmps.toList) : ∀ {xs : List (Nat × Operand)} {vs : List (Nat × AV)}, evp E fr xs = some vs →
    PRel (Bd F φ st) w φ vs (xs.map fun (i, x) => (i, evalT tmps x))
  | [], vs, h => by simp [evp] at h; subst h; exact ⟨rfl, .nil⟩
  | (i, x) :: xs, vs, h => by
    unfold evp at h
    split at h
    · rename_i v vs' h1 h2
      simp at h; subst h
      have := evp_sound hS hT h2
      exact ⟨by simp; simpa using this.1, .cons (ev_sound hS hT h1) this.2⟩
    · cases h

/-- A place in a row that is never written again. -/
theorem iptr_at {B : Nat → Prop} {cs : List AV} {cb o n : Nat} {vs : Nat → Value} (hb : ¬B cb) (hl : cb < w.heap.size)
    (hc : ∀ (j : Nat) c, cs[j]? = some c → w.cell? ⟨cb, o + j, none⟩ = some (vs j)) (hv : ∀ (j : Nat) c, cs[j]? = some c → VRel B w phi0 c (vs j)) :
    VRel B w φ (.iptr (dropN cs n)) (.pointer (some ⟨cb, o + n, none⟩)) := by
  rw [dropN_eq]
  refine .iptr (fun j => vs (n + j)) hb hl (fun j c hj => ?_) (fun j c hj => hv _ c (by simpa using hj))
  rw [Nat.add_assoc]
  exact hc _ c (by simpa using hj)

/-! ### Addresses -/
theorem fieldAddrE_sound {B : Nat → Prop} {t : TypeId} {f : Nat} {a v : AV} {u : Value} (h : fieldAddrE E.P t a f = some v) (ha : VRel B w φ a u) :
    ∃ x, (Instr.fieldAt t u f).run E.P w = .ok x w ∧ VRel B w φ v x := by
  unfold fieldAddrE at h
  split at h
  · rename_i o ft hf
    unfold fieldOf at hf
    split at hf
    · rename_i fs hu
      simp at hf
      obtain ⟨fld, hfld, rfl, rfl⟩ := hf
      split at h
      · rename_i n b off hn
        simp at h; subst h
        cases ha with
        | ptr hp =>
          rename_i cb co
          exact ⟨.pointer (some ⟨cb, co + off + fld.offset, none⟩), by simp [Instr.fieldAt, run_und hu, hfld, Instr.sureAddr, fieldPlace, run_size hn, addr_add], by rw [Nat.add_assoc]; exact .ptr hp⟩
      · rename_i n cs hn
        simp at h; subst h
        cases ha with
        | iptr vs hb hl hc hv =>
          rename_i cb o
          exact ⟨.pointer (some ⟨cb, o + fld.offset, none⟩), by simp [Instr.fieldAt, run_und hu, hfld, Instr.sureAddr, fieldPlace, run_size hn, addr_add], iptr_at hb hl hc hv⟩
      · cases h
    · cases hf
  · cases h

theorem idx_some {i : AV} {len n : Nat} (h : idx i len = some n) : ∃ k, i = .int k n ∧ n < len := by
  unfold idx at h
  split at h
  · rename_i k m
    split at h
    · rename_i hb
      simp at h; subst h
      exact ⟨k, rfl, by simpa [Nat.blt_eq] using hb⟩
    · cases h
  · cases h

theorem indexAddrE_sound {B : Nat → Prop} {t : TypeId} {x i v : AV} {ux ui : Value} (h : indexAddrE E.P t x i = some v) (hx : VRel B w φ x ux) (hi : VRel B w φ i ui) :
    ∃ r, (Instr.indexAt t ux ui).run E.P w = .ok r w ∧ VRel B w φ v r := by
  unfold indexAddrE at h
  split at h
  · rename_i e hu
    split at h
    · rename_i s b off len cap hs
      simp at h
      obtain ⟨n, hn, rfl⟩ := h
      obtain ⟨k, rfl, hlt⟩ := idx_some hn
      cases hi
      cases hx with
      | sl hp ho hl hxx hg =>
        rename_i cb co o ccap
        have ho' : o = co + off := ho.resolve_left (by omega)
        subst ho'
        have h1 : (0 : Int) ≤ (n : Int) ∧ (n : Int) < (len : Int) := by omega
        exact ⟨.pointer (some ⟨cb, co + off + n * s, none⟩), by simp [Instr.indexAt, asIntOf, run_und hu, hlt, run_size hs, addr_add], by rw [Nat.add_assoc]; exact .ptr hp⟩
    · rename_i s len cs cap hs
      split at h
      · rename_i n hn
        split at h
        · cases h
        · rename_i c cs' hd
          simp at h; subst h
          obtain ⟨k, rfl, hlt⟩ := idx_some hn
          cases hi
          cases hx with
          | isl vs hxx hl hb hc hv =>
            rename_i a ccap
            have hne : cs ≠ [] := fun e => by subst e; simp [dropN_eq] at hd
            obtain ⟨hb1, hb2⟩ := hb hne
            obtain ⟨ab, ao, asp⟩ := a
            simp only at hb1 hb2 hc
            subst hb2
            have hlt0 : ab < w.heap.size := by
              cases cs with
              | nil => exact absurd rfl hne
              | cons c0 _ => exact lt_of_cell? (hc 0 c0 rfl)
            refine ⟨.pointer (some ⟨ab, ao + n * s, none⟩), by simp [Instr.indexAt, asIntOf, run_und hu, hlt, run_size hs, addr_add], ?_⟩
            rw [← hd]
            exact iptr_at hb1 hlt0 hc hv
      · cases h
    · cases h
  · rename_i len e hu
    split at h
    · rename_i s b off hs
      simp at h
      obtain ⟨n, hn, rfl⟩ := h
      obtain ⟨k, rfl, hlt⟩ := idx_some hn
      cases hi
      cases hx with
      | ptr hp =>
        rename_i cb co
        exact ⟨.pointer (some ⟨cb, co + off + n * s, none⟩), by simp [Instr.indexAt, asIntOf, run_und hu, Instr.sureAddr, hlt, run_size hs, addr_add], by rw [Nat.add_assoc]; exact .ptr hp⟩
    · rename_i s cs hs
      simp at h
      obtain ⟨n, hn, rfl⟩ := h
      obtain ⟨k, rfl, hlt⟩ := idx_some hn
      cases hi
      cases hx with
      | iptr vs hb hl hc hv =>
        rename_i cb o
        exact ⟨.pointer (some ⟨cb, o + n * s, none⟩), by simp [Instr.indexAt, asIntOf, run_und hu, Instr.sureAddr, hlt, run_size hs, addr_add], iptr_at hb hl hc hv⟩
    · cases h
  · cases h

end
end Go.Proofs.YtbjhjladdkbnmaaGreatDoor.Gx
