/-
  Soundness of freezing.
-/
import Derived.Test.YtbjhjladdkbnmaaGreatDoorGxMem4
namespace Go.Proofs.YtbjhjladdkbnmaaGreatDoor.Gx
open Go

section
variable {E : Env} {F : Nat → Prop} {φ : Phi} {w : World}

/-- What freezing a value comes to. -/
def FrzOk (E : Env) (F : Nat → Prop) (φ : Phi) (w : World) (f : AV → St → Option (AV × St)) : Prop :=
  ∀ (v : AV) (st : St) (v' : AV) (st' : St) (u : Value), f v st = some (v', st') → Sess E F φ st w → VRel (Bd F φ st) w φ v u →
    Sess E F φ st' w ∧ Ext φ st w φ st' w ∧ VRel (Bd F φ st') w phi0 v' u

theorem Ext0.val0 {φ' : Phi} {st st' : St} {w' : World} (h : Ext0 φ st w φ' st' w') {v : AV} {u : Value} (hv : VRel (Bd F φ st) w phi0 v u) : VRel (Bd F φ' st') w' phi0 v u :=
  hv.mono h.goes (fun _ _ h => h)

theorem Ext0.list0 {φ' : Phi} {st st' : St} {w' : World} (h : Ext0 φ st w φ' st' w') {l : List AV} {us : List Value} (hv : LRel (Bd F φ st) w phi0 l us) : LRel (Bd F φ' st') w' phi0 l us :=
  hv.mono h.goes (fun _ _ h => h)

theorem frzL_sound {f : AV → St → Option (AV × St)} (hf : FrzOk E F φ w f) : ∀ {l : List AV} {st st' : St} {l' : List AV} {us : List Value}, frzL f l st = some (l', st') → Sess E F φ st w →
    LRel (Bd F φ st) w φ l us → Sess E F φ st' w ∧ Ext φ st w φ st' w ∧ LRel (Bd F φ st') w phi0 l' us
  | [], st, st', l', us, h, hS, hl => by
    simp [frzL] at h; obtain ⟨rfl, rfl⟩ := h
    rw [hl.inv_nil]
    exact ⟨hS, Ext.refl _ _ _, .nil⟩
  | v :: l, st, st', l', us, h, hS, hl => by
    unfold frzL at h
    split at h
    · rename_i v1 st1 h1
      split at h
      · rename_i l1 st2 h2
        simp at h; obtain ⟨rfl, rfl⟩ := h
        obtain ⟨u, us', rfl, r1, r2⟩ := hl.inv_cons
        obtain ⟨a1, a2, a3⟩ := hf _ _ _ _ _ h1 hS r1
        obtain ⟨b1, b2, b3⟩ := frzL_sound hf h2 a1 (a2.list r2)
        exact ⟨b1, a2.trans b2, .cons (b2.val0 a3) b3⟩
      · cases h
    · cases h

/-- A frozen row. -/
structure FrzRow (B : Nat → Prop) (w : World) (cb co : Nat) (cs : List AV) : Prop where
  out : ¬B cb
  row : ∃ (cells : Array Value) (t : TypeId) (fz : Nat × Nat), w.heap[cb]? = some (.cells cells t fz) ∧ ∀ (j : Nat) c, cs[j]? = some c → ∃ v, cells[co + j]? = some v ∧ VRel B w phi0 c v

theorem frzBlk_sound {f : AV → St → Option (AV × St)} (hf : FrzOk E F φ w f) {b : Nat} {st st' : St} {cs : List AV} {cb co : Nat} (h : frzBlk f b st = some (cs, st')) (hS : Sess E F φ st w) (hp : φ b = some (cb, co)) :
    Sess E F φ st' w ∧ Ext φ st w φ st' w ∧ FrzRow (Bd F φ st') w cb co cs := by
  unfold frzBlk at h
  rw [get?_eq] at h
  split at h
  · rename_i cs0 hb
    split at h
    · rename_i cs' st1 h1
      rw [get?_eq] at h
      split at h
      · rename_i cs1 hb1
        simp at h; obtain ⟨rfl, rfl⟩ := h
        obtain ⟨cells, t, q1, q2⟩ := hS.blk b _ cb co hb hp
        obtain ⟨us, e1, e2, e3⟩ := pick_row (B := Bd F φ st) (w := w) (φ := φ) cs0 (fun j v => cells[co + j]? = some v) q2
        obtain ⟨a1, a2, a3⟩ := frzL_sound hf h1 hS e3
        rw [upd_eq]
        have hfor : ∀ (cb' co' : Nat), φ b = some (cb', co') → ORel E.P (Bd F φ (st1.set b (.frz cs'))) w φ cb' co' (.frz cs') := by
          intro cb' co' hp'
          rw [hp] at hp'; cases hp'
          have hown : Own φ st1 cb := ⟨b, _, co, hb1, rfl, hp⟩
          have hnot : ¬Bd F φ (st1.set b (.frz cs')) cb := by
            rintro (hF | ⟨x, ax, co', h2, h3, h4⟩)
            · exact (a1.fout cb hF).2 hown
            · rw [List.getElem?_set] at h2
              by_cases e : b = x
              · subst e; simp [lt_of_get hb1] at h2; subst h2; cases h3
              · simp [e] at h2
                exact e (a1.inj b x _ ax cb co co' hb1 rfl h2 h3 hp h4)
          refine ⟨hnot, cells, t, (0, 0), q1, fun j c hj => ?_⟩
          have hlt : j < us.length := by have := lt_of_get hj; have := a3.1; omega
          refine ⟨us[j], e2 j _ (List.getElem?_eq_getElem hlt), ?_⟩
          have hv := a3.2 j c _ hj (List.getElem?_eq_getElem hlt)
          refine hv.mono ⟨fun x hx hb => ⟨fun hb' => hb ?_, rfl⟩, Nat.le_refl _, fun _ c _ _ h => ⟨c, h, rfl⟩⟩ (fun _ _ h => h)
          rcases hb' with hF | ⟨y, ay, co', h2, h3, h4⟩
          · exact .inl hF
          · rw [List.getElem?_set] at h2
            by_cases e : b = y
            · subst e; simp [lt_of_get hb1] at h2; subst h2; cases h3
            · simp [e] at h2; exact .inr ⟨y, ay, co', h2, h3, h4⟩
        obtain ⟨r1, r2⟩ := a1.retire (ab' := .frz cs') hb1 rfl rfl hfor
        have := hfor cb co hp
        exact ⟨r1, a2.trans r2, this.1, this.2⟩
      · cases h
    · cases h
  · rename_i cs0 hb
    simp at h; obtain ⟨rfl, rfl⟩ := h
    have := hS.blk b _ cb co hb hp
    exact ⟨hS, Ext.refl _ _ _, this.1, this.2⟩
  · cases h

theorem FrzRow.iptr {B : Nat → Prop} {cb co off : Nat} {cs : List AV} (h : FrzRow B w cb co cs) : VRel B w phi0 (.iptr (dropN cs off)) (.pointer (some ⟨cb, co + off, none⟩)) := by
  obtain ⟨h1, cells, t, fz, h2, h3⟩ := h
  refine iptr_at (vs := fun j => cells.getD (co + j) .nilIface) h1 (heap_lt h2) (fun j c hj => ?_) (fun j c hj => ?_)
  · obtain ⟨v, e1, e2⟩ := h3 j c hj
    rw [cell_of_cells h2, e1]
    simp [Array.getD, e1]
    have : co + j < cells.size := by
      rcases Nat.lt_or_ge (co + j) cells.size with h | h
      · exact h
      · simp [Array.getElem?_eq_none h] at e1
    simp [this] at e1 ⊢
    exact e1.symm
  · obtain ⟨v, e1, e2⟩ := h3 j c hj
    have : co + j < cells.size := by
      rcases Nat.lt_or_ge (co + j) cells.size with h | h
      · exact h
      · simp [Array.getElem?_eq_none h] at e1
    simp [Array.getD, this] at e1 ⊢
    rw [e1]; exact e2

theorem frzV_sound : ∀ (n : Nat), FrzOk E F φ w (frzV n)
  | 0 => fun v st v' st' u h => by simp [frzV] at h
  | n + 1 => by
    intro v st v' st' u h hS hv
    have ih := frzV_sound n
    have easy : some (v, st) = some (v', st') → VRel (Bd F φ st) w phi0 v u → Sess E F φ st' w ∧ Ext φ st w φ st' w ∧ VRel (Bd F φ st') w phi0 v' u := by
      intro he hv0
      simp at he; obtain ⟨rfl, rfl⟩ := he
      exact ⟨hS, Ext.refl _ _ _, hv0⟩
    have lists : ∀ {cs : List AV} {us : Array Value}, cs.length = us.size → (∀ (j : Nat) x v, cs[j]? = some x → us[j]? = some v → VRel (Bd F φ st) w φ x v) → LRel (Bd F φ st) w φ cs us.toList :=
      fun hl hv => ⟨by simpa using hl, fun j x v hx hv' => hv j x v hx (by simpa using hv')⟩
    cases hv with
    | bool b => exact easy h (.bool b)
    | int k m => exact easy h (.int k m)
    | str l => exact easy h (.str l)
    | nilptr => exact easy h .nilptr
    | nilsl => exact easy h .nilsl
    | nilmap => exact easy h .nilmap
    | nilfn => exact easy h .nilfn
    | nilif => exact easy h .nilif
    | unk u => exact easy h (.unk u)
    | oint h1 h2 => exact easy h (.oint h1 h2)
    | ostr hn => exact easy h (.ostr hn)
    | iptr vs hb hl hc hv => exact easy h (.iptr vs hb hl hc hv)
    | isl vs hx hl hb hc hv => exact easy h (.isl vs hx hl hb hc hv)
    | map hp => simp [frzV] at h
    | yld hp => simp [frzV] at h
    | ptr hp =>
      rename_i b off cb co
      simp only [frzV, Option.map_eq_some_iff, Prod.mk.injEq] at h
      obtain ⟨⟨cs, st1⟩, h1, rfl, rfl⟩ := h
      obtain ⟨a1, a2, a3⟩ := frzBlk_sound ih h1 hS hp
      exact ⟨a1, a2, a3.iptr⟩
    | sl hp ho hl hxx hg =>
      rename_i b off len cap cb co o ccap
      simp only [frzV, Option.map_eq_some_iff, Prod.mk.injEq] at h
      obtain ⟨⟨cs, st1⟩, h1, rfl, rfl⟩ := h
      obtain ⟨a1, a2, a3⟩ := frzBlk_sound ih h1 hS hp
      refine ⟨a1, a2, ?_⟩
      have hcap : ∀ c, capOpt cap = some c → ccap = c := by
        intro c hc
        cases cap with
        | ex c' => simp [capOpt] at hc; subst hc; exact hxx _ rfl
        | gr z => simp [capOpt] at hc
      by_cases h0 : len = 0
      · subst h0
        simp only [if_true]
        exact .isl (fun _ => .nilIface) hcap (Nat.zero_le _) (fun e => absurd rfl e) (fun j c hj => by simp at hj) (fun j c hj => by simp at hj)
      · simp only [h0, if_false]
        have ho' : o = co + off := ho.resolve_left (by omega)
        subst ho'
        have := a3.iptr (off := off)
        cases this with
        | iptr vs hb hl' hc hv => exact .isl vs hcap hl (fun _ => ⟨hb, rfl⟩) hc hv
    | func ha hc hav hcv =>
      rename_i f a c a' c'
      simp only [frzV] at h
      split at h
      · rename_i a1 st1 h1
        simp only [Option.map_eq_some_iff, Prod.mk.injEq] at h
        obtain ⟨⟨c1, st2⟩, h2, rfl, rfl⟩ := h
        obtain ⟨p1, p2, p3⟩ := frzL_sound ih h1 hS (lists ha hav)
        obtain ⟨q1, q2, q3⟩ := frzL_sound ih h2 p1 (p2.list (lists hc hcv))
        refine ⟨q1, p2.trans q2, ?_⟩
        have p3' := q2.list0 p3
        exact .func (by have := p3'.1; simpa using this) (by have := q3.1; simpa using this)
          (fun j x v hx hv => p3'.2 j x v hx (by simpa using hv)) (fun j x v hx hv => q3.2 j x v hx (by simpa using hv))
      · cases h
    | iface hv =>
      simp only [frzV, Option.map_eq_some_iff, Prod.mk.injEq] at h
      obtain ⟨⟨v1, st1⟩, h1, rfl, rfl⟩ := h
      obtain ⟨p1, p2, p3⟩ := ih _ _ _ _ _ h1 hS hv
      exact ⟨p1, p2, .iface p3⟩
    | agg hl hv =>
      simp only [frzV, Option.map_eq_some_iff, Prod.mk.injEq] at h
      obtain ⟨⟨l1, st1⟩, h1, rfl, rfl⟩ := h
      obtain ⟨p1, p2, p3⟩ := frzL_sound ih h1 hS (lists hl hv)
      exact ⟨p1, p2, by simpa using VRel.of_list p3⟩
    | tup hl hv =>
      simp only [frzV, Option.map_eq_some_iff, Prod.mk.injEq] at h
      obtain ⟨⟨l1, st1⟩, h1, rfl, rfl⟩ := h
      obtain ⟨p1, p2, p3⟩ := frzL_sound ih h1 hS (lists hl hv)
      exact ⟨p1, p2, by simpa using VRel.of_list_tup p3⟩

end
end Go.Proofs.YtbjhjladdkbnmaaGreatDoor.Gx
