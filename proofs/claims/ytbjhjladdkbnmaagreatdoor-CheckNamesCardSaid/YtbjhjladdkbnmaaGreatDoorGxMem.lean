/-
  Soundness of the operations that make or write memory.
-/
import Derived.Test.YtbjhjladdkbnmaaGreatDoorGxPure5
namespace Go.Proofs.YtbjhjladdkbnmaaGreatDoor.Gx
open Go

/-! ### Writing a row -/
def writeArr (cells : Array Value) (k : Nat) : List Value → Array Value
  | [] => cells
  | u :: us => writeArr (cells.setIfInBounds k u) (k + 1) us

theorem writeArr_size : ∀ (us : List Value) (cells : Array Value) (k : Nat), (writeArr cells k us).size = cells.size
  | [], cells, k => rfl
  | u :: us, cells, k => by simp [writeArr, writeArr_size us]

theorem writeArr_get : ∀ (us : List Value) (cells : Array Value) (k j : Nat), k + us.length ≤ cells.size →
    (writeArr cells k us)[j]? = if k ≤ j ∧ j < k + us.length then us[j - k]? else cells[j]?
  | [], cells, k, j, _ => by rw [if_neg (by simp)]; rfl
  | u :: us, cells, k, j, h => by
    simp only [List.length_cons] at h
    simp only [writeArr]
    rw [writeArr_get us _ (k + 1) j (by simp; omega)]
    by_cases h1 : k + 1 ≤ j ∧ j < k + 1 + us.length
    · rw [if_pos h1, if_pos (by simp; omega)]
      have : j - k = (j - (k + 1)) + 1 := by omega
      rw [this]; simp
    · rw [if_neg h1, Array.getElem?_setIfInBounds]
      by_cases h2 : k = j
      · subst h2
        rw [if_pos rfl, if_pos (by omega), if_pos (by simp)]
        simp
      · rw [if_neg h2, if_neg (by simp; omega)]

/-- A value of one cell. -/
def oneV : Value → Prop
  | .agg _ | .tuple _ => False
  | _ => True

theorem VRel.oneV {B : Nat → Prop} {w : World} {φ : Phi} {v : AV} {u : Value} (h : VRel B w φ v u) (hc : isCell v = true) : oneV u := by
  cases h <;> first | trivial | (simp [isCell] at hc; done)

theorem LRel.oneV {B : Nat → Prop} {w : World} {φ : Phi} {l : List AV} {us : List Value} (h : LRel B w φ l us) (hc : l.all isCell = true) : ∀ u ∈ us, Gx.oneV u := by
  intro u hu
  obtain ⟨i, hi, rfl⟩ := List.getElem_of_mem hu
  have hl : i < l.length := by have := h.1; omega
  exact (h.2 i l[i] us[i] (List.getElem?_eq_getElem hl) (List.getElem?_eq_getElem hi)).oneV (List.all_eq_true.1 hc _ (List.getElem_mem hl))

theorem setCell_eq {w : World} {cb o : Nat} {cells : Array Value} {t : TypeId} {fz : Nat × Nat} (h : w.heap[cb]? = some (.cells cells t fz)) (v : Value) :
    w.setCell ⟨cb, o, none⟩ v = setAt w cb (.cells (cells.setIfInBounds o v) t fz) := by
  unfold World.setCell setAt
  have hlt := heap_lt h
  have hget : w.heap[cb] = .cells cells t fz := by simpa [Array.getElem?_eq_getElem hlt] using h
  congr 1
  apply Array.ext
  · simp
  · intro i h1 h2
    simp only [Array.getElem_modify]
    by_cases e : cb = i
    · subst e; simp [hget]
    · have := Array.getElem?_setIfInBounds_ne (xs := w.heap) (a := Obj.cells (cells.setIfInBounds o v) t fz) (i := cb) (j := i) e
      have h3 : i < w.heap.size := by simpa using h2
      rw [Array.getElem?_eq_getElem h2, Array.getElem?_eq_getElem h3] at this
      simp [e]
      exact (Option.some.inj this).symm

theorem run_store_cell {P : Program} {w : World} {cb o : Nat} {cells : Array Value} {t : TypeId} {u : Value} (h : w.heap[cb]? = some (.cells cells t (0, 0))) (ho : o < cells.size) (hu : oneV u) :
    (store ⟨cb, o, none⟩ u).run P w = .ok () (setAt w cb (.cells (cells.setIfInBounds o u) t (0, 0))) := by
  have h1 : w.cell? ⟨cb, o, none⟩ = some cells[o] := by rw [cell_of_cells h]; simp [ho]
  have h2 : w.frozen? ⟨cb, o, none⟩ = false := by simp [World.frozen?, h]
  have key : (store ⟨cb, o, none⟩ u).run P w = .ok () (w.setCell ⟨cb, o, none⟩ u) := by
    cases u <;> first | exact hu.elim | simp [store, Sem.run, h1, h2]
  rw [key, setCell_eq h]

theorem setAt_setAt (w : World) (cb : Nat) (o o' : Obj) : setAt (setAt w cb o) cb o' = setAt w cb o' := by simp [setAt]

theorem setAt_id {w : World} {cb : Nat} {o : Obj} (h : w.heap[cb]? = some o) : setAt w cb o = w := by
  unfold setAt
  have hlt := heap_lt h
  have hget : w.heap[cb] = o := by simpa [Array.getElem?_eq_getElem hlt] using h
  have : w.heap.setIfInBounds cb o = w.heap := by
    apply Array.ext
    · simp
    · intro i h1 h2
      by_cases e : cb = i
      · subst e; simp [hget]
      · have := Array.getElem?_setIfInBounds_ne (xs := w.heap) (a := o) (i := cb) (j := i) e
        rw [Array.getElem?_eq_getElem h1, Array.getElem?_eq_getElem h2] at this
        exact Option.some.inj this
  rw [this]

theorem run_storeCells {P : Program} {cb o : Nat} {t : TypeId} : ∀ (us : List Value) (i : Nat) (w : World) (cells : Array Value), w.heap[cb]? = some (.cells cells t (0, 0)) → o + i + us.length ≤ cells.size →
    (∀ u ∈ us, oneV u) → (storeCells ⟨cb, o, none⟩ us i).run P w = .ok () (setAt w cb (.cells (writeArr cells (o + i) us) t (0, 0)))
  | [], i, w, cells, h, _, _ => by simp [storeCells, writeArr, setAt_id h]
  | u :: us, i, w, cells, h, hl, hu => by
    simp only [List.length_cons] at hl
    have h1 := run_store_cell (P := P) (o := o + i) h (by omega) (hu u (by simp))
    have h2 := run_storeCells (P := P) (o := o) us (i + 1) _ _ (setAt_same (o' := .cells (cells.setIfInBounds (o + i) u) t (0, 0)) h) (by simp; omega) (fun x hx => hu x (by simp [hx]))
    simp [storeCells, addr_add, h1, h2, setAt_setAt, writeArr, Nat.add_assoc]

section
variable {E : Env} {F : Nat → Prop} {φ : Phi} {st : St} {w : World}

theorem goes_setAt {B : Nat → Prop} {cb : Nat} {o o' : Obj} (hb : B cb) (h : w.heap[cb]? = some o)
    (hsh : ∀ (cells : Array Value) (t : TypeId) (fz : Nat × Nat), o = .cells cells t fz → ∃ cells' : Array Value, o' = .cells cells' t fz ∧ cells'.size = cells.size) : Goes B w B (setAt w cb o') where
  keep x _ hx := ⟨hx, setAt_other w o' (fun e => hx (e ▸ hb))⟩
  size := by simp [setAt]
  shape x cells t fz hc := by
    by_cases e : cb = x
    · subst e
      rw [h] at hc; cases hc
      obtain ⟨c', e1, e2⟩ := hsh _ _ _ rfl
      exact ⟨c', by rw [setAt_same h, e1], e2⟩
    · exact ⟨cells, by rw [setAt_other w o' e]; exact hc, rfl⟩

/-- A row of an own block is written. -/
theorem write_sound (hS : Sess E F φ st w) {b off cb co : Nat} {cs cs' vs : List AV} {us : List Value} (hb : st[b]? = some (.own cs)) (hp : φ b = some (cb, co))
    (hw : writeAt cs off vs = some cs') (hv : LRel (Bd F φ st) w φ vs us) (hc : vs.all isCell = true) :
    ∃ w', (storeCells ⟨cb, co + off, none⟩ us).run E.P w = .ok () w' ∧ Sess E F φ (st.set b (.own cs')) w' ∧ Ext φ st w φ (st.set b (.own cs')) w' := by
  obtain ⟨cells, t, h1, h2⟩ := hS.blk b _ cb co hb hp
  obtain ⟨e1, e2, e3⟩ := writeAt_some _ _ _ _ hw
  have hlen := hv.1
  have hfit : vs = [] ∨ co + off + us.length ≤ cells.size := by
    by_cases hne : vs = []
    · exact .inl hne
    · right
      have h3 := e2 hne
      have : 0 < cs.length := by cases vs with
        | nil => exact absurd rfl hne
        | cons a l => simp at h3; omega
      obtain ⟨v, hv1, _⟩ := h2 (cs.length - 1) cs[cs.length - 1] (List.getElem?_eq_getElem (by omega))
      have : co + (cs.length - 1) < cells.size := by
        rcases Nat.lt_or_ge (co + (cs.length - 1)) cells.size with h | h
        · exact h
        · simp [Array.getElem?_eq_none h] at hv1
      omega
  rcases hfit with rfl | hfit
  · have hus : us = [] := hv.inv_nil
    subst hus
    have : cs' = cs := by cases cs <;> simp [writeAt] at hw <;> simp [hw]
    subst this
    have hst : st.set b (.own cs') = st := by
      have hlt := lt_of_get hb
      apply List.ext_getElem?
      intro i
      rw [List.getElem?_set]
      by_cases e : b = i
      · subst e; simp [hlt]; simpa [List.getElem?_eq_getElem hlt] using hb.symm
      · simp [e]
    rw [hst]
    exact ⟨w, by simp [storeCells], hS, Ext.refl _ _ _⟩
  · have hrun := run_storeCells (P := E.P) us 0 w cells (o := co + off) h1 (by omega) (hv.oneV hc)
    simp only [Nat.add_zero] at hrun
    refine ⟨_, hrun, ?_⟩
    have hown : Own φ st cb := ⟨b, _, co, hb, rfl, hp⟩
    refine hS.change hb rfl rfl hp (fun c t' fz hc => ?_) ?_
    · rw [h1] at hc; cases hc; exact ⟨_, rfl, writeArr_size _ _ _⟩
    · have g : Goes (Bd F φ st) w (Bd F φ st) (setAt w cb (.cells (writeArr cells (co + off) us) t (0, 0))) :=
        goes_setAt (.inr hown) h1 (fun c t' fz hc => by cases hc; exact ⟨_, rfl, writeArr_size _ _ _⟩)
      refine ⟨_, t, setAt_same h1, fun j c hj => ?_⟩
      rw [e3 j] at hj
      rw [writeArr_get us cells (co + off) (co + j) hfit]
      by_cases hr : off ≤ j ∧ j < off + vs.length
      · rw [if_pos hr] at hj
        rw [if_pos (by omega), show co + j - (co + off) = j - off by omega]
        have hlt : j - off < us.length := by omega
        exact ⟨us[j - off], List.getElem?_eq_getElem hlt, (hv.2 (j - off) c _ hj (List.getElem?_eq_getElem hlt)).mono g (fun _ _ h => h)⟩
      · rw [if_neg hr] at hj
        rw [if_neg (by omega)]
        obtain ⟨v, hv1, hv2⟩ := h2 j c hj
        exact ⟨v, hv1, hv2.mono g (fun _ _ h => h)⟩

theorem storeE_sound (hS : Sess E F φ st w) {t : TypeId} {a v : AV} {ua uv : Value} {st' : St} (h : storeE E.P st t a v = some st') (ha : VRel (Bd F φ st) w φ a ua) (hv : VRel (Bd F φ st) w φ v uv) :
    ∃ w', (Instr.storeAt t ua uv).run E.P w = .ok () w' ∧ Sess E F φ st' w' ∧ Ext φ st w φ st' w' := by
  unfold storeE at h
  split at h
  · rename_i b off
    rw [get?_eq] at h
    split at h
    · rename_i cs hb
      split at h
      · rename_i hcond
        simp only [Bool.and_eq_true, decide_eq_true_eq] at hcond
        obtain ⟨hc1, hc2⟩ := hcond
        simp at h
        obtain ⟨cs', hw, rfl⟩ := h
        cases ha with
        | ptr hp =>
          rename_i cb co
          obtain ⟨w', h1, h2, h3⟩ := write_sound hS hb hp hw (hv.cells (ne_unk hc2)) hc2
          refine ⟨w', ?_, by rw [upd_eq]; exact h2, by rw [upd_eq]; exact h3⟩
          have hlen : uv.cells.size = (cellsOf v).length := by have := (hv.cells (ne_unk hc2)).1; simp at this; omega
          simp [Instr.storeAt, Instr.sureAddr, storeVar, run_size hc1, hlen, h1]
      · cases h
    · cases h
  · cases h

/-! ### New blocks -/
theorem rep_get (z : List AV) : ∀ (n : Nat), (rep z n).length = n * z.length
  | 0 => by simp [rep]
  | n + 1 => by simp [rep, rep_get z n, Nat.add_mul]; omega

theorem rep_sound {B : Nat → Prop} {z : List AV} {uz : Array Value} (h : LRel B w φ z uz.toList) : ∀ (n : Nat),
    LRel B w φ (rep z n) ((Array.range (n * uz.size)).map (uz[· % uz.size]!)).toList := by
  intro n
  have hsz : z.length = uz.size := by have := h.1; simpa using this
  refine ⟨by simp [rep_get, hsz], fun j x v hx hv => ?_⟩
  have key : ∀ (n j : Nat) x, (rep z n)[j]? = some x → z[j % z.length]? = some x := by
    intro n
    induction n with
    | zero => intro j x hx; simp [rep] at hx
    | succ n ih =>
      intro j x hx
      simp only [rep] at hx
      rcases Nat.lt_or_ge j z.length with hl | hl
      · rw [List.getElem?_append_left hl] at hx
        rwa [Nat.mod_eq_of_lt hl]
      · rw [List.getElem?_append_right hl] at hx
        have := ih _ x hx
        rwa [Nat.mod_eq_sub_mod hl]
  have hx' := key n j x hx
  simp at hv
  obtain ⟨j', hj', rfl⟩ := hv
  obtain ⟨hlt, rfl⟩ : j < n * uz.size ∧ j = j' := by
    rcases Nat.lt_or_ge j (n * uz.size) with hl | hl
    · rw [List.getElem?_range hl] at hj'; simp at hj'; exact ⟨hl, hj'⟩
    · rw [List.getElem?_eq_none (by simpa using hl)] at hj'; cases hj'
  have hpos : 0 < uz.size := by
    rcases Nat.eq_zero_or_pos uz.size with h0 | h0
    · rw [h0] at hlt; simp at hlt
    · exact h0
  have hm : j % uz.size < uz.size := Nat.mod_lt _ hpos
  have : uz.toList[j % uz.size]? = some uz[j % uz.size]! := by simp [hm, getElem!_pos uz (j % uz.size) hm]
  exact h.2 _ x _ (by rw [← hsz]; exact hx') this

/-- A new block of cells. -/
theorem own_new {P : Program} {B' : Nat → Prop} {cs : List AV} {us : List Value} {t : TypeId} {φ' : Phi} (g : Goes (Bd F φ st) w B' (pushed w (.cells us.toArray t))) (hp : ∀ b x, φ b = some x → φ' b = some x)
    (h : LRel (Bd F φ st) w φ cs us) : ORel P B' (pushed w (.cells us.toArray t)) φ' w.heap.size 0 (.own cs) := by
  refine ⟨us.toArray, t, pushed_new w _, fun j c hj => ?_⟩
  have hlt : j < us.length := by have := lt_of_get hj; have := h.1; omega
  exact ⟨us[j], by simp [hlt], (h.2 j c _ hj (List.getElem?_eq_getElem hlt)).mono g hp⟩

theorem wrap_i64 {n : Int} (h0 : 0 ≤ n) (h1 : n < 9223372036854775808) : IntKind.i64.wrap n = n := by
  simp [IntKind.wrap, IntKind.signed, IntKind.bits]; split <;> omega

/-- What an operation that makes a block comes to. -/
def Makes (E : Env) (F : Nat → Prop) (φ : Phi) (st : St) (w : World) (s : Sem Next) (ab : AB) (mk : Nat → AV) : Prop :=
  live ab = true ∧ ∃ obj u, s.run E.P w = .ok (.value u) (pushed w obj) ∧
    ∀ (b : Nat) (φ' : Phi) (B' : Nat → Prop), (∀ b x, φ b = some x → φ' b = some x) → φ' b = some (w.heap.size, 0) → Goes (Bd F φ st) w B' (pushed w obj) →
      ORel E.P B' (pushed w obj) φ' w.heap.size 0 ab ∧ VRel B' (pushed w obj) φ' (mk b) u

theorem pushed_eq (w : World) (o : Obj) : ({ w with heap := w.heap.push o } : World) = pushed w o := rfl

theorem ownIf_some {cs : List AV} {mk : Nat → AV} {ab : AB} {mk' : Nat → AV} (h : ownIf cs mk = some (ab, mk')) : cs.all isCell = true ∧ ab = .own cs ∧ mk' = mk := by
  unfold ownIf at h
  split at h
  · rename_i hc; simp at h; exact ⟨hc, h.1.symm, h.2.symm⟩
  · cases h

theorem makes_ptr {s : Sem Next} {cs : List AV} {us : List Value} {t : TypeId} (hl : LRel (Bd F φ st) w φ cs us)
    (hr : s.run E.P w = .ok (.value (.pointer (some ⟨w.heap.size, 0, none⟩))) (pushed w (.cells us.toArray t))) : Makes E F φ st w s (.own cs) ptrTo :=
  ⟨rfl, _, _, hr, fun b φ' B' hle hb g => ⟨own_new g hle hl, by have := VRel.ptr (B := B') (w := pushed w (.cells us.toArray t)) (off := 0) hb; simpa [ptrTo] using this⟩⟩

theorem makes_sl {s : Sem Next} {cs : List AV} {us : List Value} {t : TypeId} {len cap : Nat} (hl : LRel (Bd F φ st) w φ cs us) (hle : len ≤ cap)
    (hr : s.run E.P w = .ok (.value (.slice (some ⟨w.heap.size, 0, none⟩) len cap)) (pushed w (.cells us.toArray t))) : Makes E F φ st w s (.own cs) (slTo len cap) :=
  ⟨rfl, _, _, hr, fun b φ' B' hle' hb g => ⟨own_new g hle' hl, .sl hb (.inr rfl) hle (fun c e => by cases e; rfl) (fun sz e => by cases e)⟩⟩

theorem allocOp_sound (hS : Sess E F φ st w) {fr : Fr} {tmps : Array Value} (hT : LRel (Bd F φ st) w φ fr.tm tmps.toList) {o : Oper} {ab : AB} {mk : Nat → AV} (h : allocOp o.op E fr = some (ab, mk)) :
    Makes E F φ st w (execOp (evalT tmps) o) ab mk := by
  obtain ⟨dst, op, ty, pos, after, guard⟩ := o
  simp only at h
  cases op <;> simp only [allocOp, noneA] at h <;> first | (cases h; done) | skip
  case alloc t =>
    unfold allocF at h
    split at h
    · rename_i z hz
      obtain ⟨_, rfl, rfl⟩ := ownIf_some h
      obtain ⟨uz, h1, h2⟩ := run_zero (w := w) hz
      refine makes_ptr (us := uz.cells.toList) (t := t) ((ofV_rel h2).cells (ofV_ne h2)) ?_
      simp [execOp, Instr.alloc, h1, newVar, newRow, pushed]
    · cases h
  case box t x =>
    unfold boxF at h
    split at h
    · rename_i v hv
      obtain ⟨hic, rfl, rfl⟩ := ownIf_some h
      refine makes_ptr (us := (evalT tmps x).cells.toList) (t := t) ((ev_sound hS hT hv).cells (ne_unk hic)) ?_
      simp [execOp, Instr.box, newVar, newRow, pushed]
    · cases h
  case buildSlice t len parts =>
    unfold bslF at h
    split at h
    · rename_i ps hps
      split at h
      · rename_i cs hcs
        simp at h; obtain ⟨rfl, rfl⟩ := h
        unfold buildSliceE at hcs
        split at hcs
        · rename_i e hu
          split at hcs
          · rename_i s z hs hz
            split at hcs
            · rename_i hcond
              simp only [Bool.and_eq_true, decide_eq_true_eq] at hcond
              obtain ⟨uz, h1, h2⟩ := run_zero (w := w) hz
              have hzc : LRel (Bd F φ st) w φ (cellsOf z) uz.cells.toList := ((ofV_rel h2).cells (ofV_ne h2))
              have hzs : uz.cells.size = s := by have := hzc.1; simp at this; omega
              obtain ⟨res, h3, h4⟩ := fillE_sound hcs (evp_sound hS hT hps) (rep_sound hzc len)
              refine makes_sl (us := res.toList) (t := e) h4 (Nat.le_refl _) ?_
              have hle : ¬(len * s > 2 ^ 24) := by omega
              by_cases h0 : len * s = 0
              · have h5 : (Array.range (len * uz.cells.size)).map (uz.cells[· % uz.cells.size]!) = #[] := by rw [hzs, h0]; simp
                rw [h5] at h3
                simp [execOp, Instr.buildSlice, run_und hu, run_size hs, hle, h0, newRow, pushed]
                have h6 : (Array.range 0).map (fun _ => (default : Value)) = #[] := by simp
                have h3' : Instr.fill (fun i => some (i * s, s)) #[] (parts.toList.map fun x => (x.fst, evalT tmps x.snd)) = some res := h3
                rw [h6, h3']; simp
              · rw [hzs] at h3
                simp [execOp, Instr.buildSlice, run_und hu, run_size hs, hle, h0, h1, newRow, pushed]
                rw [hzs]
                have h3' : Instr.fill (fun i => some (i * s, s)) ((Array.range (len * s)).map (uz.cells[· % s]!)) (parts.toList.map fun x => (x.fst, evalT tmps x.snd)) = some res := h3
                rw [h3']; simp
            · cases hcs
          · cases hcs
        · cases hcs
      · cases h
    · cases h
  case makeSlice t l c =>
    unfold mslF at h
    split at h
    · rename_i l' c' hl hc
      split at h
      · rename_i cs ln cp hm
        simp at h; obtain ⟨rfl, rfl⟩ := h
        unfold makeSliceE at hm
        split at hm
        · rename_i e k1 l0 k2 c0 hu
          split at hm
          · rename_i i z hi hz
            split at hm
            · rename_i hcond
              simp only [Bool.and_eq_true, decide_eq_true_eq] at hcond
              obtain ⟨⟨⟨c1, c2⟩, c3⟩, c4⟩ := hcond
              simp at hm
              obtain ⟨rfl, rfl, rfl⟩ := hm
              have vl := ev_sound hS hT hl
              have vc := ev_sound hS hT hc
              generalize hul : evalT tmps l = ul at vl
              generalize huc : evalT tmps c = uc at vc
              cases vl; cases vc
              obtain ⟨uz, h1, h2⟩ := run_zero (w := w) hz
              have hzc : LRel (Bd F φ st) w φ (cellsOf z) uz.cells.toList := ((ofV_rel h2).cells (ofV_ne h2))
              have hzs : uz.cells.size = i.size := by have := hzc.1; simp at this; omega
              have hrep := rep_sound hzc c0
              refine makes_sl (us := ((Array.range (c0 * uz.cells.size)).map (uz.cells[· % uz.cells.size]!)).toList) (t := e) hrep c1 ?_
              have w1 : IntKind.i64.wrap (l0 : Int) = l0 := wrap_i64 (by omega) (by omega)
              have w2 : IntKind.i64.wrap (c0 : Int) = c0 := wrap_i64 (by omega) (by omega)
              have b0 : (i.bytes : Int) * (c0 : Int) = ((c0 * i.bytes : Nat) : Int) := by rw [Nat.mul_comm]; simp
              have b1 : ¬(281474976710656 < (i.bytes : Int) * (c0 : Int)) := by rw [b0]; omega
              have hs : szOf E.P e = some i.size := by simp [szOf, hi]
              have b4 : ¬((l0 : Int) > (c0 : Int)) := by omega
              have hcnd : ¬(((c0 : Int) < 0 ∨ 281474976710656 < (i.bytes : Int) * (c0 : Int)) ∨ (l0 : Int) < 0) := by
                rintro ((h | h) | h)
                · omega
                · exact b1 h
                · omega
              by_cases h0 : c0 * i.size = 0
              · rw [hzs, h0]
                simp [execOp, Instr.makeSlice, run_und hu, hul, huc, asInt, asIntOf, run_info hi, w1, w2, b4, run_size hs, h0, newRow, pushed]
                rw [if_neg hcnd]
                have h6 : (Array.range 0).map (fun _ => (default : Value)) = #[] := by simp
                simp [h6]
              · simp [execOp, Instr.makeSlice, run_und hu, hul, huc, asInt, asIntOf, run_info hi, w1, w2, b4, run_size hs, h0, h1, newRow, pushed, hzs]
                rw [if_neg hcnd]
                have h6 : (Array.range (c0 * i.size)).map (uz.cells[· % i.size]!) = ((List.range (c0 * i.size)).map (uz.cells[· % i.size]!)).toArray := by
                  apply Array.ext'; simp
                simp [h6]
            · cases hm
          · cases hm
        · cases hm
      · cases h
    · cases h
  case makeMap t r =>
    unfold mmapF at h
    split at h
    · simp at h; obtain ⟨rfl, rfl⟩ := h
      refine ⟨rfl, .map #[] 0, .map (some w.heap.size), by simp [execOp, Instr.makeMap, pushed], fun b φ' B' hle hb g => ⟨⟨#[], pushed_new w _, rfl, fun j e c he => by simp at he⟩, .map hb⟩⟩
    · cases h

end
end Go.Proofs.YtbjhjladdkbnmaaGreatDoor.Gx
