/-
  Soundness of a region that draws its order.
-/
import Derived.Test.YtbjhjladdkbnmaaGreatDoorGxCongr
import Derived.Orders
namespace Go.Proofs.YtbjhjladdkbnmaaGreatDoor.Gx
open Go

/-! ### What the looks at a region give -/
theorem waitsOn_iff {o : Oper} {q : Nat} : waitsOn o q = true ↔ ∃ e ∈ o.after, Region.binds .any e = true ∧ e.on = q := by
  simp only [waitsOn, List.any_eq_true, Bool.and_eq_true, Array.mem_toList_iff]
  constructor
  · rintro ⟨e, h1, h2, h3⟩; exact ⟨e, h1, h2, Nat.eq_of_beq_eq_true h3⟩
  · rintro ⟨e, h1, h2, rfl⟩; exact ⟨e, h1, h2, Nat.beq_refl _⟩

theorem readyB_iff {o : Oper} {l : List Bool} : readyB o l = true ↔ ∀ q, waitsOn o q = true → bit l q = true := by
  simp only [readyB, List.all_eq_true, Bool.or_eq_true, Bool.not_eq_true']
  constructor
  · intro h q hq
    obtain ⟨e, he, hb, rfl⟩ := waitsOn_iff.1 hq
    rcases h e (by simpa using he) with h1 | h1
    · rw [hb] at h1; cases h1
    · exact h1
  · intro h e he
    cases hb : Region.binds .any e with
    | false => exact .inl rfl
    | true => exact .inr (h e.on (waitsOn_iff.2 ⟨e, by simpa using he, hb, rfl⟩))

theorem bit_eq : ∀ (l : List Bool) (i : Nat), bit l i = (l[i]?).getD false
  | [], _ => by simp [bit]
  | b :: l, 0 => by simp [bit]
  | b :: l, n + 1 => by simp [bit, bit_eq l n]

theorem mem_readyL {listed : List Bool} : ∀ {ops : List Oper} {bs : List Bool} {k i : Nat}, ops.length = bs.length → (i ∈ readyL listed ops bs k ↔ k ≤ i ∧ ∃ o, ops[i - k]? = some o ∧ bit bs (i - k) = false ∧ readyB o listed = true)
  | [], bs, k, i, _ => by simp [readyL]
  | o :: ops, [], k, i, h => by simp at h
  | o :: ops, b :: bs, k, i, h => by
    have ih := mem_readyL (listed := listed) (ops := ops) (bs := bs) (k := k + 1) (i := i) (by simpa using h)
    unfold readyL
    have key : i ∈ readyL listed ops bs (k + 1) ↔ k < i ∧ ∃ o', (o :: ops)[i - k]? = some o' ∧ bit (b :: bs) (i - k) = false ∧ readyB o' listed = true := by
      rw [ih]
      constructor
      · rintro ⟨h1, o', h2, h3, h4⟩
        have e : i - k = (i - (k + 1)) + 1 := by omega
        exact ⟨by omega, o', by rw [e]; simpa using h2, by rw [e]; simpa [bit] using h3, h4⟩
      · rintro ⟨h1, o', h2, h3, h4⟩
        have e : i - k = (i - (k + 1)) + 1 := by omega
        rw [e] at h2 h3
        exact ⟨by omega, o', by simpa using h2, by simpa [bit] using h3, h4⟩
    split
    · rename_i hc
      simp only [Bool.and_eq_true, Bool.not_eq_true'] at hc
      rw [List.mem_cons, key]
      constructor
      · rintro (rfl | ⟨h1, h2⟩)
        · exact ⟨Nat.le_refl _, o, by simp, by simp [bit, hc.1], hc.2⟩
        · exact ⟨by omega, h2⟩
      · rintro ⟨h1, o', h2, h3, h4⟩
        by_cases e : i = k
        · exact .inl e
        · exact .inr ⟨by omega, o', h2, h3, h4⟩
    · rename_i hc
      rw [key]
      constructor
      · rintro ⟨h1, h2⟩; exact ⟨by omega, h2⟩
      · rintro ⟨h1, o', h2, h3, h4⟩
        by_cases e : i = k
        · subst e
          simp at h2; subst h2
          simp [bit] at h3
          simp [h3, h4] at hc
        · exact ⟨by omega, o', h2, h3, h4⟩

theorem firstQ_some {ops : List Oper} : ∀ {is : List Nat} {i : Nat} {o : Oper}, firstQ ops is = some (i, o) → i ∈ is ∧ ops[i]? = some o ∧ kindOf o.op ≠ .eff
  | [], i, o, h => by simp [firstQ] at h
  | j :: is, i, o, h => by
    unfold firstQ at h
    rw [get?_eq] at h
    split at h
    · rename_i o' ho
      split at h
      · obtain ⟨h1, h2, h3⟩ := firstQ_some h
        exact ⟨by simp [h1], h2, h3⟩
      · rename_i hk
        simp at h; obtain ⟨rfl, rfl⟩ := h
        exact ⟨by simp, ho, hk⟩
    · cases h

structure Ssa (ops : List Oper) : Prop where
  reads : ∀ (p q : Nat) op oq d, ops[p]? = some op → ops[q]? = some oq → oq.dst = some d → d ∈ looks ops op → waitsOn op q = true
  once : ∀ (p q : Nat) op oq d, ops[p]? = some op → ops[q]? = some oq → op.dst = some d → oq.dst = some d → p = q
  edge : ∀ (i : Nat) o q, ops[i]? = some o → waitsOn o q = true → q < i

theorem readsOk_spec {ts : List Tmp} {o : Oper} : ∀ {qs : List Oper} {k : Nat}, readsOk ts o qs k = true → ∀ (q : Nat) oq d, qs[q]? = some oq → oq.dst = some d → d ∈ ts → waitsOn o (k + q) = true
  | [], k, h, q, oq, d, hq, _, _ => by simp at hq
  | x :: qs, k, h, q, oq, d, hq, hd, hm => by
    unfold readsOk at h
    simp only [Bool.and_eq_true] at h
    cases q with
    | zero =>
      simp at hq; subst hq
      rw [hd] at h
      simp only [Bool.or_eq_true, Bool.not_eq_true'] at h
      rcases h.1 with h1 | h1
      · simp [hm] at h1
      · simpa using h1
    | succ q =>
      have := readsOk_spec h.2 q oq d (by simpa using hq) hd hm
      rwa [show k + (q + 1) = k + 1 + q by omega]

theorem onceOk_spec : ∀ {qs : List Oper}, onceOk qs = true → ∀ (p q : Nat) op oq d, qs[p]? = some op → qs[q]? = some oq → op.dst = some d → oq.dst = some d → p = q
  | [], h, p, q, op, oq, d, hp, _, _, _ => by simp at hp
  | x :: qs, h, p, q, op, oq, d, hp, hq, hdp, hdq => by
    unfold onceOk at h
    simp only [Bool.and_eq_true] at h
    have no : ∀ (r : Nat) or, qs[r]? = some or → or.dst = some d → x.dst = some d → False := by
      intro r or hr hdr hdx
      rw [hdx] at h
      have := List.all_eq_true.1 h.1 or (List.mem_of_getElem? hr)
      rw [hdr] at this
      simp at this
    cases p with
    | zero =>
      cases q with
      | zero => rfl
      | succ q => simp at hp; subst hp; exact (no q oq (by simpa using hq) hdq hdp).elim
    | succ p =>
      cases q with
      | zero => simp at hq; subst hq; exact (no p op (by simpa using hp) hdp hdq).elim
      | succ q => rw [onceOk_spec h.2 p q op oq d (by simpa using hp) (by simpa using hq) hdp hdq]

theorem edgesOk_spec : ∀ {os : List Oper} {k : Nat}, edgesOk os k = true → ∀ (i : Nat) o q, os[i]? = some o → waitsOn o q = true → q < k + i
  | [], k, h, i, o, q, ho, _ => by simp at ho
  | x :: os, k, h, i, o, q, ho, hw => by
    unfold edgesOk at h
    simp only [Bool.and_eq_true] at h
    cases i with
    | zero =>
      simp at ho; subst ho
      obtain ⟨e, he, hb, rfl⟩ := waitsOn_iff.1 hw
      have := List.all_eq_true.1 h.1 e (by simpa using he)
      rw [hb] at this
      simp [Nat.blt_eq] at this
      omega
    | succ i =>
      have := edgesOk_spec h.2 i o q (by simpa using ho) hw
      omega

theorem ssa_spec {ops : List Oper} (h : ssa ops = true) : Ssa ops := by
  unfold ssa at h
  simp only [Bool.and_eq_true] at h
  refine ⟨fun p q op oq d hp hq hd hm => ?_, onceOk_spec h.1.2, fun i o q ho hw => ?_⟩
  · have := readsOk_spec (List.all_eq_true.1 h.1.1 op (List.mem_of_getElem? hp)) q oq d hq hd hm
    simpa using this
  · have := edgesOk_spec h.2 i o q ho hw
    omega

theorem mem_looks {ops : List Oper} {o : Oper} {t : Tmp} (h : .tmp t ∈ o.op.operands) : t ∈ looks ops o := by
  unfold looks
  rw [List.mem_append]
  left
  rw [List.mem_filterMap]
  exact ⟨.tmp t, by simpa using h, rfl⟩

theorem guard_looks {ops : List Oper} {o : Oper} {j : Nat} {w : Bool} {d : Tmp} (hg : o.guard = some (j, w)) (hd : (get? ops j).bind (·.dst) = some d) : d ∈ looks ops o := by
  unfold looks
  rw [List.mem_append]
  right
  simp [hg, hd]

theorem wants_congr {ops : List Oper} {tm tm' : List AV} {o : Oper} (h : ∀ t ∈ looks ops o, nth tm t = nth tm' t) : wants ops tm o = wants ops tm' o := by
  unfold wants
  split
  · rfl
  · rename_i j w hg
    split
    · rename_i d hd; rw [h d (guard_looks hg hd)]
    · rfl

theorem nth_upd_ne {tm : List AV} {d t : Nat} {v : AV} (h : d ≠ t) : nth (upd tm d v) t = nth tm t := by
  rw [nth_eq, nth_eq, upd_eq, List.getElem?_set_ne h]

theorem nth_upd_self {tm : List AV} {d : Nat} {v : AV} (h : d < tm.length) : nth (upd tm d v) d = v := by
  rw [nth_eq, upd_eq]; simp [h]

theorem put_tm {fr : Fr} {dst : Option Tmp} {v : AV} : (put fr dst v).tm = (match dst with | some d => upd fr.tm d v | none => fr.tm) := by
  obtain ⟨tm, df, rc, ro⟩ := fr
  cases dst <;> rfl

theorem put_tm_ne {fr : Fr} {dst : Option Tmp} {v : AV} {t : Nat} (h : dst ≠ some t) : nth (put fr dst v).tm t = nth fr.tm t := by
  rw [put_tm]
  cases dst with
  | none => rfl
  | some d => exact nth_upd_ne (fun e => h (by rw [e]))

theorem put_len {fr : Fr} {dst : Option Tmp} {v : AV} : (put fr dst v).tm.length = fr.tm.length := by
  rw [put_tm]; cases dst <;> simp [upd_eq]

/-! ### The order that the tape draws -/
/-- What is left of the order. -/
def todoL (ops : Array Oper) (f t : Nat) (D : Array Bool) : List Nat := Region.linearise.go .any ops f t D []

theorem todoL_cases (ops : Array Oper) (f t : Nat) (D : Array Bool) :
    (todoL ops f t D = [] ∧ (f = 0 ∨ Region.ready .any ops D = [])) ∨ ∃ f' t' i, f = f' + 1 ∧ i ∈ Region.ready .any ops D ∧ todoL ops f t D = i :: todoL ops f' t' (D.setIfInBounds i true) := by
  cases f with
  | zero => exact .inl ⟨rfl, .inl rfl⟩
  | succ f =>
    have hdef : todoL ops (f + 1) t D = (match (Region.ready .any ops D)[t % (Region.ready .any ops D).length]? with
      | some i => Region.linearise.go .any ops f (t / (Region.ready .any ops D).length) (D.setIfInBounds i true) [i]
      | none => []) := rfl
    cases hi : (Region.ready .any ops D)[t % (Region.ready .any ops D).length]? with
    | none =>
      left
      rw [hdef, hi]
      refine ⟨rfl, .inr ?_⟩
      cases hr : Region.ready .any ops D with
      | nil => rfl
      | cons x xs =>
        rw [hr] at hi
        have hlt : t % (x :: xs).length < (x :: xs).length := Nat.mod_lt _ (by simp)
        rw [List.getElem?_eq_getElem hlt] at hi
        cases hi
    | some i =>
      right
      refine ⟨f, t / (Region.ready .any ops D).length, i, rfl, List.mem_of_getElem? hi, ?_⟩
      rw [hdef, hi]
      simp only
      rw [linearise_go_acc]
      rfl

theorem ready_spec {ops : Array Oper} {D : Array Bool} {i : Nat} (h : i ∈ Region.ready .any ops D) : ∃ o, ops[i]? = some o ∧ i < D.size ∧ D.getD i false = false ∧ ∀ q, waitsOn o q = true → D.getD q false = true := by
  unfold Region.ready at h
  rw [List.mem_filter] at h
  obtain ⟨h1, h2⟩ := h
  simp only [Bool.and_eq_true, Bool.not_eq_true'] at h2
  obtain ⟨h3, h4⟩ := h2
  cases ho : ops[i]? with
  | none => rw [ho] at h4; simp at h4
  | some o =>
    rw [ho] at h4
    have hlt : i < D.size := by
      rcases Nat.lt_or_ge i D.size with hl | hl
      · exact hl
      · simp [Array.getD, Nat.not_lt.2 hl] at h3
    refine ⟨o, rfl, hlt, by simpa [Array.getD, hlt] using h3, fun q hq => ?_⟩
    obtain ⟨e, he, hb, rfl⟩ := waitsOn_iff.1 hq
    simp only [Option.map_some, Option.getD_some] at h4
    have := (Array.all_eq_true_iff_forall_mem.1 h4) e he
    rw [hb] at this
    simpa using this

/-- While not all are done, one may come up. -/
theorem ready_ex {ops : Array Oper} {D : Array Bool} (hssa : Ssa ops.toList) (hsz : D.size = ops.size) {i : Nat} (hi : i < D.size) (hf : D.getD i false = false) : Region.ready .any ops D ≠ [] := by
  induction i using Nat.strongRecOn with
  | _ i ih =>
    have ho : ops[i]? = some (ops[i]'(by omega)) := Array.getElem?_eq_getElem (by omega)
    by_cases hall : ∀ q, waitsOn (ops[i]'(by omega)) q = true → D.getD q false = true
    · intro he
      have hm : i ∈ Region.ready .any ops D := by
        unfold Region.ready
        rw [List.mem_filter]
        refine ⟨by simp; omega, ?_⟩
        simp only [Bool.and_eq_true, Bool.not_eq_true']
        refine ⟨by simpa [Array.getD, hi] using hf, ?_⟩
        rw [ho]
        simp only [Option.map_some, Option.getD_some]
        rw [Array.all_eq_true_iff_forall_mem]
        intro e hme
        cases hb : Region.binds .any e with
        | false => rfl
        | true => rw [hall e.on (waitsOn_iff.2 ⟨e, hme, hb, rfl⟩)]; rfl
      rw [he] at hm
      simp at hm
    · simp only [Classical.not_forall] at hall
      obtain ⟨q, hq, hnot⟩ := hall
      have hlt := hssa.edge i _ q (by simp) hq
      exact ih q hlt (by omega) (by simpa using hnot)

/-! ### The invariant -/
/-- An operation that the evaluator has carried out, and the machine has not yet. -/
def PQ (E : Env) (ops : List Oper) (n0 : Nat) (frA : Fr) (stA : St) (φ : Phi) (ps : List Pend) (i : Nat) (o : Oper) : Prop :=
  ∃ r, (∀ d, o.dst = some d → d < frA.tm.length → nth frA.tm d = r) ∧
    ((wants ops frA.tm o = some false ∧ r = .tup []) ∨
     (wants ops frA.tm o = some true ∧ kindOf o.op = .pure ∧ pureOp o.op E frA stA = some r ∧ ∃ p, pendOf i o.op E frA r = some p ∧ ∀ x ∈ p, x ∈ ps) ∨
     (wants ops frA.tm o = some true ∧ kindOf o.op = .alloc ∧ ∃ ab mk b, allocOp o.op E frA = some (ab, mk) ∧ r = mk b ∧ stA[b]? = some ab ∧ φ b = none ∧ n0 ≤ b ∧ Pend.blk i b ab ∈ ps))

structure DInv (E : Env) (F : Nat → Prop) (ops : List Oper) (φ0 : Phi) (st0 : St) (w0 : World) (kd : CallKind) (ro : Option Nat) (df : List Deferred) (cs : List Frame)
    (lA : List Bool) (ps : List Pend) (frA : Fr) (stA : St) (D : Array Bool) (φ : Phi) (w : World) (tmps : Array Value) (frD : Fr) : Prop where
  lenA : lA.length = ops.length
  lenD : D.size = ops.length
  sub : ∀ i, D.getD i false = true → bit lA i = true
  clA : ∀ (i : Nat) o, bit lA i = true → ops[i]? = some o → ∀ q, waitsOn o q = true → bit lA q = true
  sess : Sess E F φ stA w
  ext : Ext0 φ0 st0 w0 φ stA w
  old : ∀ b, b < st0.length → φ b = φ0 b
  fr : FRel (Bd F φ stA) w φ frD kd ro tmps df cs
  df : frD.df = frA.df
  rc : frD.rc = frA.rc
  ro : frD.ro = frA.ro
  len : frD.tm.length = frA.tm.length
  tm : ∀ t, (∃ (i : Nat) (o : Oper), ops[i]? = some o ∧ o.dst = some t ∧ bit lA i = true ∧ D.getD i false = false) ∨ nth frD.tm t = nth frA.tm t
  pend : ∀ (i : Nat) o, ops[i]? = some o → bit lA i = true → D.getD i false = false → PQ E ops st0.length frA stA φ ps i o
  psb : ∀ i b ab, Pend.blk i b ab ∈ ps → b < stA.length
  psi : ∀ i j b ab ab', Pend.blk i b ab ∈ ps → Pend.blk j b ab' ∈ ps → i = j

section
variable {E : Env} {F : Nat → Prop} {ops : List Oper} {φ0 : Phi} {st0 : St} {w0 : World} {kd : CallKind} {ro : Option Nat} {df : List Deferred} {cs : List Frame}
  {lA : List Bool} {ps : List Pend} {frA : Fr} {stA : St} {D : Array Bool} {φ : Phi} {w : World} {tmps : Array Value} {frD : Fr}

theorem bit_upd_self {l : List Bool} {i : Nat} (h : i < l.length) : bit (upd l i true) i = true := by
  rw [bit_eq, upd_eq]; simp [h]
theorem bit_upd_ne {l : List Bool} {i j : Nat} (h : i ≠ j) : bit (upd l i true) j = bit l j := by
  rw [bit_eq, bit_eq, upd_eq, List.getElem?_set_ne h]
theorem bit_upd_mono {l : List Bool} {i j : Nat} (h : bit l j = true) : bit (upd l i true) j = true := by
  by_cases e : i = j
  · subst e
    have : i < l.length := by
      rcases Nat.lt_or_ge i l.length with hl | hl
      · exact hl
      · rw [bit_eq, List.getElem?_eq_none hl] at h; simp at h
    exact bit_upd_self this
  · rw [bit_upd_ne e]; exact h

/-- What an operation looks at is as the evaluator has it, once the machine has done all that it waits for. -/
theorem DInv.agree (hI : DInv E F ops φ0 st0 w0 kd ro df cs lA ps frA stA D φ w tmps frD) (hssa : Ssa ops) {i : Nat} {o : Oper} (ho : ops[i]? = some o) (hr : ∀ q, waitsOn o q = true → D.getD q false = true) :
    ∀ t ∈ looks ops o, nth frD.tm t = nth frA.tm t := by
  intro t ht
  rcases hI.tm t with ⟨j, oj, hj, hd, _, hD⟩ | h
  · have := hr j (hssa.reads i j o oj t ho hj hd ht)
    rw [hD] at this; cases this
  · exact h

/-- A pending operation stays one while another is written into the frame and the memory grows. -/
theorem PQ.other {n0 : Nat} {i j : Nat} {o oj : Oper} {v : AV} {stA' : St} {ps' : List Pend} {φ' : Phi} (hssa : Ssa ops) (hj : ops[j]? = some oj) (ho : ops[i]? = some o) (hne : j ≠ i) (hlook : ∀ d, o.dst = some d → d ∉ looks ops oj)
    (h : PQ E ops n0 frA stA φ ps j oj)
    (hpure : ∀ r, kindOf oj.op = .pure → pureOp oj.op E frA stA = some r → (∃ p, pendOf j oj.op E frA r = some p ∧ ∀ x ∈ p, x ∈ ps) → pureOp oj.op E frA stA' = some r ∧ (∃ p, pendOf j oj.op E frA r = some p ∧ ∀ x ∈ p, x ∈ ps'))
    (halloc : ∀ b ab, stA[b]? = some ab → φ b = none → n0 ≤ b → Pend.blk j b ab ∈ ps → stA'[b]? = some ab ∧ φ' b = none ∧ Pend.blk j b ab ∈ ps') :
    PQ E ops n0 (put frA o.dst v) stA' φ' ps' j oj := by
  obtain ⟨r, h1, h2⟩ := h
  have hag : ∀ x ∈ oj.op.operands, Agr frA (put frA o.dst v) x := by
    intro x hx t e
    subst e
    exact (put_tm_ne (fun e => hlook t e (mem_looks hx))).symm
  have hw : wants ops (put frA o.dst v).tm oj = wants ops frA.tm oj := wants_congr (fun t ht => put_tm_ne (fun e => hlook t e ht))
  refine ⟨r, fun d hd hlt => ?_, ?_⟩
  · rw [put_len] at hlt
    rw [put_tm_ne (fun e => hne (hssa.once j i oj o d hj ho hd e))]
    exact h1 d hd hlt
  · rw [hw]
    rcases h2 with h2 | ⟨h3, h4, h5, h6⟩ | ⟨h3, h4, ab, mk, b, h5, h6, h7, h8, h9, h10⟩
    · exact .inl h2
    · obtain ⟨q1, p, q2, q3⟩ := hpure r h4 h5 h6
      exact .inr (.inl ⟨h3, h4, by rw [← pureOp_congr hag]; exact q1, p, by rw [← pendOf_congr hag]; exact q2, q3⟩)
    · obtain ⟨q1, q2, q3⟩ := halloc b ab h7 h8 h9 h10
      exact .inr (.inr ⟨h3, h4, ab, mk, b, by rw [← allocOp_congr hag]; exact h5, h6, q1, q2, h9, q3⟩)

/-- The evaluator carries out a quiet operation. -/
theorem DInv.take (hI : DInv E F ops φ0 st0 w0 kd ro df cs lA ps frA stA D φ w tmps frD) (hssa : Ssa ops) {i : Nat} {o : Oper} (ho : ops[i]? = some o) (hb : bit lA i = false) (hr : ∀ q, waitsOn o q = true → bit lA q = true)
    {v : AV} {p : List Pend} {stA' : St} (hst : stA' = stA ∨ ∃ ab, stA' = stA ++ [ab]) (hsess : Sess E F φ stA' w) (hext : Ext0 φ stA w φ stA' w)
    (hpq : PQ E ops st0.length (put frA o.dst v) stA' φ (p ++ ps) i o) (hp : ∀ j b ab, Pend.blk j b ab ∈ p → j = i ∧ b = stA.length ∧ stA.length < stA'.length) :
    DInv E F ops φ0 st0 w0 kd ro df cs (upd lA i true) (p ++ ps) (put frA o.dst v) stA' D φ w tmps frD := by
  have hilt : i < lA.length := by rw [hI.lenA]; exact lt_of_get ho
  have hDi : D.getD i false = false := by
    cases hd : D.getD i false with
    | false => rfl
    | true => rw [hI.sub i hd] at hb; cases hb
  have hlook : ∀ (j : Nat) oj, ops[j]? = some oj → bit lA j = true → ∀ d, o.dst = some d → d ∉ looks ops oj := by
    intro j oj hj hbj d hd hm
    rw [hI.clA j oj hbj hj i (hssa.reads j i oj o d hj ho hd hm)] at hb
    cases hb
  have g := hext.goes (F := F)
  refine ⟨by rw [upd_eq]; simpa using hI.lenA, hI.lenD, fun j hj => bit_upd_mono (hI.sub j hj), ?_, hsess, hI.ext.trans hext, hI.old, hI.fr.mono g (fun _ _ h => h), by rw [(put_rest frA o.dst v).1]; exact hI.df,
    by rw [(put_rest frA o.dst v).2.1]; exact hI.rc, by rw [(put_rest frA o.dst v).2.2]; exact hI.ro, by rw [put_len]; exact hI.len, ?_, ?_, ?_, ?_⟩
  · intro j oj hj hoj q hq
    by_cases e : i = j
    · subst e
      rw [ho] at hoj; cases hoj
      exact bit_upd_mono (hr q hq)
    · rw [bit_upd_ne e] at hj
      exact bit_upd_mono (hI.clA j oj hj hoj q hq)
  · intro t
    by_cases e : o.dst = some t
    · exact .inl ⟨i, o, ho, e, bit_upd_self hilt, hDi⟩
    · rw [put_tm_ne e]
      rcases hI.tm t with ⟨j, oj, h1, h2, h3, h4⟩ | h
      · exact .inl ⟨j, oj, h1, h2, bit_upd_mono h3, h4⟩
      · exact .inr h
  · intro j oj hj hbj hDj
    by_cases e : i = j
    · subst e
      rw [ho] at hj; cases hj
      exact hpq
    · rw [bit_upd_ne e] at hbj
      refine PQ.other hssa hj ho (fun e' => e e'.symm) (hlook j oj hj hbj) (hI.pend j oj hj hbj hDj) (fun r _ hp1 ⟨q, hq1, hq2⟩ => ⟨?_, q, hq1, fun x hx => List.mem_append.2 (.inr (hq2 x hx))⟩)
        (fun b ab hb1 hb2 _ hb3 => ⟨?_, hb2, List.mem_append.2 (.inr hb3)⟩)
      · rcases hst with rfl | ⟨ab, rfl⟩
        · exact hp1
        · exact pureOp_append hp1
      · rcases hst with rfl | ⟨ab', rfl⟩
        · exact hb1
        · rw [List.getElem?_append_left (lt_of_get hb1)]; exact hb1
  · intro j b ab hm
    rcases List.mem_append.1 hm with h | h
    · obtain ⟨_, rfl, h2⟩ := hp j b ab h; exact h2
    · have := hI.psb j b ab h
      have := hext.len
      omega
  · intro j j' b ab ab' h1 h2
    rcases List.mem_append.1 h1 with h1 | h1
    · obtain ⟨rfl, rfl, _⟩ := hp j b ab h1
      rcases List.mem_append.1 h2 with h2 | h2
      · exact (hp j' _ ab' h2).1.symm
      · have := hI.psb j' _ ab' h2; omega
    · rcases List.mem_append.1 h2 with h2 | h2
      · obtain ⟨rfl, rfl, _⟩ := hp j' b ab' h2
        have := hI.psb j _ ab h1; omega
      · exact hI.psi j j' b ab ab' h1 h2

theorem nth_put_dst {frD frA : Fr} {dst : Option Tmp} {r : AV} {t : Nat} (hlen : frD.tm.length = frA.tm.length) (hd : dst = some t) (hr : ∀ d, dst = some d → d < frA.tm.length → nth frA.tm d = r) :
    nth (put frD dst r).tm t = nth frA.tm t := by
  subst hd
  rw [put_tm]
  simp only
  rcases Nat.lt_or_ge t frA.tm.length with hl | hl
  · rw [nth_upd_self (by omega), hr t rfl hl]
  · rw [nth_eq, nth_eq, upd_eq, List.getElem?_eq_none (by simp; omega), List.getElem?_eq_none hl]

/-- The machine carries out what was pending. -/
theorem DInv.run (hI : DInv E F ops φ0 st0 w0 kd ro df cs lA ps frA stA D φ w tmps frD) (hssa : Ssa ops) {opsA : Array Oper} (hA : opsA.toList = ops) {i : Nat} (hi : i ∈ Region.ready .any opsA D) (hb : bit lA i = true)
    (fn : FuncId) (rest : List Nat) (k : List Item) :
    ∃ φ' w' tmps' frD', DInv E F ops φ0 st0 w0 kd ro df cs lA ps frA stA (D.setIfInBounds i true) φ' w' tmps' frD' ∧
      Steps E.P (lone (mkF fn kd ro tmps df (.inRegion opsA (i :: rest) :: k)) cs w) (lone (mkF fn kd ro tmps' df (.inRegion opsA rest :: k)) cs w') := by
  obtain ⟨o, hoA, hilt, hDi, hr⟩ := ready_spec hi
  have ho : ops[i]? = some o := by rw [← hA]; simpa using hoA
  obtain ⟨r, hr1, hr2⟩ := hI.pend i o ho hb hDi
  have hag := hI.agree hssa ho hr
  have hop : ∀ x ∈ o.op.operands, Agr frD frA x := by
    intro x hx t e; subst e; exact hag t (mem_looks hx)
  have hw := wants_congr (ops := ops) (o := o) hag
  -- what follows once the value is there
  have close : ∀ (φ' : Phi) (w' : World) (u : Value), Sess E F φ' stA w' → Ext0 φ stA w φ' stA w' → (∀ b, b < st0.length → φ' b = φ b) → VRel (Bd F φ' stA) w' φ' r u →
      (∀ (j : Nat) oj b ab, j ≠ i → ops[j]? = some oj → φ b = none → Pend.blk j b ab ∈ ps → φ' b = none) →
      DInv E F ops φ0 st0 w0 kd ro df cs lA ps frA stA (D.setIfInBounds i true) φ' w' (putT tmps o.dst u) (put frD o.dst r) := by
    intro φ' w' u hS hX hold hv hnone
    have g := hX.goes (F := F)
    refine ⟨hI.lenA, by simpa using hI.lenD, fun j hj => ?_, hI.clA, hS, hI.ext.trans hX, fun b hb' => by rw [hold b hb', hI.old b hb'], (hI.fr.mono g hX.phi).put o.dst hv,
      by rw [(put_rest frD o.dst r).1]; exact hI.df, by rw [(put_rest frD o.dst r).2.1]; exact hI.rc, by rw [(put_rest frD o.dst r).2.2]; exact hI.ro, by rw [put_len]; exact hI.len, fun t => ?_, fun j oj hj hbj hDj => ?_, hI.psb, hI.psi⟩
    · by_cases e : i = j
      · subst e; exact hb
      · rw [getD_set_ne false e] at hj; exact hI.sub j hj
    · by_cases e : o.dst = some t
      · exact .inr (nth_put_dst hI.len e hr1)
      · rw [put_tm_ne e]
        rcases hI.tm t with ⟨j, oj, h1, h2, h3, h4⟩ | h
        · refine .inl ⟨j, oj, h1, h2, h3, ?_⟩
          have hne : i ≠ j := fun e' => by subst e'; rw [ho] at h1; cases h1; exact e h2
          rw [getD_set_ne false hne]; exact h4
        · exact .inr h
    · have hne : i ≠ j := fun e => by
        subst e
        have : (D.setIfInBounds i true).getD i false = true := by simp [hilt]
        rw [this] at hDj; cases hDj
      rw [getD_set_ne false hne] at hDj
      obtain ⟨r', q1, q2⟩ := hI.pend j oj hj hbj hDj
      refine ⟨r', q1, ?_⟩
      rcases q2 with q2 | q2 | ⟨h3, h4, ab, mk, b, h5, h6, h7, h8, h9, h10⟩
      · exact .inl q2
      · exact .inr (.inl q2)
      · exact .inr (.inr ⟨h3, h4, ab, mk, b, h5, h6, h7, hnone j oj b ab (fun e => hne e.symm) hj h8 h10, h9, h10⟩)
  rcases hr2 with ⟨hwf, rfl⟩ | ⟨hwt, hk, hp, _⟩ | ⟨hwt, hk, ab, mk, b, h5, h6, h7, h8, h9, h10⟩
  · -- it is not wanted
    have hw' := wants_sound hA hI.fr.tm (by rw [hw]; exact hwf)
    exact ⟨φ, w, _, _, close φ w undef hI.sess (Ext0.refl _ _ _) (fun _ _ => rfl) VRel.undef (fun _ _ _ _ _ _ h _ => h), .one (st_op_skip hoA hw')⟩
  · have hnd : ∀ c, o.op ≠ .defer c := by intro c e; rw [e] at hk; simp [kindOf] at hk
    have hw' := wants_sound hA hI.fr.tm (by rw [hw]; exact hwt)
    obtain ⟨u, h1, h2⟩ := pureOp_sound hI.sess hI.fr.tm (show pureOp o.op E frD stA = some r by rw [pureOp_congr hop]; exact hp)
    exact ⟨φ, w, _, _, close φ w u hI.sess (Ext0.refl _ _ _) (fun _ _ => rfl) h2 (fun _ _ _ _ _ _ h _ => h), .one (st_op_value hoA hw' (.inr hnd) h1)⟩
  · have hnd : ∀ c, o.op ≠ .defer c := by intro c e; rw [e] at hk; simp [kindOf] at hk
    have hw' := wants_sound hA hI.fr.tm (by rw [hw]; exact hwt)
    obtain ⟨hl, obj, u, h1, h2⟩ := allocOp_sound hI.sess hI.fr.tm (show allocOp o.op E frD = some (ab, mk) by rw [allocOp_congr hop]; exact h5)
    obtain ⟨s1, s2⟩ := hI.sess.realize h7 hl h8 obj (fun B' g => (h2 b _ B' (phiSet_le h8) (by simp [phiSet]) g).1)
    have hv := (h2 b (phiSet φ b w.heap.size 0) _ (phiSet_le h8) (by simp [phiSet]) (s2.goes (F := F))).2
    rw [← h6] at hv
    refine ⟨_, _, _, _, close _ _ u s1 s2 (fun x hx => by simp [phiSet]; omega) hv (fun j oj b' ab' hne hj hb' hm => ?_), .one (st_op_value hoA hw' (.inr hnd) h1)⟩
    have : b' ≠ b := fun e => by subst e; exact hne (hI.psi j i b' ab' ab hm h10)
    simp [phiSet, this, hb']

end
end Go.Proofs.YtbjhjladdkbnmaaGreatDoor.Gx
