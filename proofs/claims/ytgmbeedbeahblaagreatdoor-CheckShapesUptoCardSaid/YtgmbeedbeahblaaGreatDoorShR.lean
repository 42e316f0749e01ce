/-
  Whole trees.
-/
import Derived.Test.YtgmbeedbeahblaaGreatDoorShO
namespace Go.Proofs.YtgmbeedbeahblaaGreatDoor
open Go Go.RowKit

theorem un_chain (f g : Nat → Bool) : ((g 0 || f 0) && ((g 1 || f 1) && ((g 2 || f 2) && ((g 3 || f 3) && ((g 4 || f 4) && ((g 5 || f 5) && ((g 6 || f 6) && ((g 7 || f 7) && ((g 8 || f 8) && ((g 9 || f 9) && ((g 10 || f 10)))))))))))) = (List.range 11).all fun j => f j || g j := by
  have h : List.range 11 = [0, 1, 2, 3, 4, 5, 6, 7, 8, 9, 10] := rfl
  rw [h]
  simp only [List.all_cons, List.all_nil, Bool.and_true]
  rw [Bool.or_comm (g 0), Bool.or_comm (g 1), Bool.or_comm (g 2), Bool.or_comm (g 3), Bool.or_comm (g 4), Bool.or_comm (g 5), Bool.or_comm (g 6), Bool.or_comm (g 7), Bool.or_comm (g 8), Bool.or_comm (g 9), Bool.or_comm (g 10)]
theorem uses_at {q r : KR} (h : usesL q letQ = usesL r letP) (j : Nat) (hj : j < 11) : decide (letQ.getD j 0 ∈ q.fl) = decide (letP.getD j 0 ∈ r.fl) := by
  have h1 := congrArg (fun l => l.getD j false) h
  have h2 : j = 0 ∨ j = 1 ∨ j = 2 ∨ j = 3 ∨ j = 4 ∨ j = 5 ∨ j = 6 ∨ j = 7 ∨ j = 8 ∨ j = 9 ∨ j = 10 := by omega
  rcases h2 with rfl | rfl | rfl | rfl | rfl | rfl | rfl | rfl | rfl | rfl | rfl <;> exact h1
theorem form_large (r : KR) (s : Sc) (X Y : Int) (x : Ex) (pn : Nat) (ps : Nat → Pt) (bn : Nat) (bs : Nat → Bd) (ue : Bool) :
    (unB r (zsS s pn bn (decide (X = 0)) x.no) && contB ue X Y x pn ps bn bs) = (unB r (zsS s pn bn (!large X Y && decide (X = 0)) x.no) && contB ue X Y x pn ps bn bs) := by
  cases h : large X Y with
  | false => rfl
  | true =>
    have hc : contB ue X Y x pn ps bn bs = false := by unfold contB; rw [h]; simp
    rw [hc, Bool.and_false, Bool.and_false]

set_option maxRecDepth 100000 in
set_option maxHeartbeats 2000000 in
/-- The reference's Formed. -/
theorem formQ_ok {w : World} {t : St} {d : Sd} (h : StOk w t d) : Calls Tryz.prog 25 #[d.val] w fun e w' => e = .returned (.bool t.form) ∧ Below w.heap.size w w' := by
  cases t with
  | non => exact h.elim
  | mk s nu de x pn ps bn bs n ki =>
    unfold StOk at h
    obtain ⟨⟨rfl, rfl, rfl, rfl⟩, h1, h2, ln, ld, hX, hP, hB, _, _⟩ := h
    show Calls Tryz.prog 25 #[.agg #[.int .i64 d.s.ru, .string d.s.nm, .string d.s.ot, .bool d.s.g, .slice d.aq d.an d.ac, .slice d.cq d.cn d.cc, .int .i64 d.s.kk, .int .i64 d.s.nn, .int .i64 d.s.pr, .int .i64 d.e.k, .int .i64 d.e.f, .bool d.e.neg, .slice d.e.aq d.e.an d.e.ac, .slice d.e.cq d.e.cn d.e.cc, .string d.e.m, .slice d.e.sq d.e.sn d.e.sc, .slice d.poq d.pon d.poc, .string d.s.en, .int .i64 d.s.ve, .slice d.arq d.arn d.arc, .slice d.kiq d.kin d.kic]] w fun e w' => e = .returned (.bool (formS d.s (val nu) (val de) x d.pon ps d.arn bs d.kin)) ∧ Below w.heap.size w w'
    rcases rule_cases d.s.ru with ⟨r, hr, e⟩ | hno
    · obtain ⟨q, hq, eqn, _, eqk, equ⟩ := table_at hr
      have hru : d.s.ru = q.n := by rw [eqn, e]
      have hu := fun j hj => uses_at equ j hj
      have hc : ∀ j, j < 11 → ∀ z, Calls Tryz.prog 38 #[.int .i64 d.s.ru, .int .u8 (letQ.getD j 0).toNat] z fun e w' => e = .returned (.bool (decide (letP.getD j 0 ∈ r.fl))) ∧ Below z.heap.size z w' := fun j hj z => by
        rw [← hu j hj, hru]
        refine rusesQ_ok hq ?_ z
        have h2 : j = 0 ∨ j = 1 ∨ j = 2 ∨ j = 3 ∨ j = 4 ∨ j = 5 ∨ j = 6 ∨ j = 7 ∨ j = 8 ∨ j = 9 ∨ j = 10 := by omega
        rcases h2 with rfl | rfl | rfl | rfl | rfl | rfl | rfl | rfl | rfl | rfl | rfl <;> decide
      rw [formS_some (by rw [← e]; exact ruleAt_some hr), ← form_large]
      have hUE : decide ((101 : UInt8) ∈ q.fl) = decide ((101 : UInt8) ∈ r.fl) := hu 6 (by decide)
      have hf := formedQ_walk hq h1 h2 ln ld hX hP hB hru (U := unB r (zsS d.s d.pon d.arn (decide (val nu = 0)) x.no)) hUE (fun z hz =>
        unused_walk (h1.below hz) (h2.below hz) ln ld (hX.below hz) (hP.below hz) (hB.below hz) (ZA := decide (val nu = 0)) (ZE := x.no) rfl rfl
          (hc 0 (by decide)) (hc 1 (by decide)) (hc 2 (by decide)) (hc 3 (by decide)) (hc 4 (by decide)) (hc 5 (by decide)) (hc 6 (by decide)) (hc 7 (by decide)) (hc 8 (by decide)) (hc 9 (by decide)) (hc 10 (by decide))
          rfl rfl rfl rfl rfl rfl rfl rfl rfl rfl rfl
          (un_chain (fun j => (zsS d.s d.pon d.arn (decide (val nu = 0)) x.no).getD j false) (fun j => decide (letP.getD j 0 ∈ r.fl))))
      rw [eqk, Bool.and_assoc] at hf
      exact hf
    · rw [formS_none (ruleAt_none hno)]
      exact formedQ_none h1 h2 ln ld hX hP hB hno

/-- All steps of a tree are well formed. -/
def St.formed : St → Bool
  | .non => false
  | .mk s nu de x pn ps bn bs n ki => (St.mk s nu de x pn ps bn bs n ki).form && (List.range n).all fun i => (ki i).formed
/-- The steps of a tree are added. -/
def St.steps : St → Nat → Nat
  | .non, a => a
  | .mk _ _ _ _ _ _ _ _ n ki, a => cntN (fun i => (ki i).steps) n (a + 1)
theorem St.steps_le : ∀ (t : St) (a : Nat), a ≤ 2000 → t.steps a ≤ 2001
  | .non, a, h => by show a ≤ 2001; omega
  | .mk _ _ _ _ _ _ _ _ n ki, a, h => cntN_le (fun i b hb => (ki i).steps_le b hb) (by omega) n
/-- The depth of a tree, at most 'left'. -/
def St.dep : St → Nat → Nat
  | .non, _ => 0
  | .mk _ _ _ _ _ _ _ _ n ki, l => if l ≤ 1 then 1 else maxN (fun i => (ki i).dep (l - 1)) n + 1
theorem St.dep_le : ∀ (t : St) (l : Nat), 1 ≤ l → t.dep l ≤ l
  | .non, l, _ => Nat.zero_le _
  | .mk _ _ _ _ _ _ _ _ n ki, l, h => by
    unfold St.dep
    split
    · exact h
    · have := maxN_le (f := fun i => (ki i).dep (l - 1)) (m := l - 1) (fun i => (ki i).dep_le (l - 1) (by omega)) n
      omega

/-- check.walk with wellFormed. -/
theorem walkF_ok : ∀ (t : St) (d : Sd) (w : World), StOk w t d → Tb w →
    Calls Tryz.prog 11 #[d.val, .func (.func 12) #[] #[]] w fun e w' => e = .returned (.bool t.formed) ∧ Below w.heap.size w w' := by
  intro t
  induction t with
  | non => exact fun d w h _ => h.elim
  | mk s nu de x pn ps bn bs n ki ih =>
    intro d w h hT
    have hf := h
    unfold StOk at h
    obtain ⟨⟨_, _, _, rfl⟩, _, _, _, _, _, _, _, h9, h10⟩ := h
    have hV : ∀ z, Below w.heap.size w z → Calls Tryz.prog 12 #[d.val] z fun e w' => e = .returned (.bool (St.mk s nu de x pn ps bn bs d.kin ki).form) ∧ Below z.heap.size z w' := fun z hz => wfP_ok (hf.below hz) (hT.below hz)
    rcases h10 with h0 | ⟨b, o, e, hlt, ds, hds⟩
    · exact walkF_step (fun _ => d) (fun i => (ki i).formed) h9 (.inl h0) hV (fun i hi => by omega)
    · exact walkF_step ds (fun i => (ki i).formed) h9 (.inr ⟨b, o, e, hlt, fun i hi => (hds i hi).1⟩) hV (fun i hi z hz => ih i (ds i) z ((hds i hi).2.below hz) (hT.below hz))

/-- The reference's formed. -/
theorem formedT_ok : ∀ (t : St) (d : Sd) (w : World), StOk w t d →
    Calls Tryz.prog 13 #[d.val] w fun e w' => e = .returned (.bool t.formed) ∧ Below w.heap.size w w' := by
  intro t
  induction t with
  | non => exact fun d w h => h.elim
  | mk s nu de x pn ps bn bs n ki ih =>
    intro d w h
    have hf := h
    unfold StOk at h
    obtain ⟨⟨_, _, _, rfl⟩, _, _, _, _, _, _, _, h9, h10⟩ := h
    have hV : ∀ z, Below w.heap.size w z → Calls Tryz.prog 25 #[d.val] z fun e w' => e = .returned (.bool (St.mk s nu de x pn ps bn bs d.kin ki).form) ∧ Below z.heap.size z w' := fun z hz => formQ_ok (hf.below hz)
    rcases h10 with h0 | ⟨b, o, e, hlt, ds, hds⟩
    · exact formed_step (fun _ => d) (fun i => (ki i).formed) h9 (.inl h0) hV (fun i hi => by omega)
    · exact formed_step ds (fun i => (ki i).formed) h9 (.inr ⟨b, o, e, hlt, fun i hi => (hds i hi).1⟩) hV (fun i hi z hz => ih i (ds i) z ((hds i hi).2.below hz))

/-- check.walk with the closure of check.Steps. -/
theorem walkN_ok {w0 : World} : ∀ (t : St) (d : Sd), StOk w0 t d → ∀ (w : World) (O n : Nat), Below w0.heap.size w0 w → w0.heap.size ≤ O → Cnt w O n → n ≤ 2000 →
    Calls Tryz.prog 11 #[d.val, .func (.func 14) #[] #[.pointer (some ⟨O, 0, none⟩)]] w fun e w' => e = .returned (.bool (decide (t.steps n ≤ 2000))) ∧ Cnt w' O (t.steps n) ∧ Tick O w w' := by
  intro t
  induction t with
  | non => exact fun d h => h.elim
  | mk s nu de x pn ps bn bs n ki ih =>
    intro d h w O m hw hO hc hm
    unfold StOk at h
    obtain ⟨⟨_, _, _, rfl⟩, _, _, _, _, _, _, _, h9, h10⟩ := h
    rcases h10 with h0 | ⟨b, o, e, hlt, ds, hds⟩
    · exact walkN_step (fun _ => d) (fun i => (ki i).steps) hc hm (fun i a ha => (ki i).steps_le a ha) h9 (.inl h0) (fun i hi => by omega)
    · exact walkN_step ds (fun i => (ki i).steps) hc hm (fun i a ha => (ki i).steps_le a ha) h9 (.inr ⟨b, o, e, by omega, fun i hi => rangeAt_below (hds i hi).1 hw hlt⟩)
        (fun i hi z a hz hca ha => ih i (ds i) (hds i hi).2 z O a (hw.trans (hz.mono hO)) hO hca ha)

/-- The reference's count. -/
theorem countT_ok : ∀ (t : St) (d : Sd) (w : World) (n : Nat), StOk w t d → n ≤ 2000 →
    Calls Tryz.prog 15 #[d.val, .int .i64 n] w fun e w' => e = .returned (.int .i64 (t.steps n)) ∧ Below w.heap.size w w' := by
  intro t
  induction t with
  | non => exact fun d w n h => h.elim
  | mk s nu de x pn ps bn bs n ki ih =>
    intro d w m h hm
    unfold StOk at h
    obtain ⟨⟨_, _, _, rfl⟩, _, _, _, _, _, _, _, h9, h10⟩ := h
    rcases h10 with h0 | ⟨b, o, e, hlt, ds, hds⟩
    · exact count_step (fun _ => d) (fun i => (ki i).steps) hm (fun i a ha => (ki i).steps_le a ha) h9 (.inl h0) (fun i hi => by omega)
    · exact count_step ds (fun i => (ki i).steps) hm (fun i a ha => (ki i).steps_le a ha) h9 (.inr ⟨b, o, e, hlt, fun i hi => (hds i hi).1⟩)
        (fun i hi z a hz ha => ih i (ds i) z a ((hds i hi).2.below hz) ha)

set_option maxRecDepth 100000 in
set_option maxHeartbeats 2000000 in
/-- check.depth beyond the levels. -/
theorem depth_last {w : World} {d : Sd} :
    Calls Tryz.prog 16 #[.agg #[.int .i64 d.s.ru, .string d.s.nm, .string d.s.ot, .bool d.s.g, .slice d.aq d.an d.ac, .slice d.cq d.cn d.cc, .int .i64 d.s.kk, .int .i64 d.s.nn, .int .i64 d.s.pr, .int .i64 d.e.k, .int .i64 d.e.f, .bool d.e.neg, .slice d.e.aq d.e.an d.e.ac, .slice d.e.cq d.e.cn d.e.cc, .string d.e.m, .slice d.e.sq d.e.sn d.e.sc, .slice d.poq d.pon d.poc, .string d.s.en, .int .i64 d.s.ve, .slice d.arq d.arn d.arc, .slice d.kiq d.kin d.kic], .int .i64 42] w fun e w' => e = .returned (.int .i64 42) ∧ Below w.heap.size w w' := by
  have hb0 : Hid (Below w.heap.size w (w.alloc (.cells #[.int .i64 d.s.ru, .string d.s.nm, .string d.s.ot, .bool d.s.g, .slice d.aq d.an d.ac, .slice d.cq d.cn d.cc, .int .i64 d.s.kk, .int .i64 d.s.nn, .int .i64 d.s.pr, .int .i64 d.e.k, .int .i64 d.e.f, .bool d.e.neg, .slice d.e.aq d.e.an d.e.ac, .slice d.e.cq d.e.cn d.e.cc, .string d.e.m, .slice d.e.sq d.e.sn d.e.sc, .slice d.poq d.pon d.poc, .string d.s.en, .int .i64 d.s.ve, .slice d.arq d.arn d.arc, .slice d.kiq d.kin d.kic] 32))) := below_alloc w _
  go_enter Tryz.func16, Tryz.ntmps16
  go_wp2_with fail
  go_ret
  exact ⟨rfl, hb0.out⟩
set_option maxRecDepth 100000 in
set_option maxHeartbeats 2000000 in
/-- The reference's deep beyond the levels. -/
theorem deep_last {w : World} {d : Sd} :
    Calls Tryz.prog 17 #[.agg #[.int .i64 d.s.ru, .string d.s.nm, .string d.s.ot, .bool d.s.g, .slice d.aq d.an d.ac, .slice d.cq d.cn d.cc, .int .i64 d.s.kk, .int .i64 d.s.nn, .int .i64 d.s.pr, .int .i64 d.e.k, .int .i64 d.e.f, .bool d.e.neg, .slice d.e.aq d.e.an d.e.ac, .slice d.e.cq d.e.cn d.e.cc, .string d.e.m, .slice d.e.sq d.e.sn d.e.sc, .slice d.poq d.pon d.poc, .string d.s.en, .int .i64 d.s.ve, .slice d.arq d.arn d.arc, .slice d.kiq d.kin d.kic], .int .i64 1] w fun e w' => e = .returned (.int .i64 1) ∧ Below w.heap.size w w' := by
  have hb0 : Hid (Below w.heap.size w (w.alloc (.cells #[.int .i64 d.s.ru, .string d.s.nm, .string d.s.ot, .bool d.s.g, .slice d.aq d.an d.ac, .slice d.cq d.cn d.cc, .int .i64 d.s.kk, .int .i64 d.s.nn, .int .i64 d.s.pr, .int .i64 d.e.k, .int .i64 d.e.f, .bool d.e.neg, .slice d.e.aq d.e.an d.e.ac, .slice d.e.cq d.e.cn d.e.cc, .string d.e.m, .slice d.e.sq d.e.sn d.e.sc, .slice d.poq d.pon d.poc, .string d.s.en, .int .i64 d.s.ve, .slice d.arq d.arn d.arc, .slice d.kiq d.kin d.kic] 32))) := below_alloc w _
  go_enter Tryz.func17, Tryz.ntmps17
  go_wp2_with fail
  go_ret
  exact ⟨rfl, hb0.out⟩

/-- check.depth. -/
theorem depthT_ok : ∀ (t : St) (d : Sd) (w : World) (L l : Nat), StOk w t d → L + l = 43 → 1 ≤ L → 1 ≤ l →
    Calls Tryz.prog 16 #[d.val, .int .i64 L] w fun e w' => e = .returned (.int .i64 ((L : Int) - 1 + t.dep l)) ∧ Below w.heap.size w w' := by
  intro t
  induction t with
  | non => exact fun d w L l h => h.elim
  | mk s nu de x pn ps bn bs n ki ih =>
    intro d w L l h hL h1 h2
    unfold StOk at h
    obtain ⟨⟨_, _, _, rfl⟩, _, _, _, _, _, _, _, h9, h10⟩ := h
    unfold St.dep
    by_cases hl : l ≤ 1
    · obtain rfl : L = 42 := by omega
      rw [if_pos hl]
      exact depth_last
    · rw [if_neg hl]
      have hz : ∀ m : Nat, ((L : Int) - 1 + ((m + 1 : Nat) : Int)) = (L : Int) + m := fun m => by omega
      rw [hz]
      have hf : ∀ i, (ki i).dep (l - 1) ≤ 42 := fun i => Nat.le_trans ((ki i).dep_le (l - 1) (by omega)) (by omega)
      rcases h10 with h0 | ⟨b, o, e, hlt, ds, hds⟩
      · exact depth_step (fun _ => d) (fun i => (ki i).dep (l - 1)) (by omega) hf h9 (.inl h0) (fun i hi => by omega)
      · refine depth_step ds (fun i => (ki i).dep (l - 1)) (by omega) hf h9 (.inr ⟨b, o, e, hlt, fun i hi => (hds i hi).1⟩) (fun i hi z hz => ?_)
        have := ih i (ds i) z (L + 1) (l - 1) ((hds i hi).2.below hz) (by omega) (by omega) (by omega)
        rw [show (((L + 1 : Nat) : Int) - 1 + ((ki i).dep (l - 1) : Int)) = (L : Int) + ((ki i).dep (l - 1) : Int) by omega, show ((L + 1 : Nat) : Int) = (L : Int) + 1 by omega] at this
        exact this

/-- The reference's deep. -/
theorem deepT_ok : ∀ (t : St) (d : Sd) (w : World) (l : Nat), StOk w t d → 1 ≤ l → l ≤ 42 →
    Calls Tryz.prog 17 #[d.val, .int .i64 l] w fun e w' => e = .returned (.int .i64 (t.dep l)) ∧ Below w.heap.size w w' := by
  intro t
  induction t with
  | non => exact fun d w l h => h.elim
  | mk s nu de x pn ps bn bs n ki ih =>
    intro d w l h h1 h2
    unfold StOk at h
    obtain ⟨⟨_, _, _, rfl⟩, _, _, _, _, _, _, _, h9, h10⟩ := h
    unfold St.dep
    by_cases hl : l ≤ 1
    · obtain rfl : l = 1 := by omega
      rw [if_pos hl]
      exact deep_last
    · rw [if_neg hl]
      have hz : ∀ m : Nat, ((m + 1 : Nat) : Int) = (m : Int) + 1 := fun m => by omega
      rw [hz]
      have hf : ∀ i, (ki i).dep (l - 1) ≤ 42 := fun i => Nat.le_trans ((ki i).dep_le (l - 1) (by omega)) (by omega)
      rcases h10 with h0 | ⟨b, o, e, hlt, ds, hds⟩
      · exact deep_step (fun _ => d) (fun i => (ki i).dep (l - 1)) (by omega) h2 hf h9 (.inl h0) (fun i hi => by omega)
      · refine deep_step ds (fun i => (ki i).dep (l - 1)) (by omega) h2 hf h9 (.inr ⟨b, o, e, hlt, fun i hi => (hds i hi).1⟩) (fun i hi z hz => ?_)
        have := ih i (ds i) z (l - 1) ((hds i hi).2.below hz) (by omega) (by omega)
        rw [show ((l - 1 : Nat) : Int) = (l : Int) - 1 by omega] at this
        exact this
end Go.Proofs.YtgmbeedbeahblaaGreatDoor
