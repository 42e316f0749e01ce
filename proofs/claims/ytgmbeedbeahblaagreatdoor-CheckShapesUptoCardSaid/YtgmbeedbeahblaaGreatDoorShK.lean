/-
  The rules.
-/
import Derived.Test.YtgmbeedbeahblaaGreatDoorShJ
import Derived.Laws.EntriesVeiled
namespace Go.Proofs.YtgmbeedbeahblaaGreatDoor
open Go Go.Proofs.YtgmbeedbeahblaaGreatDoor.Gx Go.RowKit

/-! ### The rules -/
/-- A text of bytes. -/
def tx (l : List UInt8) : Value := .string ⟨l.toArray⟩
/-- A rule as a value. -/
def KR.val (r : KR) : Value := .agg #[tx r.nm, tx r.fl, .int .i64 r.k, .func (.func r.f) #[] #[]]
theorem func_inv {B : Nat → Prop} {w : World} {f : FuncId} {u : Value} (h : VRel B w phi0 (.func f [] []) u) : u = .func (.func f) #[] #[] := by
  cases h with
  | @func _ _ _ _ a' c' ha hc hav hcv =>
    have h1 : a' = #[] := Array.eq_empty_of_size_eq_zero (by simpa using ha.symm)
    have h2 : c' = #[] := Array.eq_empty_of_size_eq_zero (by simpa using hc.symm)
    rw [h1, h2]
theorem av_inv {B : Nat → Prop} {w : World} {r : KR} {u : Value} (h : VRel B w phi0 r.av u) : u = r.val := by
  obtain ⟨vs, rfl, hl⟩ := VRel.agg_inv h
  obtain ⟨v1, r1, e1, h1, hl1⟩ := LRel.inv_cons hl
  obtain ⟨v2, r2, rfl, h2, hl2⟩ := LRel.inv_cons hl1
  obtain ⟨v3, r3, rfl, h3, hl3⟩ := LRel.inv_cons hl2
  obtain ⟨v4, r4, rfl, h4, hl4⟩ := LRel.inv_cons hl3
  obtain rfl := LRel.inv_nil hl4
  rw [arr_of_list e1, h1.str_inv, h2.str_inv, h3.int_inv, func_inv h4]
  rfl
theorem func_mk {B : Nat → Prop} {w : World} (f : FuncId) : VRel B w phi0 (.func f [] []) (.func (.func f) #[] #[]) :=
  .func rfl rfl (fun j x v hx => by simp at hx) (fun j x v hx => by simp at hx)
theorem av_mk {B : Nat → Prop} {w : World} (r : KR) : VRel B w phi0 r.av r.val :=
  VRel.agg_mk (LRel.cons (.str _) (LRel.cons (.str _) (LRel.cons (.int _ _) (LRel.cons (func_mk _) .nil))))

theorem t4 {x} (h : x ∈ kT4) : x ∈ kTab1 := List.mem_append_right _ (List.mem_append_right _ (List.mem_append_right _ (List.mem_append_left _ h)))
theorem t5 {x} (h : x ∈ kT5) : x ∈ kTab1 := List.mem_append_right _ (List.mem_append_right _ (List.mem_append_right _ (List.mem_append_right _ (List.mem_append_left _ h))))
theorem t6 {x} (h : x ∈ kT6) : x ∈ kTab1 := List.mem_append_right _ (List.mem_append_right _ (List.mem_append_right _ (List.mem_append_right _ (List.mem_append_right _ h))))

/-- check.find at a rule. -/
theorem find_ok {r : KR} (hr : r ∈ kR) (w : World) : Calls Tryz.prog 20 #[.int .i64 r.n] w fun e w' => e = .returned (.tuple #[r.val, .bool true]) ∧ Below w.heap.size w w' := by
  refine (kCall1 (f := 20) (args := [.int .i64 r.n]) (v := .tup [r.av, .bool true]) (t4 (List.mem_map.2 ⟨_, hr, rfl⟩)) (lrel_one (.int _ _))).mono ?_
  rintro e w' ⟨⟨u, rfl, hu⟩, hb⟩
  obtain ⟨vs, rfl, hl⟩ := VRel.tup_inv hu
  obtain ⟨v1, r1, e1, h1, hl1⟩ := LRel.inv_cons hl
  obtain ⟨v2, r2, rfl, h2, hl2⟩ := LRel.inv_cons hl1
  obtain rfl := LRel.inv_nil hl2
  rw [arr_of_list e1, av_inv h1, h2.bool_inv]
  exact ⟨rfl, hb⟩
/-- A rule's uses at a field's letter. -/
theorem uses_ok' {r : KR} (hr : r ∈ kR) {c : UInt8} (hc : c ∈ letP) (w : World) : Calls Tryz.prog 23 #[r.val, .int .u8 c.toNat] w fun e w' => e = .returned (.bool (decide (c ∈ r.fl))) ∧ Below w.heap.size w w' := by
  refine (kCall2 (f := 23) (args := [r.av, .int .u8 c.toNat]) (v := .bool (decide (c ∈ r.fl))) (List.mem_flatMap.2 ⟨r, hr, List.mem_map.2 ⟨c, hc, rfl⟩⟩) (lrel_two (av_mk r) (.int _ _))).mono ?_
  rintro e w' ⟨⟨u, rfl, hu⟩, hb⟩
  rw [hu.bool_inv]
  exact ⟨rfl, hb⟩
/-- The reference's Row at a rule. -/
theorem row_ok {r : KR} (hr : r ∈ kQ) (w : World) : Calls Tryz.prog 36 #[.int .i64 r.n] w fun e w' => e = .returned (.agg #[tx r.nm, tx r.fl, .int .i64 r.k]) ∧ Below w.heap.size w w' := by
  refine (kCall1 (f := 36) (args := [.int .i64 r.n]) (v := .agg [.str r.nm, .str r.fl, .int .i64 r.k]) (t5 (List.mem_map.2 ⟨_, hr, rfl⟩)) (lrel_one (.int _ _))).mono ?_
  rintro e w' ⟨⟨u, rfl, hu⟩, hb⟩
  obtain ⟨vs, rfl, hl⟩ := VRel.agg_inv hu
  obtain ⟨v1, r1, e1, h1, hl1⟩ := LRel.inv_cons hl
  obtain ⟨v2, r2, rfl, h2, hl2⟩ := LRel.inv_cons hl1
  obtain ⟨v3, r3, rfl, h3, hl3⟩ := LRel.inv_cons hl2
  obtain rfl := LRel.inv_nil hl3
  rw [arr_of_list e1, h1.str_inv, h2.str_inv, h3.int_inv]
  exact ⟨rfl, hb⟩
/-- The reference's Name at a rule. -/
theorem rname_ok {r : KR} (hr : r ∈ kQ) (w : World) : Calls Tryz.prog 34 #[.int .i64 r.n] w fun e w' => e = .returned (tx r.nm) ∧ Below w.heap.size w w' := by
  refine (kCall3 (f := 34) (args := [.int .i64 r.n]) (v := .str r.nm) (List.mem_append_left _ (List.mem_map.2 ⟨_, hr, rfl⟩)) (lrel_one (.int _ _))).mono ?_
  rintro e w' ⟨⟨u, rfl, hu⟩, hb⟩
  rw [hu.str_inv]
  exact ⟨rfl, hb⟩
/-- The reference's uses at a rule and a letter. -/
theorem rusesQ_ok {r : KR} (hr : r ∈ kQ) {c : UInt8} (hc : c ∈ letQ) (w : World) : Calls Tryz.prog 38 #[.int .i64 r.n, .int .u8 c.toNat] w fun e w' => e = .returned (.bool (decide (c ∈ r.fl))) ∧ Below w.heap.size w w' := by
  refine (kCall3 (f := 38) (args := [.int .i64 r.n, .int .u8 c.toNat]) (v := .bool (decide (c ∈ r.fl))) (List.mem_append_right _ (List.mem_flatMap.2 ⟨r, hr, List.mem_map.2 ⟨c, hc, rfl⟩⟩)) (lrel_two (.int _ _) (.int _ _))).mono ?_
  rintro e w' ⟨⟨u, rfl, hu⟩, hb⟩
  rw [hu.bool_inv]
  exact ⟨rfl, hb⟩

/-- What is one and the same in both tables. -/
def usesL (r : KR) (ls : List UInt8) : List Bool := ls.map fun c => decide (c ∈ r.fl)
theorem tables : kR.map (fun r => (r.n, r.nm, r.k, usesL r letP)) = kQ.map (fun r => (r.n, r.nm, r.k, usesL r letQ)) := by decide +kernel
theorem table_at {r : KR} (hr : r ∈ kR) : ∃ q ∈ kQ, q.n = r.n ∧ q.nm = r.nm ∧ q.k = r.k ∧ usesL q letQ = usesL r letP := by
  have h : (r.n, r.nm, r.k, usesL r letP) ∈ kQ.map (fun r => (r.n, r.nm, r.k, usesL r letQ)) := by
    rw [← tables]
    exact List.mem_map.2 ⟨r, hr, rfl⟩
  obtain ⟨q, hq, e⟩ := List.mem_map.1 h
  simp only [Prod.mk.injEq] at e
  exact ⟨q, hq, e⟩
theorem name_ne : ∀ r ∈ kQ, r.nm ≠ [] := by decide
theorem kids_le : ∀ r ∈ kR, 0 ≤ r.k ∧ r.k ≤ 2 := by decide
/-- A number is a rule's, or none's. -/
theorem rule_cases (n : Int) : (∃ r ∈ kR, r.n = n) ∨ (n < 1 ∨ 21 < n) := by
  by_cases h : n < 1 ∨ 21 < n
  · exact .inr h
  · left
    have hall : ∀ i : Fin 21, ∃ r ∈ kR, r.n = (i.val : Int) + 1 := by decide
    obtain ⟨r, hr, e⟩ := hall ⟨(n - 1).toNat, by omega⟩
    refine ⟨r, hr, ?_⟩
    rw [e]
    simp only
    omega

theorem rules_ok (w : World) : Calls Tryz.prog 29 #[] w fun e w' => ∃ q cap, e = .returned (.slice q 21 cap) ∧ Below w.heap.size w w' := by
  refine (kCall1 (f := 29) (args := []) (v := .isl 21 (kR.flatMap fun r => [.str r.nm, .str r.fl, .int .i64 r.k, .func r.f [] []]) (some 21)) (t6 (by unfold kT6; simp)) .nil).mono ?_
  rintro e w' ⟨⟨u, rfl, hu⟩, hb⟩
  cases hu with
  | @isl _ _ _ _ a ccap vs hx hl hbk hc hv => exact ⟨_, _, rfl, hb⟩

theorem rule_row : ∃ d, Tryz.prog.underlying 51 = some d ∧ d.isRow = true := ⟨_, Tryz.underlying51, rfl⟩
theorem rule_size : (Tryz.prog.info? 51).map (·.size) = some 4 := by kernel_rfl
theorem form_row : ∃ d, Tryz.prog.underlying 87 = some d ∧ d.isRow = true := ⟨_, Tryz.underlying87, rfl⟩
theorem form_size : (Tryz.prog.info? 87).map (·.size) = some 3 := by kernel_rfl

set_option maxRecDepth 100000 in
set_option maxHeartbeats 1000000 in
/-- The reference's Name at any other number. -/
theorem rname_none {n : Int} (h : n < 1 ∨ 21 < n) (w : World) : Calls Tryz.prog 34 #[.int .i64 n] w fun e w' => e = .returned (.string ⟨#[]⟩) ∧ Below w.heap.size w w' := by
  have hrow : Calls Tryz.prog 36 #[.int .i64 n] w fun e w' => e = .returned (.agg #[.string ⟨#[]⟩, .string ⟨#[]⟩, .int .i64 0]) ∧ Below w.heap.size w w' := by
    obtain ⟨dd, hu, hd⟩ := form_row
    have hr : (w.alloc (.cells #[.string ⟨#[]⟩, .string ⟨#[]⟩, .int .i64 0] 87)).rangeAt w.heap.size 0 [.string ⟨#[]⟩, .string ⟨#[]⟩, .int .i64 0] := range_new w [.string ⟨#[]⟩, .string ⟨#[]⟩, .int .i64 0] 87
    rcases h with h | h
    · go_enter Tryz.func36, Tryz.ntmps36
      go_wp2
      refine bodyPost_ret (results_cell_mid rfl _ _ w.heap.size _ dd rfl hr hu hd form_size) rfl ?_
      exact ⟨rfl, below_alloc _ _⟩
    · have h2 : ¬ n < 1 := by omega
      have h3 : n > 21 := h
      go_enter Tryz.func36, Tryz.ntmps36
      go_wp2
      refine bodyPost_ret (results_cell_mid rfl _ _ w.heap.size _ dd rfl hr hu hd form_size) rfl ?_
      exact ⟨rfl, below_alloc _ _⟩
  have hfd : ∀ w : World, (Instr.field 87 (.agg #[.string ⟨#[]⟩, .string ⟨#[]⟩, .int .i64 0]) 0).run Tryz.prog w = .ok (.string ⟨#[]⟩) w := fun _ => by kernel_rfl
  go_enter Tryz.func34, Tryz.ntmps34
  go_wp2_with (go_at_call 36; with_reducible refine hrow.mono ?_; rintro e w1 ⟨rfl, hb⟩)
  go_ret
  exact ⟨rfl, hb⟩

set_option maxRecDepth 100000 in
set_option maxHeartbeats 1000000 in
/-- check.find at any other number. -/
theorem find_none {n : Int} (h : n < 1 ∨ 21 < n) (w : World) : Calls Tryz.prog 20 #[.int .i64 n] w fun e w' => ∃ a b c, e = .returned (.tuple #[.agg #[.string a, .string b, .int .i64 c, .nilFunc], .bool false]) ∧ Below w.heap.size w w' := by
  have hrl := rules_ok (w.alloc (.cells #[.string ⟨#[]⟩, .string ⟨#[]⟩, .int .i64 0, .nilFunc] 51))
  have hb0 : Below w.heap.size w (w.alloc (.cells #[.string ⟨#[]⟩, .string ⟨#[]⟩, .int .i64 0, .nilFunc] 51)) := below_alloc w _
  obtain ⟨dd, hu, hd⟩ := rule_row
  have key : ∀ w1, Below (w.alloc (.cells #[.string ⟨#[]⟩, .string ⟨#[]⟩, .int .i64 0, .nilFunc] 51)).heap.size (w.alloc (.cells #[.string ⟨#[]⟩, .string ⟨#[]⟩, .int .i64 0, .nilFunc] 51)) w1 →
      Hid (w1.heap[w.heap.size]? = some (.cells #[.string ⟨#[]⟩, .string ⟨#[]⟩, .int .i64 0, .nilFunc] 51 (0, 0))) := fun w1 h1 => by
    rw [h1.block w.heap.size (by simp)]
    exact heap_alloc_new w _
  rcases h with h | h
  · skip
    go_enter Tryz.func20, Tryz.ntmps20
    go_wp2_with (go_at_call 29; with_reducible refine hrl.mono ?_; rintro e w1 ⟨q, cap, rfl, hb1⟩
                 have hk := key w1 hb1
                 have c0 : w1.cell? ⟨w.heap.size, 0, none⟩ = some (.string ⟨#[]⟩) := by simp [World.cell?, hk.out]
                 have c1 : w1.cell? ⟨w.heap.size, 1, none⟩ = some (.string ⟨#[]⟩) := by simp [World.cell?, hk.out]
                 have c2 : w1.cell? ⟨w.heap.size, 2, none⟩ = some (.int .i64 0) := by simp [World.cell?, hk.out]
                 have c3 : w1.cell? ⟨w.heap.size, 3, none⟩ = some .nilFunc := by simp [World.cell?, hk.out]
                 have fr : ∀ j, w1.frozen? ⟨w.heap.size, j, none⟩ = false := fun j => by simp [World.frozen?, hk.out]
                 have hw1 : Hid (Below w.heap.size w w1) := hb0.trans (hb1.mono hb0.size)
                 have hrow : ((((w1.setCell ⟨w.heap.size, 0, none⟩ (.string ⟨#[]⟩)).setCell ⟨w.heap.size, 1, none⟩ (.string ⟨#[]⟩)).setCell ⟨w.heap.size, 2, none⟩ (.int .i64 0)).setCell ⟨w.heap.size, 3, none⟩ .nilFunc).rangeAt w.heap.size 0 [.string ⟨#[]⟩, .string ⟨#[]⟩, .int .i64 0, .nilFunc] := by
                   intro j v hv
                   match j, hv with
                   | 0, hv => simp at hv; subst hv; simp [World.cell?_setCell_other, World.cell?_setCell_same, c0, c1, c2, c3]
                   | 1, hv => simp at hv; subst hv; simp [World.cell?_setCell_other, World.cell?_setCell_same, c0, c1, c2, c3]
                   | 2, hv => simp at hv; subst hv; simp [World.cell?_setCell_other, World.cell?_setCell_same, c0, c1, c2, c3]
                   | 3, hv => simp at hv; subst hv; simp [World.cell?_setCell_other, World.cell?_setCell_same, c0, c1, c2, c3]
                 clear hb1)
    refine bodyPost_ret (results_cell_tmp_mid rfl _ _ w.heap.size _ dd rfl hrow hu hd rule_size) rfl ?_
    exact ⟨_, _, _, rfl, (((hw1.out.setCell (Nat.le_refl _) _).setCell (Nat.le_refl _) _).setCell (Nat.le_refl _) _).setCell (Nat.le_refl _) _⟩
  · have h2 : ¬ n < 1 := by omega
    have h3 : n > 21 := h
    go_enter Tryz.func20, Tryz.ntmps20
    go_wp2_with (go_at_call 29; with_reducible refine hrl.mono ?_; rintro e w1 ⟨q, cap, rfl, hb1⟩
                 have hk := key w1 hb1
                 have c0 : w1.cell? ⟨w.heap.size, 0, none⟩ = some (.string ⟨#[]⟩) := by simp [World.cell?, hk.out]
                 have c1 : w1.cell? ⟨w.heap.size, 1, none⟩ = some (.string ⟨#[]⟩) := by simp [World.cell?, hk.out]
                 have c2 : w1.cell? ⟨w.heap.size, 2, none⟩ = some (.int .i64 0) := by simp [World.cell?, hk.out]
                 have c3 : w1.cell? ⟨w.heap.size, 3, none⟩ = some .nilFunc := by simp [World.cell?, hk.out]
                 have fr : ∀ j, w1.frozen? ⟨w.heap.size, j, none⟩ = false := fun j => by simp [World.frozen?, hk.out]
                 have hw1 : Hid (Below w.heap.size w w1) := hb0.trans (hb1.mono hb0.size)
                 have hrow : ((((w1.setCell ⟨w.heap.size, 0, none⟩ (.string ⟨#[]⟩)).setCell ⟨w.heap.size, 1, none⟩ (.string ⟨#[]⟩)).setCell ⟨w.heap.size, 2, none⟩ (.int .i64 0)).setCell ⟨w.heap.size, 3, none⟩ .nilFunc).rangeAt w.heap.size 0 [.string ⟨#[]⟩, .string ⟨#[]⟩, .int .i64 0, .nilFunc] := by
                   intro j v hv
                   match j, hv with
                   | 0, hv => simp at hv; subst hv; simp [World.cell?_setCell_other, World.cell?_setCell_same, c0, c1, c2, c3]
                   | 1, hv => simp at hv; subst hv; simp [World.cell?_setCell_other, World.cell?_setCell_same, c0, c1, c2, c3]
                   | 2, hv => simp at hv; subst hv; simp [World.cell?_setCell_other, World.cell?_setCell_same, c0, c1, c2, c3]
                   | 3, hv => simp at hv; subst hv; simp [World.cell?_setCell_other, World.cell?_setCell_same, c0, c1, c2, c3]
                 clear hb1)
    refine bodyPost_ret (results_cell_tmp_mid rfl _ _ w.heap.size _ dd rfl hrow hu hd rule_size) rfl ?_
    exact ⟨_, _, _, rfl, (((hw1.out.setCell (Nat.le_refl _) _).setCell (Nat.le_refl _) _).setCell (Nat.le_refl _) _).setCell (Nat.le_refl _) _⟩
end Go.Proofs.YtgmbeedbeahblaaGreatDoor
