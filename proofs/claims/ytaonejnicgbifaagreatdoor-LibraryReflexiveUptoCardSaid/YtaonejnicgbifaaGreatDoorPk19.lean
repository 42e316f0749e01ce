import Derived.Test.YtaonejnicgbifaaGreatDoorPk18
namespace Go.Proofs.YtaonejnicgbifaaGreatDoor
open Go Go.RowKit

set_option maxRecDepth 100000 in
set_option maxHeartbeats 8000000 in
theorem read_fail_one {w : World} {g1 g2 li hh : Bool} {q1 p1 q2 p2 : Option Addr} {l1 c1 m1 e1 l2 c2 m2 e2 : Nat} (k1 : (∀ z, Below w.heap.size w z → Calls Tryz.prog 86 #[.agg #[.bool g1, .slice q1 l1 c1, .slice p1 m1 e1]] z fun e w' => e = .panicked [{ v := .iface 141 (.agg #[.int .i64 1]), recovered := false }] ∧ Below z.heap.size z w')) :
    Calls Tryz.prog 57 #[.agg #[.bool g1, .slice q1 l1 c1, .slice p1 m1 e1, .bool g2, .slice q2 l2 c2, .slice p2 m2 e2, .bool li, .bool hh]] w fun e w' => e = .panicked [{ v := .iface 141 (.agg #[.int .i64 1]), recovered := false }] ∧ Below w.heap.size w w' := by
  have hb0 : Hid (Below w.heap.size w ((w.alloc (.cells #[.bool g1, .slice q1 l1 c1, .slice p1 m1 e1, .bool g2, .slice q2 l2 c2, .slice p2 m2 e2, .bool li, .bool hh] 56)).alloc (.cells #[.bool false, .slice none 0 0, .slice none 0 0, .bool false, .slice none 0 0, .slice none 0 0, .bool false, .bool false, .bool false] 109))) := below_two w _ _
  have h1 : Hid (∀ z, Below w.heap.size w z → Calls Tryz.prog 86 #[.agg #[.bool g1, .slice q1 l1 c1, .slice p1 m1 e1]] z fun e w' => e = .panicked [{ v := .iface 141 (.agg #[.int .i64 1]), recovered := false }] ∧ Below z.heap.size z w') := k1
  have hS0 : (fun z => z.cell? ⟨w.heap.size, 0, none⟩ = some (.bool g1) ∧ z.cell? ⟨w.heap.size, 1, none⟩ = some (.slice q1 l1 c1) ∧ z.cell? ⟨w.heap.size, 2, none⟩ = some (.slice p1 m1 e1) ∧ z.cell? ⟨w.heap.size, 3, none⟩ = some (.bool g2) ∧ z.cell? ⟨w.heap.size, 4, none⟩ = some (.slice q2 l2 c2) ∧ z.cell? ⟨w.heap.size, 5, none⟩ = some (.slice p2 m2 e2) ∧ z.cell? ⟨w.heap.size, 6, none⟩ = some (.bool li) ∧ z.cell? ⟨w.heap.size, 7, none⟩ = some (.bool hh)) ((w.alloc (.cells #[.bool g1, .slice q1 l1 c1, .slice p1 m1 e1, .bool g2, .slice q2 l2 c2, .slice p2 m2 e2, .bool li, .bool hh] 56)).alloc (.cells #[.bool false, .slice none 0 0, .slice none 0 0, .bool false, .slice none 0 0, .slice none 0 0, .bool false, .bool false, .bool false] 109)) := ⟨by simp, by simp, by simp, by simp, by simp, by simp, by simp, by simp⟩
  have hz0 : ((w.alloc (.cells #[.bool g1, .slice q1 l1 c1, .slice p1 m1 e1, .bool g2, .slice q2 l2 c2, .slice p2 m2 e2, .bool li, .bool hh] 56)).alloc (.cells #[.bool false, .slice none 0 0, .slice none 0 0, .bool false, .slice none 0 0, .slice none 0 0, .bool false, .bool false, .bool false] 109)).heap.size = w.heap.size + 2 := by simp
  clear k1
  go_enter Tryz.func57, Tryz.ntmps57
  go_upto_region 1 with fail
  generalize ((w.alloc (.cells #[.bool g1, .slice q1 l1 c1, .slice p1 m1 e1, .bool g2, .slice q2 l2 c2, .slice p2 m2 e2, .bool li, .bool hh] 56)).alloc (.cells #[.bool false, .slice none 0 0, .slice none 0 0, .bool false, .slice none 0 0, .slice none 0 0, .bool false, .bool false, .bool false] 109)) = W0 at *
  have hsT' : w.heap.size < W0.drew.heap.size := by show w.heap.size < W0.heap.size; omega
  refine wp_region_held_drew (S := (fun z => z.cell? ⟨w.heap.size, 0, none⟩ = some (.bool g1) ∧ z.cell? ⟨w.heap.size, 1, none⟩ = some (.slice q1 l1 c1) ∧ z.cell? ⟨w.heap.size, 2, none⟩ = some (.slice p1 m1 e1) ∧ z.cell? ⟨w.heap.size, 3, none⟩ = some (.bool g2) ∧ z.cell? ⟨w.heap.size, 4, none⟩ = some (.slice q2 l2 c2) ∧ z.cell? ⟨w.heap.size, 5, none⟩ = some (.slice p2 m2 e2) ∧ z.cell? ⟨w.heap.size, 6, none⟩ = some (.bool li) ∧ z.cell? ⟨w.heap.size, 7, none⟩ = some (.bool hh))) (by kernel_rfl) hS0 (fun hHeld => ?_)
  refine wpAnyH_take (i := 0) (v := .pointer (some ⟨w.heap.size, 0, none⟩)) rfl (by kernel_rfl) (by kernel_rfl) (by kernel_rfl) (fun _ _ _ h => h) (.inl ⟨by rfl, fun z hSz => by go_simp⟩) hHeld ?_
  simp only [Act.put, List.getElem_toArray, List.getElem_cons_succ, List.getElem_cons_zero, List.setIfInBounds_toArray, List.set_cons_zero, List.set_cons_succ]
  refine wpAnyH_take (i := 1) (v := .agg #[.bool g1, .slice q1 l1 c1, .slice p1 m1 e1]) rfl (by kernel_rfl) (by kernel_rfl) (by kernel_rfl) (fun _ _ _ h => h) (.inl ⟨by rfl, fun z hSz => by go_simp⟩) hHeld ?_
  simp only [Act.put, List.getElem_toArray, List.getElem_cons_succ, List.getElem_cons_zero, List.setIfInBounds_toArray, List.set_cons_zero, List.set_cons_succ]
  refine wpAnyH_take (i := 3) (v := .pointer (some ⟨w.heap.size, 3, none⟩)) rfl (by kernel_rfl) (by kernel_rfl) (by kernel_rfl) (fun _ _ _ h => h) (.inl ⟨by rfl, fun z hSz => by go_simp⟩) hHeld ?_
  simp only [Act.put, List.getElem_toArray, List.getElem_cons_succ, List.getElem_cons_zero, List.setIfInBounds_toArray, List.set_cons_zero, List.set_cons_succ]
  refine wpAnyH_take (i := 4) (v := .agg #[.bool g2, .slice q2 l2 c2, .slice p2 m2 e2]) rfl (by kernel_rfl) (by kernel_rfl) (by kernel_rfl) (fun _ _ _ h => h) (.inl ⟨by rfl, fun z hSz => by go_simp⟩) hHeld ?_
  simp only [Act.put, List.getElem_toArray, List.getElem_cons_succ, List.getElem_cons_zero, List.setIfInBounds_toArray, List.set_cons_zero, List.set_cons_succ]
  refine wpAnyH_take (i := 6) (v := .pointer (some ⟨w.heap.size, 6, none⟩)) rfl (by kernel_rfl) (by kernel_rfl) (by kernel_rfl) (fun _ _ _ h => h) (.inl ⟨by rfl, fun z hSz => by go_simp⟩) hHeld ?_
  simp only [Act.put, List.getElem_toArray, List.getElem_cons_succ, List.getElem_cons_zero, List.setIfInBounds_toArray, List.set_cons_zero, List.set_cons_succ]
  refine wpAnyH_take (i := 7) (v := .bool li) rfl (by kernel_rfl) (by kernel_rfl) (by kernel_rfl) (fun _ _ _ h => h) (.inl ⟨by rfl, fun z hSz => by go_simp⟩) hHeld ?_
  simp only [Act.put, List.getElem_toArray, List.getElem_cons_succ, List.getElem_cons_zero, List.setIfInBounds_toArray, List.set_cons_zero, List.set_cons_succ]
  refine wpAnyH_take (i := 8) (v := .pointer (some ⟨w.heap.size, 7, none⟩)) rfl (by kernel_rfl) (by kernel_rfl) (by kernel_rfl) (fun _ _ _ h => h) (.inl ⟨by rfl, fun z hSz => by go_simp⟩) hHeld ?_
  simp only [Act.put, List.getElem_toArray, List.getElem_cons_succ, List.getElem_cons_zero, List.setIfInBounds_toArray, List.set_cons_zero, List.set_cons_succ]
  refine wpAnyH_take (i := 9) (v := .bool hh) rfl (by kernel_rfl) (by kernel_rfl) (by kernel_rfl) (fun _ _ _ h => h) (.inl ⟨by rfl, fun z hSz => by go_simp⟩) hHeld ?_
  simp only [Act.put, List.getElem_toArray, List.getElem_cons_succ, List.getElem_cons_zero, List.setIfInBounds_toArray, List.set_cons_zero, List.set_cons_succ]
  refine wpAnyH_ready (rs := [2, 11]) (by kernel_rfl) (by simp) ?_
  refine AllReadyH.cons rfl (fun K hK => ?_) (AllReadyH.cons rfl (fun K hK => ?_) AllReadyH.nil)
  · go_simp
    refine (h1.out _ hb0.out.drew).mono ?_
    rintro e w11 ⟨rfl, hb1⟩
    exact ⟨rfl, rfl, hb0.out.drew.trans (hb1.mono hb0.out.drew.size)⟩
  · go_simp
    have hb2 : Below W0.drew.heap.size W0.drew ((W0.alloc (.cells #[.bool false, .slice none 0 0, .slice none 0 0, .bool false, .slice none 0 0, .slice none 0 0, .bool false, .bool false, .bool false] 109)).drew) := below_alloc W0.drew (.cells #[.bool false, .slice none 0 0, .slice none 0 0, .bool false, .slice none 0 0, .slice none 0 0, .bool false, .bool false, .bool false] 109)
    obtain ⟨w12, hw2⟩ : ∃ v, v = (W0.alloc (.cells #[.bool false, .slice none 0 0, .slice none 0 0, .bool false, .slice none 0 0, .slice none 0 0, .bool false, .bool false, .bool false] 109)).drew := ⟨_, rfl⟩
    rw [← hw2] at hb2 ⊢
    clear hw2
    have H2 : (fun z => z.cell? ⟨w.heap.size, 0, none⟩ = some (.bool g1) ∧ z.cell? ⟨w.heap.size, 1, none⟩ = some (.slice q1 l1 c1) ∧ z.cell? ⟨w.heap.size, 2, none⟩ = some (.slice p1 m1 e1) ∧ z.cell? ⟨w.heap.size, 3, none⟩ = some (.bool g2) ∧ z.cell? ⟨w.heap.size, 4, none⟩ = some (.slice q2 l2 c2) ∧ z.cell? ⟨w.heap.size, 5, none⟩ = some (.slice p2 m2 e2) ∧ z.cell? ⟨w.heap.size, 6, none⟩ = some (.bool li) ∧ z.cell? ⟨w.heap.size, 7, none⟩ = some (.bool hh)) w12 := ⟨(hb2.cell (by exact hsT')).trans hS0.1, (hb2.cell (by exact hsT')).trans hS0.2.1, (hb2.cell (by exact hsT')).trans hS0.2.2.1, (hb2.cell (by exact hsT')).trans hS0.2.2.2.1, (hb2.cell (by exact hsT')).trans hS0.2.2.2.2.1, (hb2.cell (by exact hsT')).trans hS0.2.2.2.2.2.1, (hb2.cell (by exact hsT')).trans hS0.2.2.2.2.2.2.1, (hb2.cell (by exact hsT')).trans hS0.2.2.2.2.2.2.2⟩
    have lt2 : w.heap.size < w12.heap.size := Nat.lt_of_lt_of_le hsT' hb2.size
    have W2 : Hid (Below w.heap.size w w12) := hb0.out.drew.trans (hb2.mono hb0.out.drew.size)
    refine hK.out _ _ H2 (fun hHeld2 => ?_)
    clear hK K hHeld
    refine wpAnyH_ready (rs := [2]) (by kernel_rfl) (by simp) ?_
    refine AllReadyH.cons rfl (fun K hK => ?_) AllReadyH.nil
    go_simp
    refine (h1.out _ W2.out).mono ?_
    rintro e w13 ⟨rfl, hb3⟩
    exact ⟨rfl, rfl, W2.out.trans (hb3.mono W2.out.size)⟩

set_option maxRecDepth 100000 in
set_option maxHeartbeats 8000000 in
theorem read_fail_two {w : World} {g1 g2 li hh : Bool} {q1 p1 q2 p2 : Option Addr} {l1 c1 m1 e1 l2 c2 m2 e2 : Nat} {G1 : Bool} {X1 Y1 : Int} (k1 : (∀ z, Below w.heap.size w z → Calls Tryz.prog 86 #[.agg #[.bool g1, .slice q1 l1 c1, .slice p1 m1 e1]] z fun e w' => ∃ f, e = .returned f ∧ FAt w' f G1 X1 Y1 ∧ Below z.heap.size z w')) (k2 : (∀ z, Below w.heap.size w z → Calls Tryz.prog 86 #[.agg #[.bool g2, .slice q2 l2 c2, .slice p2 m2 e2]] z fun e w' => e = .panicked [{ v := .iface 141 (.agg #[.int .i64 1]), recovered := false }] ∧ Below z.heap.size z w')) :
    Calls Tryz.prog 57 #[.agg #[.bool g1, .slice q1 l1 c1, .slice p1 m1 e1, .bool g2, .slice q2 l2 c2, .slice p2 m2 e2, .bool li, .bool hh]] w fun e w' => e = .panicked [{ v := .iface 141 (.agg #[.int .i64 1]), recovered := false }] ∧ Below w.heap.size w w' := by
  have hb0 : Hid (Below w.heap.size w ((w.alloc (.cells #[.bool g1, .slice q1 l1 c1, .slice p1 m1 e1, .bool g2, .slice q2 l2 c2, .slice p2 m2 e2, .bool li, .bool hh] 56)).alloc (.cells #[.bool false, .slice none 0 0, .slice none 0 0, .bool false, .slice none 0 0, .slice none 0 0, .bool false, .bool false, .bool false] 109))) := below_two w _ _
  have h1 : Hid (∀ z, Below w.heap.size w z → Calls Tryz.prog 86 #[.agg #[.bool g1, .slice q1 l1 c1, .slice p1 m1 e1]] z fun e w' => ∃ f, e = .returned f ∧ FAt w' f G1 X1 Y1 ∧ Below z.heap.size z w') := k1
  have h2 : Hid (∀ z, Below w.heap.size w z → Calls Tryz.prog 86 #[.agg #[.bool g2, .slice q2 l2 c2, .slice p2 m2 e2]] z fun e w' => e = .panicked [{ v := .iface 141 (.agg #[.int .i64 1]), recovered := false }] ∧ Below z.heap.size z w') := k2
  have hS0 : (fun z => z.cell? ⟨w.heap.size, 0, none⟩ = some (.bool g1) ∧ z.cell? ⟨w.heap.size, 1, none⟩ = some (.slice q1 l1 c1) ∧ z.cell? ⟨w.heap.size, 2, none⟩ = some (.slice p1 m1 e1) ∧ z.cell? ⟨w.heap.size, 3, none⟩ = some (.bool g2) ∧ z.cell? ⟨w.heap.size, 4, none⟩ = some (.slice q2 l2 c2) ∧ z.cell? ⟨w.heap.size, 5, none⟩ = some (.slice p2 m2 e2) ∧ z.cell? ⟨w.heap.size, 6, none⟩ = some (.bool li) ∧ z.cell? ⟨w.heap.size, 7, none⟩ = some (.bool hh)) ((w.alloc (.cells #[.bool g1, .slice q1 l1 c1, .slice p1 m1 e1, .bool g2, .slice q2 l2 c2, .slice p2 m2 e2, .bool li, .bool hh] 56)).alloc (.cells #[.bool false, .slice none 0 0, .slice none 0 0, .bool false, .slice none 0 0, .slice none 0 0, .bool false, .bool false, .bool false] 109)) := ⟨by simp, by simp, by simp, by simp, by simp, by simp, by simp, by simp⟩
  have hz0 : ((w.alloc (.cells #[.bool g1, .slice q1 l1 c1, .slice p1 m1 e1, .bool g2, .slice q2 l2 c2, .slice p2 m2 e2, .bool li, .bool hh] 56)).alloc (.cells #[.bool false, .slice none 0 0, .slice none 0 0, .bool false, .slice none 0 0, .slice none 0 0, .bool false, .bool false, .bool false] 109)).heap.size = w.heap.size + 2 := by simp
  clear k1 k2
  go_enter Tryz.func57, Tryz.ntmps57
  go_upto_region 1 with fail
  generalize ((w.alloc (.cells #[.bool g1, .slice q1 l1 c1, .slice p1 m1 e1, .bool g2, .slice q2 l2 c2, .slice p2 m2 e2, .bool li, .bool hh] 56)).alloc (.cells #[.bool false, .slice none 0 0, .slice none 0 0, .bool false, .slice none 0 0, .slice none 0 0, .bool false, .bool false, .bool false] 109)) = W0 at *
  have hsT' : w.heap.size < W0.drew.heap.size := by show w.heap.size < W0.heap.size; omega
  refine wp_region_held_drew (S := (fun z => z.cell? ⟨w.heap.size, 0, none⟩ = some (.bool g1) ∧ z.cell? ⟨w.heap.size, 1, none⟩ = some (.slice q1 l1 c1) ∧ z.cell? ⟨w.heap.size, 2, none⟩ = some (.slice p1 m1 e1) ∧ z.cell? ⟨w.heap.size, 3, none⟩ = some (.bool g2) ∧ z.cell? ⟨w.heap.size, 4, none⟩ = some (.slice q2 l2 c2) ∧ z.cell? ⟨w.heap.size, 5, none⟩ = some (.slice p2 m2 e2) ∧ z.cell? ⟨w.heap.size, 6, none⟩ = some (.bool li) ∧ z.cell? ⟨w.heap.size, 7, none⟩ = some (.bool hh))) (by kernel_rfl) hS0 (fun hHeld => ?_)
  refine wpAnyH_take (i := 0) (v := .pointer (some ⟨w.heap.size, 0, none⟩)) rfl (by kernel_rfl) (by kernel_rfl) (by kernel_rfl) (fun _ _ _ h => h) (.inl ⟨by rfl, fun z hSz => by go_simp⟩) hHeld ?_
  simp only [Act.put, List.getElem_toArray, List.getElem_cons_succ, List.getElem_cons_zero, List.setIfInBounds_toArray, List.set_cons_zero, List.set_cons_succ]
  refine wpAnyH_take (i := 1) (v := .agg #[.bool g1, .slice q1 l1 c1, .slice p1 m1 e1]) rfl (by kernel_rfl) (by kernel_rfl) (by kernel_rfl) (fun _ _ _ h => h) (.inl ⟨by rfl, fun z hSz => by go_simp⟩) hHeld ?_
  simp only [Act.put, List.getElem_toArray, List.getElem_cons_succ, List.getElem_cons_zero, List.setIfInBounds_toArray, List.set_cons_zero, List.set_cons_succ]
  refine wpAnyH_take (i := 3) (v := .pointer (some ⟨w.heap.size, 3, none⟩)) rfl (by kernel_rfl) (by kernel_rfl) (by kernel_rfl) (fun _ _ _ h => h) (.inl ⟨by rfl, fun z hSz => by go_simp⟩) hHeld ?_
  simp only [Act.put, List.getElem_toArray, List.getElem_cons_succ, List.getElem_cons_zero, List.setIfInBounds_toArray, List.set_cons_zero, List.set_cons_succ]
  refine wpAnyH_take (i := 4) (v := .agg #[.bool g2, .slice q2 l2 c2, .slice p2 m2 e2]) rfl (by kernel_rfl) (by kernel_rfl) (by kernel_rfl) (fun _ _ _ h => h) (.inl ⟨by rfl, fun z hSz => by go_simp⟩) hHeld ?_
  simp only [Act.put, List.getElem_toArray, List.getElem_cons_succ, List.getElem_cons_zero, List.setIfInBounds_toArray, List.set_cons_zero, List.set_cons_succ]
  refine wpAnyH_take (i := 6) (v := .pointer (some ⟨w.heap.size, 6, none⟩)) rfl (by kernel_rfl) (by kernel_rfl) (by kernel_rfl) (fun _ _ _ h => h) (.inl ⟨by rfl, fun z hSz => by go_simp⟩) hHeld ?_
  simp only [Act.put, List.getElem_toArray, List.getElem_cons_succ, List.getElem_cons_zero, List.setIfInBounds_toArray, List.set_cons_zero, List.set_cons_succ]
  refine wpAnyH_take (i := 7) (v := .bool li) rfl (by kernel_rfl) (by kernel_rfl) (by kernel_rfl) (fun _ _ _ h => h) (.inl ⟨by rfl, fun z hSz => by go_simp⟩) hHeld ?_
  simp only [Act.put, List.getElem_toArray, List.getElem_cons_succ, List.getElem_cons_zero, List.setIfInBounds_toArray, List.set_cons_zero, List.set_cons_succ]
  refine wpAnyH_take (i := 8) (v := .pointer (some ⟨w.heap.size, 7, none⟩)) rfl (by kernel_rfl) (by kernel_rfl) (by kernel_rfl) (fun _ _ _ h => h) (.inl ⟨by rfl, fun z hSz => by go_simp⟩) hHeld ?_
  simp only [Act.put, List.getElem_toArray, List.getElem_cons_succ, List.getElem_cons_zero, List.setIfInBounds_toArray, List.set_cons_zero, List.set_cons_succ]
  refine wpAnyH_take (i := 9) (v := .bool hh) rfl (by kernel_rfl) (by kernel_rfl) (by kernel_rfl) (fun _ _ _ h => h) (.inl ⟨by rfl, fun z hSz => by go_simp⟩) hHeld ?_
  simp only [Act.put, List.getElem_toArray, List.getElem_cons_succ, List.getElem_cons_zero, List.setIfInBounds_toArray, List.set_cons_zero, List.set_cons_succ]
  refine wpAnyH_ready (rs := [2, 11]) (by kernel_rfl) (by simp) ?_
  refine AllReadyH.cons rfl (fun K hK => ?_) (AllReadyH.cons rfl (fun K hK => ?_) AllReadyH.nil)
  · go_simp
    refine (h1.out _ hb0.out.drew).mono ?_
    rintro e w11 ⟨f, rfl, hf1, hb1⟩
    obtain ⟨a1, n1, k1, a2, n2, k2, rfl⟩ := hf1.form
    clear hf1
    have H1 : (fun z => z.cell? ⟨w.heap.size, 0, none⟩ = some (.bool g1) ∧ z.cell? ⟨w.heap.size, 1, none⟩ = some (.slice q1 l1 c1) ∧ z.cell? ⟨w.heap.size, 2, none⟩ = some (.slice p1 m1 e1) ∧ z.cell? ⟨w.heap.size, 3, none⟩ = some (.bool g2) ∧ z.cell? ⟨w.heap.size, 4, none⟩ = some (.slice q2 l2 c2) ∧ z.cell? ⟨w.heap.size, 5, none⟩ = some (.slice p2 m2 e2) ∧ z.cell? ⟨w.heap.size, 6, none⟩ = some (.bool li) ∧ z.cell? ⟨w.heap.size, 7, none⟩ = some (.bool hh)) w11 := ⟨(hb1.cell (by exact hsT')).trans hS0.1, (hb1.cell (by exact hsT')).trans hS0.2.1, (hb1.cell (by exact hsT')).trans hS0.2.2.1, (hb1.cell (by exact hsT')).trans hS0.2.2.2.1, (hb1.cell (by exact hsT')).trans hS0.2.2.2.2.1, (hb1.cell (by exact hsT')).trans hS0.2.2.2.2.2.1, (hb1.cell (by exact hsT')).trans hS0.2.2.2.2.2.2.1, (hb1.cell (by exact hsT')).trans hS0.2.2.2.2.2.2.2⟩
    have lt1 : w.heap.size < w11.heap.size := Nat.lt_of_lt_of_le hsT' hb1.size
    have W1 : Hid (Below w.heap.size w w11) := hb0.out.drew.trans (hb1.mono hb0.out.drew.size)
    refine hK.out _ _ H1 (fun hHeld1 => ?_)
    clear hK K hHeld
    refine wpAnyH_ready (rs := [5, 11]) (by kernel_rfl) (by simp) ?_
    refine AllReadyH.cons rfl (fun K hK => ?_) (AllReadyH.cons rfl (fun K hK => ?_) AllReadyH.nil)
    · go_simp
      refine (h2.out _ W1.out).mono ?_
      rintro e w12 ⟨rfl, hb2⟩
      exact ⟨rfl, rfl, W1.out.trans (hb2.mono W1.out.size)⟩
    · go_simp
      have hb3 := below_alloc w11 (.cells #[.bool false, .slice none 0 0, .slice none 0 0, .bool false, .slice none 0 0, .slice none 0 0, .bool false, .bool false, .bool false] 109)
      obtain ⟨w13, hw3⟩ : ∃ v, v = w11.alloc (.cells #[.bool false, .slice none 0 0, .slice none 0 0, .bool false, .slice none 0 0, .slice none 0 0, .bool false, .bool false, .bool false] 109) := ⟨_, rfl⟩
      rw [← hw3] at hb3 ⊢
      clear hw3
      have H3 : (fun z => z.cell? ⟨w.heap.size, 0, none⟩ = some (.bool g1) ∧ z.cell? ⟨w.heap.size, 1, none⟩ = some (.slice q1 l1 c1) ∧ z.cell? ⟨w.heap.size, 2, none⟩ = some (.slice p1 m1 e1) ∧ z.cell? ⟨w.heap.size, 3, none⟩ = some (.bool g2) ∧ z.cell? ⟨w.heap.size, 4, none⟩ = some (.slice q2 l2 c2) ∧ z.cell? ⟨w.heap.size, 5, none⟩ = some (.slice p2 m2 e2) ∧ z.cell? ⟨w.heap.size, 6, none⟩ = some (.bool li) ∧ z.cell? ⟨w.heap.size, 7, none⟩ = some (.bool hh)) w13 := ⟨(hb3.cell (by exact lt1)).trans H1.1, (hb3.cell (by exact lt1)).trans H1.2.1, (hb3.cell (by exact lt1)).trans H1.2.2.1, (hb3.cell (by exact lt1)).trans H1.2.2.2.1, (hb3.cell (by exact lt1)).trans H1.2.2.2.2.1, (hb3.cell (by exact lt1)).trans H1.2.2.2.2.2.1, (hb3.cell (by exact lt1)).trans H1.2.2.2.2.2.2.1, (hb3.cell (by exact lt1)).trans H1.2.2.2.2.2.2.2⟩
      have lt3 : w.heap.size < w13.heap.size := Nat.lt_of_lt_of_le lt1 hb3.size
      have W3 : Hid (Below w.heap.size w w13) := W1.out.trans (hb3.mono W1.out.size)
      refine hK.out _ _ H3 (fun hHeld3 => ?_)
      clear hK K hHeld1
      refine wpAnyH_ready (rs := [5]) (by kernel_rfl) (by simp) ?_
      refine AllReadyH.cons rfl (fun K hK => ?_) AllReadyH.nil
      go_simp
      refine (h2.out _ W3.out).mono ?_
      rintro e w14 ⟨rfl, hb4⟩
      exact ⟨rfl, rfl, W3.out.trans (hb4.mono W3.out.size)⟩
  · go_simp
    have hb5 : Below W0.drew.heap.size W0.drew ((W0.alloc (.cells #[.bool false, .slice none 0 0, .slice none 0 0, .bool false, .slice none 0 0, .slice none 0 0, .bool false, .bool false, .bool false] 109)).drew) := below_alloc W0.drew (.cells #[.bool false, .slice none 0 0, .slice none 0 0, .bool false, .slice none 0 0, .slice none 0 0, .bool false, .bool false, .bool false] 109)
    obtain ⟨w15, hw5⟩ : ∃ v, v = (W0.alloc (.cells #[.bool false, .slice none 0 0, .slice none 0 0, .bool false, .slice none 0 0, .slice none 0 0, .bool false, .bool false, .bool false] 109)).drew := ⟨_, rfl⟩
    rw [← hw5] at hb5 ⊢
    clear hw5
    have H5 : (fun z => z.cell? ⟨w.heap.size, 0, none⟩ = some (.bool g1) ∧ z.cell? ⟨w.heap.size, 1, none⟩ = some (.slice q1 l1 c1) ∧ z.cell? ⟨w.heap.size, 2, none⟩ = some (.slice p1 m1 e1) ∧ z.cell? ⟨w.heap.size, 3, none⟩ = some (.bool g2) ∧ z.cell? ⟨w.heap.size, 4, none⟩ = some (.slice q2 l2 c2) ∧ z.cell? ⟨w.heap.size, 5, none⟩ = some (.slice p2 m2 e2) ∧ z.cell? ⟨w.heap.size, 6, none⟩ = some (.bool li) ∧ z.cell? ⟨w.heap.size, 7, none⟩ = some (.bool hh)) w15 := ⟨(hb5.cell (by exact hsT')).trans hS0.1, (hb5.cell (by exact hsT')).trans hS0.2.1, (hb5.cell (by exact hsT')).trans hS0.2.2.1, (hb5.cell (by exact hsT')).trans hS0.2.2.2.1, (hb5.cell (by exact hsT')).trans hS0.2.2.2.2.1, (hb5.cell (by exact hsT')).trans hS0.2.2.2.2.2.1, (hb5.cell (by exact hsT')).trans hS0.2.2.2.2.2.2.1, (hb5.cell (by exact hsT')).trans hS0.2.2.2.2.2.2.2⟩
    have lt5 : w.heap.size < w15.heap.size := Nat.lt_of_lt_of_le hsT' hb5.size
    have W5 : Hid (Below w.heap.size w w15) := hb0.out.drew.trans (hb5.mono hb0.out.drew.size)
    refine hK.out _ _ H5 (fun hHeld5 => ?_)
    clear hK K hHeld
    refine wpAnyH_ready (rs := [2]) (by kernel_rfl) (by simp) ?_
    refine AllReadyH.cons rfl (fun K hK => ?_) AllReadyH.nil
    go_simp
    refine (h1.out _ W5.out).mono ?_
    rintro e w16 ⟨f, rfl, hf6, hb6⟩
    obtain ⟨a1, n1, k1, a2, n2, k2, rfl⟩ := hf6.form
    clear hf6
    have H6 : (fun z => z.cell? ⟨w.heap.size, 0, none⟩ = some (.bool g1) ∧ z.cell? ⟨w.heap.size, 1, none⟩ = some (.slice q1 l1 c1) ∧ z.cell? ⟨w.heap.size, 2, none⟩ = some (.slice p1 m1 e1) ∧ z.cell? ⟨w.heap.size, 3, none⟩ = some (.bool g2) ∧ z.cell? ⟨w.heap.size, 4, none⟩ = some (.slice q2 l2 c2) ∧ z.cell? ⟨w.heap.size, 5, none⟩ = some (.slice p2 m2 e2) ∧ z.cell? ⟨w.heap.size, 6, none⟩ = some (.bool li) ∧ z.cell? ⟨w.heap.size, 7, none⟩ = some (.bool hh)) w16 := ⟨(hb6.cell (by exact lt5)).trans H5.1, (hb6.cell (by exact lt5)).trans H5.2.1, (hb6.cell (by exact lt5)).trans H5.2.2.1, (hb6.cell (by exact lt5)).trans H5.2.2.2.1, (hb6.cell (by exact lt5)).trans H5.2.2.2.2.1, (hb6.cell (by exact lt5)).trans H5.2.2.2.2.2.1, (hb6.cell (by exact lt5)).trans H5.2.2.2.2.2.2.1, (hb6.cell (by exact lt5)).trans H5.2.2.2.2.2.2.2⟩
    have lt6 : w.heap.size < w16.heap.size := Nat.lt_of_lt_of_le lt5 hb6.size
    have W6 : Hid (Below w.heap.size w w16) := W5.out.trans (hb6.mono W5.out.size)
    refine hK.out _ _ H6 (fun hHeld6 => ?_)
    clear hK K hHeld5
    refine wpAnyH_ready (rs := [5]) (by kernel_rfl) (by simp) ?_
    refine AllReadyH.cons rfl (fun K hK => ?_) AllReadyH.nil
    go_simp
    refine (h2.out _ W6.out).mono ?_
    rintro e w17 ⟨rfl, hb7⟩
    exact ⟨rfl, rfl, W6.out.trans (hb7.mono W6.out.size)⟩

end Go.Proofs.YtaonejnicgbifaaGreatDoor
namespace Go.Proofs.YtaonejnicgbifaaGreatDoor
open Go Go.RowKit

set_option maxRecDepth 100000 in
set_option maxHeartbeats 2000000 in
/-- The closure of IsEmpty. -/
theorem emptyC_ok {w : World} {g1 g2 li hh : Bool} {q1 p1 q2 p2 : Option Addr} {l1 c1 m1 e1 l2 c2 m2 e2 : Nat} {B : Nat} {V : Bool} (hB : B < w.heap.size) (hr : w.rangeAt B 0 [.bool g1, .slice q1 l1 c1, .slice p1 m1 e1, .bool g2, .slice q2 l2 c2, .slice p2 m2 e2, .bool li, .bool hh])
    (k : ∀ z, Below w.heap.size w z → Calls Tryz.prog 57 #[.agg #[.bool g1, .slice q1 l1 c1, .slice p1 m1 e1, .bool g2, .slice q2 l2 c2, .slice p2 m2 e2, .bool li, .bool hh]] z fun e w' => ∃ G1 a1 n1 k1 a2 n2 k2 G2 b1 r1 s1 b2 r2 s2, e = .returned (.agg #[.bool G1, .slice a1 n1 k1, .slice a2 n2 k2, .bool G2, .slice b1 r1 s1, .slice b2 r2 s2, .bool li, .bool hh, .bool V]) ∧ Below z.heap.size z w') :
    Calls Tryz.prog 77 #[.pointer (some ⟨B, 0, none⟩)] w fun e w' => e = .returned (.bool V) ∧ Below w.heap.size w w' := by
  have c0 : w.cell? ⟨B, 0, none⟩ = some (.bool g1) := by simpa using hr 0 _ rfl
  have x1 : w.cell? ⟨B, 1, none⟩ = some (.slice q1 l1 c1) := by simpa using hr 1 _ rfl
  have x2 : w.cell? ⟨B, 2, none⟩ = some (.slice p1 m1 e1) := by simpa using hr 2 _ rfl
  have x3 : w.cell? ⟨B, 3, none⟩ = some (.bool g2) := by simpa using hr 3 _ rfl
  have x4 : w.cell? ⟨B, 4, none⟩ = some (.slice q2 l2 c2) := by simpa using hr 4 _ rfl
  have x5 : w.cell? ⟨B, 5, none⟩ = some (.slice p2 m2 e2) := by simpa using hr 5 _ rfl
  have x6 : w.cell? ⟨B, 6, none⟩ = some (.bool li) := by simpa using hr 6 _ rfl
  have x7 : w.cell? ⟨B, 7, none⟩ = some (.bool hh) := by simpa using hr 7 _ rfl
  have kk := k w (Below.refl _ _)
  go_enter Tryz.func77, Tryz.ntmps77
  go_wp2_with (go_at_call 57; refine kk.mono ?_; rintro e w5 ⟨G1, a1, n1, k1, a2, n2, k2, G2, b1, r1, s1, b2, r2, s2, rfl, hb5⟩
               have hf : ∀ w : World, (Instr.field 109 (.agg #[.bool G1, .slice a1 n1 k1, .slice a2 n2 k2, .bool G2, .slice b1 r1 s1, .slice b2 r2 s2, .bool li, .bool hh, .bool V]) 4).run Tryz.prog w = .ok (.bool V) w := fun _ => by kernel_rfl)
  go_ret
  exact ⟨rfl, hb5⟩
set_option maxRecDepth 100000 in
set_option maxHeartbeats 2000000 in
theorem emptyC_fail {w : World} {g1 g2 li hh : Bool} {q1 p1 q2 p2 : Option Addr} {l1 c1 m1 e1 l2 c2 m2 e2 : Nat} {B : Nat} (hB : B < w.heap.size) (hr : w.rangeAt B 0 [.bool g1, .slice q1 l1 c1, .slice p1 m1 e1, .bool g2, .slice q2 l2 c2, .slice p2 m2 e2, .bool li, .bool hh])
    (k : ∀ z, Below w.heap.size w z → Calls Tryz.prog 57 #[.agg #[.bool g1, .slice q1 l1 c1, .slice p1 m1 e1, .bool g2, .slice q2 l2 c2, .slice p2 m2 e2, .bool li, .bool hh]] z fun e w' => e = .panicked [{ v := .iface 141 (.agg #[.int .i64 1]), recovered := false }] ∧ Below z.heap.size z w') :
    Calls Tryz.prog 77 #[.pointer (some ⟨B, 0, none⟩)] w fun e w' => e = .panicked [{ v := .iface 141 (.agg #[.int .i64 1]), recovered := false }] ∧ Below w.heap.size w w' := by
  have x0 : w.cell? ⟨B, 0, none⟩ = some (.bool g1) := by simpa using hr 0 _ rfl
  have x1 : w.cell? ⟨B, 1, none⟩ = some (.slice q1 l1 c1) := by simpa using hr 1 _ rfl
  have x2 : w.cell? ⟨B, 2, none⟩ = some (.slice p1 m1 e1) := by simpa using hr 2 _ rfl
  have x3 : w.cell? ⟨B, 3, none⟩ = some (.bool g2) := by simpa using hr 3 _ rfl
  have x4 : w.cell? ⟨B, 4, none⟩ = some (.slice q2 l2 c2) := by simpa using hr 4 _ rfl
  have x5 : w.cell? ⟨B, 5, none⟩ = some (.slice p2 m2 e2) := by simpa using hr 5 _ rfl
  have x6 : w.cell? ⟨B, 6, none⟩ = some (.bool li) := by simpa using hr 6 _ rfl
  have x7 : w.cell? ⟨B, 7, none⟩ = some (.bool hh) := by simpa using hr 7 _ rfl
  have kk := k w (Below.refl _ _)
  go_enter Tryz.func77, Tryz.ntmps77
  go_wp2_with (go_at_call 57; refine kk.mono ?_; rintro e w5 ⟨rfl, hb5⟩)
  exact ⟨rfl, rfl, hb5⟩

set_option maxRecDepth 100000 in
set_option maxHeartbeats 2000000 in
/-- interval.IsEmpty. -/
theorem isEmpty_walk {w : World} {g1 g2 li hh : Bool} {q1 p1 q2 p2 : Option Addr} {l1 c1 m1 e1 l2 c2 m2 e2 : Nat} {b : Bool} {y : Int}
    (k : ∀ z, Below w.heap.size w z → w.heap.size < z.heap.size → z.rangeAt w.heap.size 0 [.bool g1, .slice q1 l1 c1, .slice p1 m1 e1, .bool g2, .slice q2 l2 c2, .slice p2 m2 e2, .bool li, .bool hh] → Calls Tryz.prog 55 #[.func (.func 77) #[] #[.pointer (some ⟨w.heap.size, 0, none⟩)]] z fun e w' => e = .returned (.tuple #[.bool b, .int .i64 y]) ∧ Below z.heap.size z w') :
    Calls Tryz.prog 48 #[.agg #[.bool g1, .slice q1 l1 c1, .slice p1 m1 e1, .bool g2, .slice q2 l2 c2, .slice p2 m2 e2, .bool li, .bool hh]] w fun e w' => e = .returned (.tuple #[.bool b, .int .i64 y]) ∧ Below w.heap.size w w' := by
  have hb0 := below_alloc w (.cells #[.bool g1, .slice q1 l1 c1, .slice p1 m1 e1, .bool g2, .slice q2 l2 c2, .slice p2 m2 e2, .bool li, .bool hh] 56)
  have kk := k _ hb0 (by simp) (range_new w [.bool g1, .slice q1 l1 c1, .slice p1 m1 e1, .bool g2, .slice q2 l2 c2, .slice p2 m2 e2, .bool li, .bool hh] 56)
  have hmf : ∀ (fn : Fn) (first cap : Array Value) (w : World), (Instr.makeFunc fn first cap).run Tryz.prog w = .ok (.func fn first cap) w := fun _ _ _ _ => rfl
  go_enter Tryz.func48, Tryz.ntmps48
  go_wp2_with (go_at_call 55; refine kk.mono ?_; rintro e w5 ⟨rfl, hb5⟩)
  go_ret2
  exact ⟨rfl, hb0.trans (hb5.mono hb0.size)⟩
end Go.Proofs.YtaonejnicgbifaaGreatDoor
