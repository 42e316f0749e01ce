import Derived.Test.YtaonejnicgbifaaGreatDoorPk17
namespace Go.Proofs.YtaonejnicgbifaaGreatDoor
open Go Go.RowKit

theorem Sl.notB {w : World} {v : Value} {xs : List Int} {N : Nat} {cs : Array Value} (h : Sl w v xs) {t : TypeId} (hN : BlkI w N t cs) (hc : NoW cs) : SlN N w v xs := by
  obtain ⟨h1, h2, q, cap, h3, h4, h5⟩ := h
  refine ⟨h1, h2, q, cap, h3, h4, ?_⟩
  by_cases hx : xs = []
  · exact .inl hx
  · rcases h5 with h5 | ⟨b, o, e, hlt, hcc⟩
    · exact absurd h5 hx
    · refine .inr ⟨b, o, e, hlt, ?_, hcc⟩
      rintro rfl
      exact hc _ _ ((hN.cell _).symm.trans (hcc 0 (List.length_pos_iff.2 hx)))
theorem FAt.sav {w w' : World} {v : Value} {g : Bool} {n d : Int} {N : Nat} {cs : Array Value} (h : FAt w v g n d) {t : TypeId} (hN : BlkI w N t cs) (hc : NoW cs) (hs : Sav N w w') : FAt w' v g n d := by
  obtain ⟨a, b, ns, ds, h1, h2, h3, h4, h5, h6, h7⟩ := h
  exact ⟨a, b, ns, ds, h1, ((h2.notB hN hc).sav hs).sl, h3, h4, ((h5.notB hN hc).sav hs).sl, h6, h7⟩
/-- A fraction's form. -/
theorem FAt.form {w : World} {v : Value} {g : Bool} {n d : Int} (h : FAt w v g n d) : ∃ a1 n1 k1 a2 n2 k2, v = .agg #[.bool g, .slice a1 n1 k1, .slice a2 n2 k2] := by
  obtain ⟨a, b, ns, ds, rfl, h2, _, _, h5, _⟩ := h
  obtain ⟨q, c, rfl⟩ := h2.form
  obtain ⟨q', c', rfl⟩ := h5.form
  exact ⟨_, _, _, _, _, _, rfl⟩
theorem set_row : ∃ d, Tryz.prog.underlying 109 = some d ∧ d.isRow = true := ⟨_, Tryz.underlying109, rfl⟩
theorem set_size : (Tryz.prog.info? 109).map (·.size) = some 9 := by kernel_rfl
/-- The set's variable behind its store. -/
theorem set_end {W0 w : World} {N : Nat} {G1 G2 : Bool} {X1 Y1 X2 Y2 : Int} {a1 a2 b1 b2 : Option Addr} {n1 k1 n2 k2 r1 s1 r2 s2 : Nat} (li hh vd : Bool) (hN : W0.heap.size ≤ N) (h0 : BlkI w N 109 #[.bool false, .slice none 0 0, .slice none 0 0, .bool false, .slice none 0 0, .slice none 0 0, .bool false, .bool false, .bool false]) (h1 : FAt w (.agg #[.bool G1, .slice a1 n1 k1, .slice a2 n2 k2]) G1 X1 Y1) (h2 : FAt w (.agg #[.bool G2, .slice b1 r1 s1, .slice b2 r2 s2]) G2 X2 Y2) (hb : Below W0.heap.size W0 w) :
    ∀ w9, w9 = (((((((((w.setCell ⟨N, 0, none⟩ (.bool G1)).setCell ⟨N, 1, none⟩ (.slice a1 n1 k1)).setCell ⟨N, 2, none⟩ (.slice a2 n2 k2)).setCell ⟨N, 3, none⟩ (.bool G2)).setCell ⟨N, 4, none⟩ (.slice b1 r1 s1)).setCell ⟨N, 5, none⟩ (.slice b2 r2 s2)).setCell ⟨N, 6, none⟩ (.bool li)).setCell ⟨N, 7, none⟩ (.bool hh)).setCell ⟨N, 8, none⟩ (.bool vd)) →
      Hid (BlkI w9 N 109 #[.bool G1, .slice a1 n1 k1, .slice a2 n2 k2, .bool G2, .slice b1 r1 s1, .slice b2 r2 s2, .bool li, .bool hh, .bool vd]) ∧ Hid (FAt w9 (.agg #[.bool G1, .slice a1 n1 k1, .slice a2 n2 k2]) G1 X1 Y1) ∧ Hid (FAt w9 (.agg #[.bool G2, .slice b1 r1 s1, .slice b2 r2 s2]) G2 X2 Y2) ∧ Hid (Below W0.heap.size W0 w9) ∧ Hid (Sav N w w9) := by
  rintro w9 rfl
  obtain ⟨h3, h4⟩ := store9 h0 (.bool G1) (.slice a1 n1 k1) (.slice a2 n2 k2) (.bool G2) (.slice b1 r1 s1) (.slice b2 r2 s2) (.bool li) (.bool hh) (.bool vd)
  exact ⟨h3, h1.sav h0 noint9 h4, h2.sav h0 noint9 h4, hb.trans (h4.below hN hb.size), h4⟩

set_option maxRecDepth 100000 in
set_option maxHeartbeats 8000000 in
theorem read_walk {w : World} {g1 g2 li hh : Bool} {q1 p1 q2 p2 : Option Addr} {l1 c1 m1 e1 l2 c2 m2 e2 : Nat} {G1 G2 : Bool} {X1 Y1 X2 Y2 : Int} (k1 : (∀ z, Below w.heap.size w z → Calls Tryz.prog 86 #[.agg #[.bool g1, .slice q1 l1 c1, .slice p1 m1 e1]] z fun e w' => ∃ f, e = .returned f ∧ FAt w' f G1 X1 Y1 ∧ Below z.heap.size z w')) (k2 : (∀ z, Below w.heap.size w z → Calls Tryz.prog 86 #[.agg #[.bool g2, .slice q2 l2 c2, .slice p2 m2 e2]] z fun e w' => ∃ f, e = .returned f ∧ FAt w' f G2 X2 Y2 ∧ Below z.heap.size z w')) :
    Calls Tryz.prog 57 #[.agg #[.bool g1, .slice q1 l1 c1, .slice p1 m1 e1, .bool g2, .slice q2 l2 c2, .slice p2 m2 e2, .bool li, .bool hh]] w fun e w' => ∃ a1 n1 k1 a2 n2 k2 b1 r1 s1 b2 r2 s2, e = .returned (.agg #[.bool G1, .slice a1 n1 k1, .slice a2 n2 k2, .bool G2, .slice b1 r1 s1, .slice b2 r2 s2, .bool li, .bool hh, .bool (!li && (!hh && decide (0 < fcS G1 X1 Y1 G2 X2 Y2)))]) ∧ FAt w' (.agg #[.bool G1, .slice a1 n1 k1, .slice a2 n2 k2]) G1 X1 Y1 ∧ FAt w' (.agg #[.bool G2, .slice b1 r1 s1, .slice b2 r2 s2]) G2 X2 Y2 ∧ Below w.heap.size w w' := by
  obtain ⟨dd, hu, hd⟩ := set_row
  have hb0 : Hid (Below w.heap.size w ((w.alloc (.cells #[.bool g1, .slice q1 l1 c1, .slice p1 m1 e1, .bool g2, .slice q2 l2 c2, .slice p2 m2 e2, .bool li, .bool hh] 56)).alloc (.cells #[.bool false, .slice none 0 0, .slice none 0 0, .bool false, .slice none 0 0, .slice none 0 0, .bool false, .bool false, .bool false] 109))) := below_two w _ _
  have h1 : Hid (∀ z, Below w.heap.size w z → Calls Tryz.prog 86 #[.agg #[.bool g1, .slice q1 l1 c1, .slice p1 m1 e1]] z fun e w' => ∃ f, e = .returned f ∧ FAt w' f G1 X1 Y1 ∧ Below z.heap.size z w') := k1
  have h2 : Hid (∀ z, Below w.heap.size w z → Calls Tryz.prog 86 #[.agg #[.bool g2, .slice q2 l2 c2, .slice p2 m2 e2]] z fun e w' => ∃ f, e = .returned f ∧ FAt w' f G2 X2 Y2 ∧ Below z.heap.size z w') := k2
  have hS0 : (fun z => z.cell? ⟨w.heap.size, 0, none⟩ = some (.bool g1) ∧ z.cell? ⟨w.heap.size, 1, none⟩ = some (.slice q1 l1 c1) ∧ z.cell? ⟨w.heap.size, 2, none⟩ = some (.slice p1 m1 e1) ∧ z.cell? ⟨w.heap.size, 3, none⟩ = some (.bool g2) ∧ z.cell? ⟨w.heap.size, 4, none⟩ = some (.slice q2 l2 c2) ∧ z.cell? ⟨w.heap.size, 5, none⟩ = some (.slice p2 m2 e2) ∧ z.cell? ⟨w.heap.size, 6, none⟩ = some (.bool li) ∧ z.cell? ⟨w.heap.size, 7, none⟩ = some (.bool hh)) ((w.alloc (.cells #[.bool g1, .slice q1 l1 c1, .slice p1 m1 e1, .bool g2, .slice q2 l2 c2, .slice p2 m2 e2, .bool li, .bool hh] 56)).alloc (.cells #[.bool false, .slice none 0 0, .slice none 0 0, .bool false, .slice none 0 0, .slice none 0 0, .bool false, .bool false, .bool false] 109)) := ⟨by simp, by simp, by simp, by simp, by simp, by simp, by simp, by simp⟩
  have hz0 : ((w.alloc (.cells #[.bool g1, .slice q1 l1 c1, .slice p1 m1 e1, .bool g2, .slice q2 l2 c2, .slice p2 m2 e2, .bool li, .bool hh] 56)).alloc (.cells #[.bool false, .slice none 0 0, .slice none 0 0, .bool false, .slice none 0 0, .slice none 0 0, .bool false, .bool false, .bool false] 109)).heap.size = w.heap.size + 2 := by simp
  have hBR : Hid (BlkI ((w.alloc (.cells #[.bool g1, .slice q1 l1 c1, .slice p1 m1 e1, .bool g2, .slice q2 l2 c2, .slice p2 m2 e2, .bool li, .bool hh] 56)).alloc (.cells #[.bool false, .slice none 0 0, .slice none 0 0, .bool false, .slice none 0 0, .slice none 0 0, .bool false, .bool false, .bool false] 109)) (w.heap.size + 1) 109 #[.bool false, .slice none 0 0, .slice none 0 0, .bool false, .slice none 0 0, .slice none 0 0, .bool false, .bool false, .bool false]) := by
    have h1 : BlkI ((w.alloc (.cells #[.bool g1, .slice q1 l1 c1, .slice p1 m1 e1, .bool g2, .slice q2 l2 c2, .slice p2 m2 e2, .bool li, .bool hh] 56)).alloc (.cells #[.bool false, .slice none 0 0, .slice none 0 0, .bool false, .slice none 0 0, .slice none 0 0, .bool false, .bool false, .bool false] 109)) (w.alloc (.cells #[.bool g1, .slice q1 l1 c1, .slice p1 m1 e1, .bool g2, .slice q2 l2 c2, .slice p2 m2 e2, .bool li, .bool hh] 56)).heap.size 109 #[.bool false, .slice none 0 0, .slice none 0 0, .bool false, .slice none 0 0, .slice none 0 0, .bool false, .bool false, .bool false] := heap_alloc_new _ _
    rwa [show (w.alloc (.cells #[.bool g1, .slice q1 l1 c1, .slice p1 m1 e1, .bool g2, .slice q2 l2 c2, .slice p2 m2 e2, .bool li, .bool hh] 56)).heap.size = w.heap.size + 1 by simp] at h1
  obtain ⟨V, hV⟩ : ∃ V, Hid ((!li && (!hh && decide (0 < fcS G1 X1 Y1 G2 X2 Y2))) = V) := ⟨_, rfl⟩
  rw [hV.out]
  clear k1 k2
  go_enter Tryz.func57, Tryz.ntmps57
  go_upto_region 1 with fail
  generalize ((w.alloc (.cells #[.bool g1, .slice q1 l1 c1, .slice p1 m1 e1, .bool g2, .slice q2 l2 c2, .slice p2 m2 e2, .bool li, .bool hh] 56)).alloc (.cells #[.bool false, .slice none 0 0, .slice none 0 0, .bool false, .slice none 0 0, .slice none 0 0, .bool false, .bool false, .bool false] 109)) = W0 at *
  have hsT : w.heap.size < W0.heap.size := by omega
  have hsT' : w.heap.size < W0.drew.heap.size := hsT
  go_cut [3] from 3 to 14 (fun v3 wx => ∃ N a1 n1 k1 a2 n2 k2 b1 r1 s1 b2 r2 s2, v3 = .pointer (some ⟨N, 0, none⟩) ∧ w.heap.size + 2 ≤ N ∧ Hid (BlkI wx N 109 #[.bool G1, .slice a1 n1 k1, .slice a2 n2 k2, .bool G2, .slice b1 r1 s1, .slice b2 r2 s2, .bool li, .bool hh, .bool false]) ∧ Hid (FAt wx (.agg #[.bool G1, .slice a1 n1 k1, .slice a2 n2 k2]) G1 X1 Y1) ∧ Hid (FAt wx (.agg #[.bool G2, .slice b1 r1 s1, .slice b2 r2 s2]) G2 X2 Y2) ∧ Hid (Below W0.heap.size W0 wx))
  case first =>
    refine wp_region_held_drew (S := (fun z => z.cell? ⟨w.heap.size, 0, none⟩ = some (.bool g1) ∧ z.cell? ⟨w.heap.size, 1, none⟩ = some (.slice q1 l1 c1) ∧ z.cell? ⟨w.heap.size, 2, none⟩ = some (.slice p1 m1 e1) ∧ z.cell? ⟨w.heap.size, 3, none⟩ = some (.bool g2) ∧ z.cell? ⟨w.heap.size, 4, none⟩ = some (.slice q2 l2 c2) ∧ z.cell? ⟨w.heap.size, 5, none⟩ = some (.slice p2 m2 e2) ∧ z.cell? ⟨w.heap.size, 6, none⟩ = some (.bool li) ∧ z.cell? ⟨w.heap.size, 7, none⟩ = some (.bool hh))) (by kernel_rfl) hS0 (fun hHeld => ?_)
    refine wpAnyH_take (i := 0) (v := .pointer (some ⟨w.heap.size, 0, none⟩)) rfl (by kernel_rfl) (by kernel_rfl) (by kernel_rfl) (fun _ _ _ h => h) (.inl ⟨by rfl, fun z hSz => by go_simp⟩) hHeld ?_
    simp only [Act.put, List.getElem_toArray, List.getElem_cons_succ, List.getElem_cons_zero, List.setIfInBounds_toArray, List.set_cons_zero, List.set_cons_succ]
    refine wpAnyH_take (i := 1) (v := .agg #[.bool g1, .slice q1 l1 c1, .slice p1 m1 e1]) rfl (by kernel_rfl) (by kernel_rfl) (by kernel_rfl) (fun _ _ _ h => h) (.inl ⟨by rfl, fun z hSz => by go_simp⟩) hHeld ?_
    simp only [Act.put, List.getElem_toArray, List.getElem_cons_succ, List.getElem_cons_zero, List.setIfInBounds_toArray, List.set_cons_zero, List.set_cons_succ]
    refine wpAnyH_take (i := 3) (v := .pointer (some ⟨w.heap.size, 3, none⟩)) rfl (by kernel_rfl) (by kernel_rfl) (by kernel_rfl) (fun _ _ _ h => h) (.inl ⟨by rfl, fun z hSz => by go_simp⟩) hHeld ?_
    simp only [Act.put, List.getElem_toArray, List.getElem_cons_succ, List.getElem_cons_zero, List.setIfInBounds_toArray, List.set_cons_zero, List.set_cons_succ]
    refine wpAnyH_take (i := 4) (v := .agg #[.bool g2, .slice q2 l2 c2, .slice p2 m2 e2]) rfl (by kernel_rfl) (by kernel_rfl) (by kernel_rfl) (fun _ _ _ h => h) (.inl ⟨by rfl, fun z hSz => by go_simp⟩) hHeld ?_
    simp only [Act.put, List.getElem_toArray, List.getElem_cons_succ, List.getElem_cons_zero, List.setIfInBounds_toArray, List.set_cons_zero, List.set_cons_succ]
    refine wpAnyH_take (i := 6) (v := .pointer (some ⟨w.heap.size, 6, none⟩)) rfl (by kernel_rfl) (by kernel_rfl) (by kernel_rfl) (fun _ _ _ h => h) (.inl ⟨by rfl, fun z hSz => by go_simp⟩) hHeld ?_
    simp only [Act.put, List.getElem_toArray, List.getElem_cons_succ, List.getElem_cons_zero, List.setIfInBounds_toArray, List.set_cons_zero, List.set_cons_succ]
    refine wpAnyH_take (i := 7) (v := .bool li) rfl (by kernel_rfl) (by kernel_rfl) (by kernel_rfl) (fun _ _ _ h => h) (.inl ⟨by rfl, fun z hSz => by go_simp⟩) hHeld ?_
    simp only [Act.put, List.getElem_toArray, List.getElem_cons_succ, List.getElem_cons_zero, List.setIfInBounds_toArray, List.set_cons_zero, List.set_cons_succ]
    refine wpAnyH_take (i := 8) (v := .pointer (some ⟨w.heap.size, 7, none⟩)) rfl (by kernel_rfl) (by kernel_rfl) (by kernel_rfl) (fun _ _ _ h => h) (.inl ⟨by rfl, fun z hSz => by go_simp⟩) hHeld ?_
    simp only [Act.put, List.getElem_toArray, List.getElem_cons_succ, List.getElem_cons_zero, List.setIfInBounds_toArray, List.set_cons_zero, List.set_cons_succ]
    refine wpAnyH_take (i := 9) (v := .bool hh) rfl (by kernel_rfl) (by kernel_rfl) (by kernel_rfl) (fun _ _ _ h => h) (.inl ⟨by rfl, fun z hSz => by go_simp⟩) hHeld ?_
    simp only [Act.put, List.getElem_toArray, List.getElem_cons_succ, List.getElem_cons_zero, List.setIfInBounds_toArray, List.set_cons_zero, List.set_cons_succ]
    refine wpAnyH_ready (rs := [2, 11]) (by kernel_rfl) (by simp) ?_
    refine AllReadyH.cons rfl (fun K hK => ?_) (AllReadyH.cons rfl (fun K hK => ?_) AllReadyH.nil)
    · go_simp
      refine (h1.out _ hb0.out.drew).mono ?_
      rintro e w11 ⟨f, rfl, hf1, hb1⟩
      obtain ⟨a1, n1, k1, a2, n2, k2, rfl⟩ := hf1.form
      have H1 : (fun z => z.cell? ⟨w.heap.size, 0, none⟩ = some (.bool g1) ∧ z.cell? ⟨w.heap.size, 1, none⟩ = some (.slice q1 l1 c1) ∧ z.cell? ⟨w.heap.size, 2, none⟩ = some (.slice p1 m1 e1) ∧ z.cell? ⟨w.heap.size, 3, none⟩ = some (.bool g2) ∧ z.cell? ⟨w.heap.size, 4, none⟩ = some (.slice q2 l2 c2) ∧ z.cell? ⟨w.heap.size, 5, none⟩ = some (.slice p2 m2 e2) ∧ z.cell? ⟨w.heap.size, 6, none⟩ = some (.bool li) ∧ z.cell? ⟨w.heap.size, 7, none⟩ = some (.bool hh)) w11 := ⟨(hb1.cell (by exact hsT')).trans hS0.1, (hb1.cell (by exact hsT')).trans hS0.2.1, (hb1.cell (by exact hsT')).trans hS0.2.2.1, (hb1.cell (by exact hsT')).trans hS0.2.2.2.1, (hb1.cell (by exact hsT')).trans hS0.2.2.2.2.1, (hb1.cell (by exact hsT')).trans hS0.2.2.2.2.2.1, (hb1.cell (by exact hsT')).trans hS0.2.2.2.2.2.2.1, (hb1.cell (by exact hsT')).trans hS0.2.2.2.2.2.2.2⟩
      have lt1 : w.heap.size < w11.heap.size := Nat.lt_of_lt_of_le hsT' hb1.size
      have W1 : Hid (Below w.heap.size w w11) := hb0.out.drew.trans (hb1.mono hb0.out.drew.size)
      have T1 : Hid (Below W0.heap.size W0 w11) := (Below.refl W0.heap.size W0).drew.trans (hb1.mono (Below.refl W0.heap.size W0).drew.size)
      have F11 : Hid (FAt w11 (.agg #[.bool G1, .slice a1 n1 k1, .slice a2 n2 k2]) G1 X1 Y1) := hf1
      refine hK.out _ _ H1 (fun hHeld1 => ?_)
      clear hK K hHeld hf1
      refine wpAnyH_ready (rs := [5, 11]) (by kernel_rfl) (by simp) ?_
      refine AllReadyH.cons rfl (fun K hK => ?_) (AllReadyH.cons rfl (fun K hK => ?_) AllReadyH.nil)
      · go_simp
        refine (h2.out _ W1.out).mono ?_
        rintro e w12 ⟨f, rfl, hf2, hb2⟩
        obtain ⟨b1, r1, s1, b2, r2, s2, rfl⟩ := hf2.form
        have H2 : (fun z => z.cell? ⟨w.heap.size, 0, none⟩ = some (.bool g1) ∧ z.cell? ⟨w.heap.size, 1, none⟩ = some (.slice q1 l1 c1) ∧ z.cell? ⟨w.heap.size, 2, none⟩ = some (.slice p1 m1 e1) ∧ z.cell? ⟨w.heap.size, 3, none⟩ = some (.bool g2) ∧ z.cell? ⟨w.heap.size, 4, none⟩ = some (.slice q2 l2 c2) ∧ z.cell? ⟨w.heap.size, 5, none⟩ = some (.slice p2 m2 e2) ∧ z.cell? ⟨w.heap.size, 6, none⟩ = some (.bool li) ∧ z.cell? ⟨w.heap.size, 7, none⟩ = some (.bool hh)) w12 := ⟨(hb2.cell (by exact lt1)).trans H1.1, (hb2.cell (by exact lt1)).trans H1.2.1, (hb2.cell (by exact lt1)).trans H1.2.2.1, (hb2.cell (by exact lt1)).trans H1.2.2.2.1, (hb2.cell (by exact lt1)).trans H1.2.2.2.2.1, (hb2.cell (by exact lt1)).trans H1.2.2.2.2.2.1, (hb2.cell (by exact lt1)).trans H1.2.2.2.2.2.2.1, (hb2.cell (by exact lt1)).trans H1.2.2.2.2.2.2.2⟩
        have lt2 : w.heap.size < w12.heap.size := Nat.lt_of_lt_of_le lt1 hb2.size
        have W2 : Hid (Below w.heap.size w w12) := W1.out.trans (hb2.mono W1.out.size)
        have T2 : Hid (Below W0.heap.size W0 w12) := T1.out.trans (hb2.mono T1.out.size)
        have F12 : Hid (FAt w12 (.agg #[.bool G1, .slice a1 n1 k1, .slice a2 n2 k2]) G1 X1 Y1) := F11.out.below hb2
        have F22 : Hid (FAt w12 (.agg #[.bool G2, .slice b1 r1 s1, .slice b2 r2 s2]) G2 X2 Y2) := hf2
        refine hK.out _ _ H2 (fun hHeld2 => ?_)
        clear hK K hHeld1 hf2 H1
        refine wpAnyH_take (i := 10) (v := .agg #[.bool G1, .slice a1 n1 k1, .slice a2 n2 k2, .bool G2, .slice b1 r1 s1, .slice b2 r2 s2, .bool li, .bool hh, .bool false]) rfl (by kernel_rfl) (by kernel_rfl) (by kernel_rfl) (fun _ _ _ h => h) (.inl ⟨by rfl, fun z hSz => by go_simp⟩) hHeld2 ?_
        simp only [Act.put, List.getElem_toArray, List.getElem_cons_succ, List.getElem_cons_zero, List.setIfInBounds_toArray, List.set_cons_zero, List.set_cons_succ]
        refine wpAnyH_ready (rs := [11]) (by kernel_rfl) (by simp) ?_
        refine AllReadyH.cons rfl (fun K hK => ?_) AllReadyH.nil
        go_simp
        have hb3 := below_alloc w12 (.cells #[.bool false, .slice none 0 0, .slice none 0 0, .bool false, .slice none 0 0, .slice none 0 0, .bool false, .bool false, .bool false] 109)
        have bk3 : BlkI (w12.alloc (.cells #[.bool false, .slice none 0 0, .slice none 0 0, .bool false, .slice none 0 0, .slice none 0 0, .bool false, .bool false, .bool false] 109)) w12.heap.size 109 #[.bool false, .slice none 0 0, .slice none 0 0, .bool false, .slice none 0 0, .slice none 0 0, .bool false, .bool false, .bool false] := heap_alloc_new _ _
        obtain ⟨w13, hw3⟩ : ∃ v, v = w12.alloc (.cells #[.bool false, .slice none 0 0, .slice none 0 0, .bool false, .slice none 0 0, .slice none 0 0, .bool false, .bool false, .bool false] 109) := ⟨_, rfl⟩
        rw [← hw3] at hb3 bk3 ⊢
        clear hw3
        have H3 : (fun z => z.cell? ⟨w.heap.size, 0, none⟩ = some (.bool g1) ∧ z.cell? ⟨w.heap.size, 1, none⟩ = some (.slice q1 l1 c1) ∧ z.cell? ⟨w.heap.size, 2, none⟩ = some (.slice p1 m1 e1) ∧ z.cell? ⟨w.heap.size, 3, none⟩ = some (.bool g2) ∧ z.cell? ⟨w.heap.size, 4, none⟩ = some (.slice q2 l2 c2) ∧ z.cell? ⟨w.heap.size, 5, none⟩ = some (.slice p2 m2 e2) ∧ z.cell? ⟨w.heap.size, 6, none⟩ = some (.bool li) ∧ z.cell? ⟨w.heap.size, 7, none⟩ = some (.bool hh)) w13 := ⟨(hb3.cell (by exact lt2)).trans H2.1, (hb3.cell (by exact lt2)).trans H2.2.1, (hb3.cell (by exact lt2)).trans H2.2.2.1, (hb3.cell (by exact lt2)).trans H2.2.2.2.1, (hb3.cell (by exact lt2)).trans H2.2.2.2.2.1, (hb3.cell (by exact lt2)).trans H2.2.2.2.2.2.1, (hb3.cell (by exact lt2)).trans H2.2.2.2.2.2.2.1, (hb3.cell (by exact lt2)).trans H2.2.2.2.2.2.2.2⟩
        have lt3 : w.heap.size < w13.heap.size := Nat.lt_of_lt_of_le lt2 hb3.size
        have W3 : Hid (Below w.heap.size w w13) := W2.out.trans (hb3.mono W2.out.size)
        have T3 : Hid (Below W0.heap.size W0 w13) := T2.out.trans (hb3.mono T2.out.size)
        have F13 : Hid (FAt w13 (.agg #[.bool G1, .slice a1 n1 k1, .slice a2 n2 k2]) G1 X1 Y1) := F12.out.below hb3
        have F23 : Hid (FAt w13 (.agg #[.bool G2, .slice b1 r1 s1, .slice b2 r2 s2]) G2 X2 Y2) := F22.out.below hb3
        have BK3 : Hid (BlkI w13 w12.heap.size 109 #[.bool false, .slice none 0 0, .slice none 0 0, .bool false, .slice none 0 0, .slice none 0 0, .bool false, .bool false, .bool false]) := bk3
        have NN3 : Hid (W0.heap.size ≤ w12.heap.size) := T2.out.size
        refine hK.out _ _ H3 (fun hHeld3 => ?_)
        clear hK K hHeld2 bk3 H2
        have z0 : w13.cell? ⟨w12.heap.size, 0, none⟩ = some (.bool false) := BK3.out.cell 0
        have z1 : w13.cell? ⟨w12.heap.size, 1, none⟩ = some (.slice none 0 0) := BK3.out.cell 1
        have z2 : w13.cell? ⟨w12.heap.size, 2, none⟩ = some (.slice none 0 0) := BK3.out.cell 2
        have z3 : w13.cell? ⟨w12.heap.size, 3, none⟩ = some (.bool false) := BK3.out.cell 3
        have z4 : w13.cell? ⟨w12.heap.size, 4, none⟩ = some (.slice none 0 0) := BK3.out.cell 4
        have z5 : w13.cell? ⟨w12.heap.size, 5, none⟩ = some (.slice none 0 0) := BK3.out.cell 5
        have z6 : w13.cell? ⟨w12.heap.size, 6, none⟩ = some (.bool false) := BK3.out.cell 6
        have z7 : w13.cell? ⟨w12.heap.size, 7, none⟩ = some (.bool false) := BK3.out.cell 7
        have z8 : w13.cell? ⟨w12.heap.size, 8, none⟩ = some (.bool false) := BK3.out.cell 8
        have fr : ∀ j, w13.frozen? ⟨w12.heap.size, j, none⟩ = false := BK3.out.fr
        have hne : w.heap.size ≠ w12.heap.size := by have := NN3.out; omega
        refine wpAnyH_ready (rs := [12]) (by kernel_rfl) (by simp) ?_
        refine AllReadyH.cons rfl (fun K hK => ?_) AllReadyH.nil
        go_simp
        obtain ⟨w9, hw9⟩ : ∃ v, v = (((((((((w13.setCell ⟨w12.heap.size, 0, none⟩ (.bool G1)).setCell ⟨w12.heap.size, 1, none⟩ (.slice a1 n1 k1)).setCell ⟨w12.heap.size, 2, none⟩ (.slice a2 n2 k2)).setCell ⟨w12.heap.size, 3, none⟩ (.bool G2)).setCell ⟨w12.heap.size, 4, none⟩ (.slice b1 r1 s1)).setCell ⟨w12.heap.size, 5, none⟩ (.slice b2 r2 s2)).setCell ⟨w12.heap.size, 6, none⟩ (.bool li)).setCell ⟨w12.heap.size, 7, none⟩ (.bool hh)).setCell ⟨w12.heap.size, 8, none⟩ (.bool false)) := ⟨_, rfl⟩
        rw [← hw9]
        obtain ⟨E1, E2, E3, E4, E5⟩ := set_end li hh false NN3.out BK3.out F13.out F23.out T3.out w9 hw9
        clear hw9
        have H9 : (fun z => z.cell? ⟨w.heap.size, 0, none⟩ = some (.bool g1) ∧ z.cell? ⟨w.heap.size, 1, none⟩ = some (.slice q1 l1 c1) ∧ z.cell? ⟨w.heap.size, 2, none⟩ = some (.slice p1 m1 e1) ∧ z.cell? ⟨w.heap.size, 3, none⟩ = some (.bool g2) ∧ z.cell? ⟨w.heap.size, 4, none⟩ = some (.slice q2 l2 c2) ∧ z.cell? ⟨w.heap.size, 5, none⟩ = some (.slice p2 m2 e2) ∧ z.cell? ⟨w.heap.size, 6, none⟩ = some (.bool li) ∧ z.cell? ⟨w.heap.size, 7, none⟩ = some (.bool hh)) w9 := ⟨(E5.out.cell (by exact lt3) (by exact hne)).trans H3.1, (E5.out.cell (by exact lt3) (by exact hne)).trans H3.2.1, (E5.out.cell (by exact lt3) (by exact hne)).trans H3.2.2.1, (E5.out.cell (by exact lt3) (by exact hne)).trans H3.2.2.2.1, (E5.out.cell (by exact lt3) (by exact hne)).trans H3.2.2.2.2.1, (E5.out.cell (by exact lt3) (by exact hne)).trans H3.2.2.2.2.2.1, (E5.out.cell (by exact lt3) (by exact hne)).trans H3.2.2.2.2.2.2.1, (E5.out.cell (by exact lt3) (by exact hne)).trans H3.2.2.2.2.2.2.2⟩
        refine hK.out _ _ H9 (fun hHeld9 => ?_)
        clear hK K hHeld3
        refine wpAnyH_done (by kernel_rfl) ?_ _
        have hNN : w.heap.size + 2 ≤ w12.heap.size := by have := NN3.out; omega
        clear hHeld9 H9 z0 z1 z2 z3 z4 z5 z6 z7 z8 fr
        go_wp2_with fail
        go_meet
        case rel => exact ⟨_, a1, n1, k1, a2, n2, k2, b1, r1, s1, b2, r2, s2, rfl, hNN, E1, E2, E3, E4⟩
      · go_simp
        have hb4 := below_alloc w11 (.cells #[.bool false, .slice none 0 0, .slice none 0 0, .bool false, .slice none 0 0, .slice none 0 0, .bool false, .bool false, .bool false] 109)
        have bk4 : BlkI (w11.alloc (.cells #[.bool false, .slice none 0 0, .slice none 0 0, .bool false, .slice none 0 0, .slice none 0 0, .bool false, .bool false, .bool false] 109)) w11.heap.size 109 #[.bool false, .slice none 0 0, .slice none 0 0, .bool false, .slice none 0 0, .slice none 0 0, .bool false, .bool false, .bool false] := heap_alloc_new _ _
        obtain ⟨w14, hw4⟩ : ∃ v, v = w11.alloc (.cells #[.bool false, .slice none 0 0, .slice none 0 0, .bool false, .slice none 0 0, .slice none 0 0, .bool false, .bool false, .bool false] 109) := ⟨_, rfl⟩
        rw [← hw4] at hb4 bk4 ⊢
        clear hw4
        have H4 : (fun z => z.cell? ⟨w.heap.size, 0, none⟩ = some (.bool g1) ∧ z.cell? ⟨w.heap.size, 1, none⟩ = some (.slice q1 l1 c1) ∧ z.cell? ⟨w.heap.size, 2, none⟩ = some (.slice p1 m1 e1) ∧ z.cell? ⟨w.heap.size, 3, none⟩ = some (.bool g2) ∧ z.cell? ⟨w.heap.size, 4, none⟩ = some (.slice q2 l2 c2) ∧ z.cell? ⟨w.heap.size, 5, none⟩ = some (.slice p2 m2 e2) ∧ z.cell? ⟨w.heap.size, 6, none⟩ = some (.bool li) ∧ z.cell? ⟨w.heap.size, 7, none⟩ = some (.bool hh)) w14 := ⟨(hb4.cell (by exact lt1)).trans H1.1, (hb4.cell (by exact lt1)).trans H1.2.1, (hb4.cell (by exact lt1)).trans H1.2.2.1, (hb4.cell (by exact lt1)).trans H1.2.2.2.1, (hb4.cell (by exact lt1)).trans H1.2.2.2.2.1, (hb4.cell (by exact lt1)).trans H1.2.2.2.2.2.1, (hb4.cell (by exact lt1)).trans H1.2.2.2.2.2.2.1, (hb4.cell (by exact lt1)).trans H1.2.2.2.2.2.2.2⟩
        have lt4 : w.heap.size < w14.heap.size := Nat.lt_of_lt_of_le lt1 hb4.size
        have W4 : Hid (Below w.heap.size w w14) := W1.out.trans (hb4.mono W1.out.size)
        have T4 : Hid (Below W0.heap.size W0 w14) := T1.out.trans (hb4.mono T1.out.size)
        have F14 : Hid (FAt w14 (.agg #[.bool G1, .slice a1 n1 k1, .slice a2 n2 k2]) G1 X1 Y1) := F11.out.below hb4
        have BK4 : Hid (BlkI w14 w11.heap.size 109 #[.bool false, .slice none 0 0, .slice none 0 0, .bool false, .slice none 0 0, .slice none 0 0, .bool false, .bool false, .bool false]) := bk4
        have NN4 : Hid (W0.heap.size ≤ w11.heap.size) := T1.out.size
        refine hK.out _ _ H4 (fun hHeld4 => ?_)
        clear hK K hHeld1 bk4 H1
        refine wpAnyH_ready (rs := [5]) (by kernel_rfl) (by simp) ?_
        refine AllReadyH.cons rfl (fun K hK => ?_) AllReadyH.nil
        go_simp
        refine (h2.out _ W4.out).mono ?_
        rintro e w15 ⟨f, rfl, hf5, hb5⟩
        obtain ⟨b1, r1, s1, b2, r2, s2, rfl⟩ := hf5.form
        have H5 : (fun z => z.cell? ⟨w.heap.size, 0, none⟩ = some (.bool g1) ∧ z.cell? ⟨w.heap.size, 1, none⟩ = some (.slice q1 l1 c1) ∧ z.cell? ⟨w.heap.size, 2, none⟩ = some (.slice p1 m1 e1) ∧ z.cell? ⟨w.heap.size, 3, none⟩ = some (.bool g2) ∧ z.cell? ⟨w.heap.size, 4, none⟩ = some (.slice q2 l2 c2) ∧ z.cell? ⟨w.heap.size, 5, none⟩ = some (.slice p2 m2 e2) ∧ z.cell? ⟨w.heap.size, 6, none⟩ = some (.bool li) ∧ z.cell? ⟨w.heap.size, 7, none⟩ = some (.bool hh)) w15 := ⟨(hb5.cell (by exact lt4)).trans H4.1, (hb5.cell (by exact lt4)).trans H4.2.1, (hb5.cell (by exact lt4)).trans H4.2.2.1, (hb5.cell (by exact lt4)).trans H4.2.2.2.1, (hb5.cell (by exact lt4)).trans H4.2.2.2.2.1, (hb5.cell (by exact lt4)).trans H4.2.2.2.2.2.1, (hb5.cell (by exact lt4)).trans H4.2.2.2.2.2.2.1, (hb5.cell (by exact lt4)).trans H4.2.2.2.2.2.2.2⟩
        have lt5 : w.heap.size < w15.heap.size := Nat.lt_of_lt_of_le lt4 hb5.size
        have W5 : Hid (Below w.heap.size w w15) := W4.out.trans (hb5.mono W4.out.size)
        have T5 : Hid (Below W0.heap.size W0 w15) := T4.out.trans (hb5.mono T4.out.size)
        have F15 : Hid (FAt w15 (.agg #[.bool G1, .slice a1 n1 k1, .slice a2 n2 k2]) G1 X1 Y1) := F14.out.below hb5
        have BK5 : Hid (BlkI w15 w11.heap.size 109 #[.bool false, .slice none 0 0, .slice none 0 0, .bool false, .slice none 0 0, .slice none 0 0, .bool false, .bool false, .bool false]) := BK4.out.below hb5
        have F25 : Hid (FAt w15 (.agg #[.bool G2, .slice b1 r1 s1, .slice b2 r2 s2]) G2 X2 Y2) := hf5
        refine hK.out _ _ H5 (fun hHeld5 => ?_)
        clear hK K hHeld4 hf5 H4
        refine wpAnyH_take (i := 10) (v := .agg #[.bool G1, .slice a1 n1 k1, .slice a2 n2 k2, .bool G2, .slice b1 r1 s1, .slice b2 r2 s2, .bool li, .bool hh, .bool false]) rfl (by kernel_rfl) (by kernel_rfl) (by kernel_rfl) (fun _ _ _ h => h) (.inl ⟨by rfl, fun z hSz => by go_simp⟩) hHeld5 ?_
        simp only [Act.put, List.getElem_toArray, List.getElem_cons_succ, List.getElem_cons_zero, List.setIfInBounds_toArray, List.set_cons_zero, List.set_cons_succ]
        have z0 : w15.cell? ⟨w11.heap.size, 0, none⟩ = some (.bool false) := BK5.out.cell 0
        have z1 : w15.cell? ⟨w11.heap.size, 1, none⟩ = some (.slice none 0 0) := BK5.out.cell 1
        have z2 : w15.cell? ⟨w11.heap.size, 2, none⟩ = some (.slice none 0 0) := BK5.out.cell 2
        have z3 : w15.cell? ⟨w11.heap.size, 3, none⟩ = some (.bool false) := BK5.out.cell 3
        have z4 : w15.cell? ⟨w11.heap.size, 4, none⟩ = some (.slice none 0 0) := BK5.out.cell 4
        have z5 : w15.cell? ⟨w11.heap.size, 5, none⟩ = some (.slice none 0 0) := BK5.out.cell 5
        have z6 : w15.cell? ⟨w11.heap.size, 6, none⟩ = some (.bool false) := BK5.out.cell 6
        have z7 : w15.cell? ⟨w11.heap.size, 7, none⟩ = some (.bool false) := BK5.out.cell 7
        have z8 : w15.cell? ⟨w11.heap.size, 8, none⟩ = some (.bool false) := BK5.out.cell 8
        have fr : ∀ j, w15.frozen? ⟨w11.heap.size, j, none⟩ = false := BK5.out.fr
        have hne : w.heap.size ≠ w11.heap.size := by have := NN4.out; omega
        refine wpAnyH_ready (rs := [12]) (by kernel_rfl) (by simp) ?_
        refine AllReadyH.cons rfl (fun K hK => ?_) AllReadyH.nil
        go_simp
        obtain ⟨w9, hw9⟩ : ∃ v, v = (((((((((w15.setCell ⟨w11.heap.size, 0, none⟩ (.bool G1)).setCell ⟨w11.heap.size, 1, none⟩ (.slice a1 n1 k1)).setCell ⟨w11.heap.size, 2, none⟩ (.slice a2 n2 k2)).setCell ⟨w11.heap.size, 3, none⟩ (.bool G2)).setCell ⟨w11.heap.size, 4, none⟩ (.slice b1 r1 s1)).setCell ⟨w11.heap.size, 5, none⟩ (.slice b2 r2 s2)).setCell ⟨w11.heap.size, 6, none⟩ (.bool li)).setCell ⟨w11.heap.size, 7, none⟩ (.bool hh)).setCell ⟨w11.heap.size, 8, none⟩ (.bool false)) := ⟨_, rfl⟩
        rw [← hw9]
        obtain ⟨E1, E2, E3, E4, E5⟩ := set_end li hh false NN4.out BK5.out F15.out F25.out T5.out w9 hw9
        clear hw9
        have H9 : (fun z => z.cell? ⟨w.heap.size, 0, none⟩ = some (.bool g1) ∧ z.cell? ⟨w.heap.size, 1, none⟩ = some (.slice q1 l1 c1) ∧ z.cell? ⟨w.heap.size, 2, none⟩ = some (.slice p1 m1 e1) ∧ z.cell? ⟨w.heap.size, 3, none⟩ = some (.bool g2) ∧ z.cell? ⟨w.heap.size, 4, none⟩ = some (.slice q2 l2 c2) ∧ z.cell? ⟨w.heap.size, 5, none⟩ = some (.slice p2 m2 e2) ∧ z.cell? ⟨w.heap.size, 6, none⟩ = some (.bool li) ∧ z.cell? ⟨w.heap.size, 7, none⟩ = some (.bool hh)) w9 := ⟨(E5.out.cell (by exact lt5) (by exact hne)).trans H5.1, (E5.out.cell (by exact lt5) (by exact hne)).trans H5.2.1, (E5.out.cell (by exact lt5) (by exact hne)).trans H5.2.2.1, (E5.out.cell (by exact lt5) (by exact hne)).trans H5.2.2.2.1, (E5.out.cell (by exact lt5) (by exact hne)).trans H5.2.2.2.2.1, (E5.out.cell (by exact lt5) (by exact hne)).trans H5.2.2.2.2.2.1, (E5.out.cell (by exact lt5) (by exact hne)).trans H5.2.2.2.2.2.2.1, (E5.out.cell (by exact lt5) (by exact hne)).trans H5.2.2.2.2.2.2.2⟩
        refine hK.out _ _ H9 (fun hHeld9 => ?_)
        clear hK K hHeld5
        refine wpAnyH_done (by kernel_rfl) ?_ _
        have hNN : w.heap.size + 2 ≤ w11.heap.size := by have := NN4.out; omega
        clear hHeld9 H9 z0 z1 z2 z3 z4 z5 z6 z7 z8 fr
        go_wp2_with fail
        go_meet
        case rel => exact ⟨_, a1, n1, k1, a2, n2, k2, b1, r1, s1, b2, r2, s2, rfl, hNN, E1, E2, E3, E4⟩
    · go_simp
      have hb6 : Below W0.drew.heap.size W0.drew ((W0.alloc (.cells #[.bool false, .slice none 0 0, .slice none 0 0, .bool false, .slice none 0 0, .slice none 0 0, .bool false, .bool false, .bool false] 109)).drew) := below_alloc W0.drew (.cells #[.bool false, .slice none 0 0, .slice none 0 0, .bool false, .slice none 0 0, .slice none 0 0, .bool false, .bool false, .bool false] 109)
      have bk6 : BlkI ((W0.alloc (.cells #[.bool false, .slice none 0 0, .slice none 0 0, .bool false, .slice none 0 0, .slice none 0 0, .bool false, .bool false, .bool false] 109)).drew) (w.heap.size + 2) 109 #[.bool false, .slice none 0 0, .slice none 0 0, .bool false, .slice none 0 0, .slice none 0 0, .bool false, .bool false, .bool false] := by
        have hq : BlkI (W0.alloc (.cells #[.bool false, .slice none 0 0, .slice none 0 0, .bool false, .slice none 0 0, .slice none 0 0, .bool false, .bool false, .bool false] 109)) W0.heap.size 109 #[.bool false, .slice none 0 0, .slice none 0 0, .bool false, .slice none 0 0, .slice none 0 0, .bool false, .bool false, .bool false] := heap_alloc_new _ _
        rw [hz0] at hq
        exact hq
      obtain ⟨w16, hw6⟩ : ∃ v, v = (W0.alloc (.cells #[.bool false, .slice none 0 0, .slice none 0 0, .bool false, .slice none 0 0, .slice none 0 0, .bool false, .bool false, .bool false] 109)).drew := ⟨_, rfl⟩
      rw [← hw6] at hb6 bk6 ⊢
      clear hw6
      have H6 : (fun z => z.cell? ⟨w.heap.size, 0, none⟩ = some (.bool g1) ∧ z.cell? ⟨w.heap.size, 1, none⟩ = some (.slice q1 l1 c1) ∧ z.cell? ⟨w.heap.size, 2, none⟩ = some (.slice p1 m1 e1) ∧ z.cell? ⟨w.heap.size, 3, none⟩ = some (.bool g2) ∧ z.cell? ⟨w.heap.size, 4, none⟩ = some (.slice q2 l2 c2) ∧ z.cell? ⟨w.heap.size, 5, none⟩ = some (.slice p2 m2 e2) ∧ z.cell? ⟨w.heap.size, 6, none⟩ = some (.bool li) ∧ z.cell? ⟨w.heap.size, 7, none⟩ = some (.bool hh)) w16 := ⟨(hb6.cell (by exact hsT')).trans hS0.1, (hb6.cell (by exact hsT')).trans hS0.2.1, (hb6.cell (by exact hsT')).trans hS0.2.2.1, (hb6.cell (by exact hsT')).trans hS0.2.2.2.1, (hb6.cell (by exact hsT')).trans hS0.2.2.2.2.1, (hb6.cell (by exact hsT')).trans hS0.2.2.2.2.2.1, (hb6.cell (by exact hsT')).trans hS0.2.2.2.2.2.2.1, (hb6.cell (by exact hsT')).trans hS0.2.2.2.2.2.2.2⟩
      have lt6 : w.heap.size < w16.heap.size := Nat.lt_of_lt_of_le hsT' hb6.size
      have W6 : Hid (Below w.heap.size w w16) := hb0.out.drew.trans (hb6.mono hb0.out.drew.size)
      have T6 : Hid (Below W0.heap.size W0 w16) := (Below.refl W0.heap.size W0).drew.trans (hb6.mono (Below.refl W0.heap.size W0).drew.size)
      have BK6 : Hid (BlkI w16 (w.heap.size + 2) 109 #[.bool false, .slice none 0 0, .slice none 0 0, .bool false, .slice none 0 0, .slice none 0 0, .bool false, .bool false, .bool false]) := bk6
      have NN6 : Hid (W0.heap.size ≤ (w.heap.size + 2)) := Nat.le_of_eq hz0
      refine hK.out _ _ H6 (fun hHeld6 => ?_)
      clear hK K hHeld bk6
      refine wpAnyH_ready (rs := [2]) (by kernel_rfl) (by simp) ?_
      refine AllReadyH.cons rfl (fun K hK => ?_) AllReadyH.nil
      go_simp
      refine (h1.out _ W6.out).mono ?_
      rintro e w17 ⟨f, rfl, hf7, hb7⟩
      obtain ⟨a1, n1, k1, a2, n2, k2, rfl⟩ := hf7.form
      have H7 : (fun z => z.cell? ⟨w.heap.size, 0, none⟩ = some (.bool g1) ∧ z.cell? ⟨w.heap.size, 1, none⟩ = some (.slice q1 l1 c1) ∧ z.cell? ⟨w.heap.size, 2, none⟩ = some (.slice p1 m1 e1) ∧ z.cell? ⟨w.heap.size, 3, none⟩ = some (.bool g2) ∧ z.cell? ⟨w.heap.size, 4, none⟩ = some (.slice q2 l2 c2) ∧ z.cell? ⟨w.heap.size, 5, none⟩ = some (.slice p2 m2 e2) ∧ z.cell? ⟨w.heap.size, 6, none⟩ = some (.bool li) ∧ z.cell? ⟨w.heap.size, 7, none⟩ = some (.bool hh)) w17 := ⟨(hb7.cell (by exact lt6)).trans H6.1, (hb7.cell (by exact lt6)).trans H6.2.1, (hb7.cell (by exact lt6)).trans H6.2.2.1, (hb7.cell (by exact lt6)).trans H6.2.2.2.1, (hb7.cell (by exact lt6)).trans H6.2.2.2.2.1, (hb7.cell (by exact lt6)).trans H6.2.2.2.2.2.1, (hb7.cell (by exact lt6)).trans H6.2.2.2.2.2.2.1, (hb7.cell (by exact lt6)).trans H6.2.2.2.2.2.2.2⟩
      have lt7 : w.heap.size < w17.heap.size := Nat.lt_of_lt_of_le lt6 hb7.size
      have W7 : Hid (Below w.heap.size w w17) := W6.out.trans (hb7.mono W6.out.size)
      have T7 : Hid (Below W0.heap.size W0 w17) := T6.out.trans (hb7.mono T6.out.size)
      have BK7 : Hid (BlkI w17 (w.heap.size + 2) 109 #[.bool false, .slice none 0 0, .slice none 0 0, .bool false, .slice none 0 0, .slice none 0 0, .bool false, .bool false, .bool false]) := BK6.out.below hb7
      have F17 : Hid (FAt w17 (.agg #[.bool G1, .slice a1 n1 k1, .slice a2 n2 k2]) G1 X1 Y1) := hf7
      refine hK.out _ _ H7 (fun hHeld7 => ?_)
      clear hK K hHeld6 hf7 H6
      refine wpAnyH_ready (rs := [5]) (by kernel_rfl) (by simp) ?_
      refine AllReadyH.cons rfl (fun K hK => ?_) AllReadyH.nil
      go_simp
      refine (h2.out _ W7.out).mono ?_
      rintro e w18 ⟨f, rfl, hf8, hb8⟩
      obtain ⟨b1, r1, s1, b2, r2, s2, rfl⟩ := hf8.form
      have H8 : (fun z => z.cell? ⟨w.heap.size, 0, none⟩ = some (.bool g1) ∧ z.cell? ⟨w.heap.size, 1, none⟩ = some (.slice q1 l1 c1) ∧ z.cell? ⟨w.heap.size, 2, none⟩ = some (.slice p1 m1 e1) ∧ z.cell? ⟨w.heap.size, 3, none⟩ = some (.bool g2) ∧ z.cell? ⟨w.heap.size, 4, none⟩ = some (.slice q2 l2 c2) ∧ z.cell? ⟨w.heap.size, 5, none⟩ = some (.slice p2 m2 e2) ∧ z.cell? ⟨w.heap.size, 6, none⟩ = some (.bool li) ∧ z.cell? ⟨w.heap.size, 7, none⟩ = some (.bool hh)) w18 := ⟨(hb8.cell (by exact lt7)).trans H7.1, (hb8.cell (by exact lt7)).trans H7.2.1, (hb8.cell (by exact lt7)).trans H7.2.2.1, (hb8.cell (by exact lt7)).trans H7.2.2.2.1, (hb8.cell (by exact lt7)).trans H7.2.2.2.2.1, (hb8.cell (by exact lt7)).trans H7.2.2.2.2.2.1, (hb8.cell (by exact lt7)).trans H7.2.2.2.2.2.2.1, (hb8.cell (by exact lt7)).trans H7.2.2.2.2.2.2.2⟩
      have lt8 : w.heap.size < w18.heap.size := Nat.lt_of_lt_of_le lt7 hb8.size
      have W8 : Hid (Below w.heap.size w w18) := W7.out.trans (hb8.mono W7.out.size)
      have T8 : Hid (Below W0.heap.size W0 w18) := T7.out.trans (hb8.mono T7.out.size)
      have BK8 : Hid (BlkI w18 (w.heap.size + 2) 109 #[.bool false, .slice none 0 0, .slice none 0 0, .bool false, .slice none 0 0, .slice none 0 0, .bool false, .bool false, .bool false]) := BK7.out.below hb8
      have F18 : Hid (FAt w18 (.agg #[.bool G1, .slice a1 n1 k1, .slice a2 n2 k2]) G1 X1 Y1) := F17.out.below hb8
      have F28 : Hid (FAt w18 (.agg #[.bool G2, .slice b1 r1 s1, .slice b2 r2 s2]) G2 X2 Y2) := hf8
      refine hK.out _ _ H8 (fun hHeld8 => ?_)
      clear hK K hHeld7 hf8 H7
      refine wpAnyH_take (i := 10) (v := .agg #[.bool G1, .slice a1 n1 k1, .slice a2 n2 k2, .bool G2, .slice b1 r1 s1, .slice b2 r2 s2, .bool li, .bool hh, .bool false]) rfl (by kernel_rfl) (by kernel_rfl) (by kernel_rfl) (fun _ _ _ h => h) (.inl ⟨by rfl, fun z hSz => by go_simp⟩) hHeld8 ?_
      simp only [Act.put, List.getElem_toArray, List.getElem_cons_succ, List.getElem_cons_zero, List.setIfInBounds_toArray, List.set_cons_zero, List.set_cons_succ]
      have z0 : w18.cell? ⟨(w.heap.size + 2), 0, none⟩ = some (.bool false) := BK8.out.cell 0
      have z1 : w18.cell? ⟨(w.heap.size + 2), 1, none⟩ = some (.slice none 0 0) := BK8.out.cell 1
      have z2 : w18.cell? ⟨(w.heap.size + 2), 2, none⟩ = some (.slice none 0 0) := BK8.out.cell 2
      have z3 : w18.cell? ⟨(w.heap.size + 2), 3, none⟩ = some (.bool false) := BK8.out.cell 3
      have z4 : w18.cell? ⟨(w.heap.size + 2), 4, none⟩ = some (.slice none 0 0) := BK8.out.cell 4
      have z5 : w18.cell? ⟨(w.heap.size + 2), 5, none⟩ = some (.slice none 0 0) := BK8.out.cell 5
      have z6 : w18.cell? ⟨(w.heap.size + 2), 6, none⟩ = some (.bool false) := BK8.out.cell 6
      have z7 : w18.cell? ⟨(w.heap.size + 2), 7, none⟩ = some (.bool false) := BK8.out.cell 7
      have z8 : w18.cell? ⟨(w.heap.size + 2), 8, none⟩ = some (.bool false) := BK8.out.cell 8
      have fr : ∀ j, w18.frozen? ⟨(w.heap.size + 2), j, none⟩ = false := BK8.out.fr
      have hne : w.heap.size ≠ (w.heap.size + 2) := by have := NN6.out; omega
      refine wpAnyH_ready (rs := [12]) (by kernel_rfl) (by simp) ?_
      refine AllReadyH.cons rfl (fun K hK => ?_) AllReadyH.nil
      go_simp
      obtain ⟨w9, hw9⟩ : ∃ v, v = (((((((((w18.setCell ⟨(w.heap.size + 2), 0, none⟩ (.bool G1)).setCell ⟨(w.heap.size + 2), 1, none⟩ (.slice a1 n1 k1)).setCell ⟨(w.heap.size + 2), 2, none⟩ (.slice a2 n2 k2)).setCell ⟨(w.heap.size + 2), 3, none⟩ (.bool G2)).setCell ⟨(w.heap.size + 2), 4, none⟩ (.slice b1 r1 s1)).setCell ⟨(w.heap.size + 2), 5, none⟩ (.slice b2 r2 s2)).setCell ⟨(w.heap.size + 2), 6, none⟩ (.bool li)).setCell ⟨(w.heap.size + 2), 7, none⟩ (.bool hh)).setCell ⟨(w.heap.size + 2), 8, none⟩ (.bool false)) := ⟨_, rfl⟩
      rw [← hw9]
      obtain ⟨E1, E2, E3, E4, E5⟩ := set_end li hh false NN6.out BK8.out F18.out F28.out T8.out w9 hw9
      clear hw9
      have H9 : (fun z => z.cell? ⟨w.heap.size, 0, none⟩ = some (.bool g1) ∧ z.cell? ⟨w.heap.size, 1, none⟩ = some (.slice q1 l1 c1) ∧ z.cell? ⟨w.heap.size, 2, none⟩ = some (.slice p1 m1 e1) ∧ z.cell? ⟨w.heap.size, 3, none⟩ = some (.bool g2) ∧ z.cell? ⟨w.heap.size, 4, none⟩ = some (.slice q2 l2 c2) ∧ z.cell? ⟨w.heap.size, 5, none⟩ = some (.slice p2 m2 e2) ∧ z.cell? ⟨w.heap.size, 6, none⟩ = some (.bool li) ∧ z.cell? ⟨w.heap.size, 7, none⟩ = some (.bool hh)) w9 := ⟨(E5.out.cell (by exact lt8) (by exact hne)).trans H8.1, (E5.out.cell (by exact lt8) (by exact hne)).trans H8.2.1, (E5.out.cell (by exact lt8) (by exact hne)).trans H8.2.2.1, (E5.out.cell (by exact lt8) (by exact hne)).trans H8.2.2.2.1, (E5.out.cell (by exact lt8) (by exact hne)).trans H8.2.2.2.2.1, (E5.out.cell (by exact lt8) (by exact hne)).trans H8.2.2.2.2.2.1, (E5.out.cell (by exact lt8) (by exact hne)).trans H8.2.2.2.2.2.2.1, (E5.out.cell (by exact lt8) (by exact hne)).trans H8.2.2.2.2.2.2.2⟩
      refine hK.out _ _ H9 (fun hHeld9 => ?_)
      clear hK K hHeld8
      refine wpAnyH_done (by kernel_rfl) ?_ _
      have hNN : w.heap.size + 2 ≤ (w.heap.size + 2) := by have := NN6.out; omega
      clear hHeld9 H9 z0 z1 z2 z3 z4 z5 z6 z7 z8 fr
      go_wp2_with fail
      go_meet
      case rel => exact ⟨_, a1, n1, k1, a2, n2, k2, b1, r1, s1, b2, r2, s2, rfl, hNN, E1, E2, E3, E4⟩
  case rest =>
    obtain ⟨N, a1, n1, k1, a2, n2, k2, b1, r1, s1, b2, r2, s2, rfl, hN, E1, E2, E3, E4⟩ := hcut
    have c0 := E1.out.cell 0
    have c1' := E1.out.cell 1
    have c2' := E1.out.cell 2
    have c3 := E1.out.cell 3
    have c4 := E1.out.cell 4
    have c5 := E1.out.cell 5
    have c6 : wc.cell? ⟨N, 6, none⟩ = some (.bool li) := E1.out.cell 6
    have c7 : wc.cell? ⟨N, 7, none⟩ = some (.bool hh) := E1.out.cell 7
    have c8 : wc.cell? ⟨N, 8, none⟩ = some (.bool false) := E1.out.cell 8
    have fr : ∀ j, wc.frozen? ⟨N, j, none⟩ = false := E1.out.fr
    have hR1 : Hid (BlkI wc (w.heap.size + 1) 109 #[.bool false, .slice none 0 0, .slice none 0 0, .bool false, .slice none 0 0, .slice none 0 0, .bool false, .bool false, .bool false]) := hBR.out.below E4.out
    have hNe : N ≠ w.heap.size + 1 := by omega
    have hNe' : w.heap.size + 1 ≠ N := by omega
    clear h1 h2 hS0
    have hW3 : Below w.heap.size w wc := hb0.out.trans (E4.out.mono hb0.out.size)
    cases li with
    | true =>
      have hVf : V = false := by rw [← hV.out]; rfl
      subst hVf
      clear hV
      go_upto_region 3 with fail
      obtain ⟨w8, hw8⟩ : ∃ v, v = wc.setCell ⟨N, 8, none⟩ (.bool false) := ⟨_, rfl⟩
      rw [← hw8]
      have J8 : BlkI w8 N 109 #[.bool G1, .slice a1 n1 k1, .slice a2 n2 k2, .bool G2, .slice b1 r1 s1, .slice b2 r2 s2, .bool true, .bool hh, .bool false] := by rw [hw8]; exact E1.out.set 8 (.bool false)
      have sv : Sav N wc w8 := by rw [hw8]; exact (Sav.of (Below.refl _ _)).setCell 8 _
      have A8 : FAt w8 (.agg #[.bool G1, .slice a1 n1 k1, .slice a2 n2 k2]) G1 X1 Y1 := E2.out.sav E1.out noint9 sv
      have B8 : FAt w8 (.agg #[.bool G2, .slice b1 r1 s1, .slice b2 r2 s2]) G2 X2 Y2 := E3.out.sav E1.out noint9 sv
      have R8 : BlkI w8 (w.heap.size + 1) 109 #[.bool false, .slice none 0 0, .slice none 0 0, .bool false, .slice none 0 0, .slice none 0 0, .bool false, .bool false, .bool false] := hR1.out.sav sv hNe'
      have W8 : Below w.heap.size w w8 := hW3.trans (sv.below (by omega) hW3.size)
      clear hw8
      have y0 : w8.cell? ⟨N, 0, none⟩ = some (.bool G1) := J8.cell 0
      have y1 : w8.cell? ⟨N, 1, none⟩ = some (.slice a1 n1 k1) := J8.cell 1
      have y2 : w8.cell? ⟨N, 2, none⟩ = some (.slice a2 n2 k2) := J8.cell 2
      have y3 : w8.cell? ⟨N, 3, none⟩ = some (.bool G2) := J8.cell 3
      have y4 : w8.cell? ⟨N, 4, none⟩ = some (.slice b1 r1 s1) := J8.cell 4
      have y5 : w8.cell? ⟨N, 5, none⟩ = some (.slice b2 r2 s2) := J8.cell 5
      have y6 : w8.cell? ⟨N, 6, none⟩ = some (.bool true) := J8.cell 6
      have y7 : w8.cell? ⟨N, 7, none⟩ = some (.bool hh) := J8.cell 7
      have y8 : w8.cell? ⟨N, 8, none⟩ = some (.bool false) := J8.cell 8
      have z0 : w8.cell? ⟨w.heap.size + 1, 0, none⟩ = some (.bool false) := R8.cell 0
      have z1 : w8.cell? ⟨w.heap.size + 1, 1, none⟩ = some (.slice none 0 0) := R8.cell 1
      have z2 : w8.cell? ⟨w.heap.size + 1, 2, none⟩ = some (.slice none 0 0) := R8.cell 2
      have z3 : w8.cell? ⟨w.heap.size + 1, 3, none⟩ = some (.bool false) := R8.cell 3
      have z4 : w8.cell? ⟨w.heap.size + 1, 4, none⟩ = some (.slice none 0 0) := R8.cell 4
      have z5 : w8.cell? ⟨w.heap.size + 1, 5, none⟩ = some (.slice none 0 0) := R8.cell 5
      have z6 : w8.cell? ⟨w.heap.size + 1, 6, none⟩ = some (.bool false) := R8.cell 6
      have z7 : w8.cell? ⟨w.heap.size + 1, 7, none⟩ = some (.bool false) := R8.cell 7
      have z8 : w8.cell? ⟨w.heap.size + 1, 8, none⟩ = some (.bool false) := R8.cell 8
      have frr : ∀ j, w8.frozen? ⟨w.heap.size + 1, j, none⟩ = false := R8.fr
      clear c0 c1' c2' c3 c4 c5 c6 c7 c8 fr
      have R8' : Hid (BlkI w8 (w.heap.size + 1) 109 #[.bool false, .slice none 0 0, .slice none 0 0, .bool false, .slice none 0 0, .slice none 0 0, .bool false, .bool false, .bool false]) := R8
      have A8' : Hid (FAt w8 (.agg #[.bool G1, .slice a1 n1 k1, .slice a2 n2 k2]) G1 X1 Y1) := A8
      have B8' : Hid (FAt w8 (.agg #[.bool G2, .slice b1 r1 s1, .slice b2 r2 s2]) G2 X2 Y2) := B8
      have W8' : Hid (Below w.heap.size w w8) := W8
      clear R8 A8 B8 W8 J8 sv
      go_wp2_with fail
      obtain ⟨E5, E6, E7, E8, _⟩ := set_end (W0 := w) true hh false (Nat.le_succ w.heap.size) R8'.out A8'.out B8'.out W8'.out _ rfl
      refine bodyPost_ret (results_cell_mid rfl _ _ (w.heap.size + 1) _ dd rfl (BlkI.row E5.out) hu hd set_size) rfl ?_
      exact ⟨a1, n1, k1, a2, n2, k2, b1, r1, s1, b2, r2, s2, rfl, E6.out, E7.out, E8.out⟩
    | false =>
      cases hh with
      | true =>
        have hVf : V = false := by rw [← hV.out]; rfl
        subst hVf
        clear hV
        go_upto_region 3 with fail
        obtain ⟨w8, hw8⟩ : ∃ v, v = wc.setCell ⟨N, 8, none⟩ (.bool false) := ⟨_, rfl⟩
        rw [← hw8]
        have J8 : BlkI w8 N 109 #[.bool G1, .slice a1 n1 k1, .slice a2 n2 k2, .bool G2, .slice b1 r1 s1, .slice b2 r2 s2, .bool false, .bool true, .bool false] := by rw [hw8]; exact E1.out.set 8 (.bool false)
        have sv : Sav N wc w8 := by rw [hw8]; exact (Sav.of (Below.refl _ _)).setCell 8 _
        have A8 : FAt w8 (.agg #[.bool G1, .slice a1 n1 k1, .slice a2 n2 k2]) G1 X1 Y1 := E2.out.sav E1.out noint9 sv
        have B8 : FAt w8 (.agg #[.bool G2, .slice b1 r1 s1, .slice b2 r2 s2]) G2 X2 Y2 := E3.out.sav E1.out noint9 sv
        have R8 : BlkI w8 (w.heap.size + 1) 109 #[.bool false, .slice none 0 0, .slice none 0 0, .bool false, .slice none 0 0, .slice none 0 0, .bool false, .bool false, .bool false] := hR1.out.sav sv hNe'
        have W8 : Below w.heap.size w w8 := hW3.trans (sv.below (by omega) hW3.size)
        clear hw8
        have y0 : w8.cell? ⟨N, 0, none⟩ = some (.bool G1) := J8.cell 0
        have y1 : w8.cell? ⟨N, 1, none⟩ = some (.slice a1 n1 k1) := J8.cell 1
        have y2 : w8.cell? ⟨N, 2, none⟩ = some (.slice a2 n2 k2) := J8.cell 2
        have y3 : w8.cell? ⟨N, 3, none⟩ = some (.bool G2) := J8.cell 3
        have y4 : w8.cell? ⟨N, 4, none⟩ = some (.slice b1 r1 s1) := J8.cell 4
        have y5 : w8.cell? ⟨N, 5, none⟩ = some (.slice b2 r2 s2) := J8.cell 5
        have y6 : w8.cell? ⟨N, 6, none⟩ = some (.bool false) := J8.cell 6
        have y7 : w8.cell? ⟨N, 7, none⟩ = some (.bool true) := J8.cell 7
        have y8 : w8.cell? ⟨N, 8, none⟩ = some (.bool false) := J8.cell 8
        have z0 : w8.cell? ⟨w.heap.size + 1, 0, none⟩ = some (.bool false) := R8.cell 0
        have z1 : w8.cell? ⟨w.heap.size + 1, 1, none⟩ = some (.slice none 0 0) := R8.cell 1
        have z2 : w8.cell? ⟨w.heap.size + 1, 2, none⟩ = some (.slice none 0 0) := R8.cell 2
        have z3 : w8.cell? ⟨w.heap.size + 1, 3, none⟩ = some (.bool false) := R8.cell 3
        have z4 : w8.cell? ⟨w.heap.size + 1, 4, none⟩ = some (.slice none 0 0) := R8.cell 4
        have z5 : w8.cell? ⟨w.heap.size + 1, 5, none⟩ = some (.slice none 0 0) := R8.cell 5
        have z6 : w8.cell? ⟨w.heap.size + 1, 6, none⟩ = some (.bool false) := R8.cell 6
        have z7 : w8.cell? ⟨w.heap.size + 1, 7, none⟩ = some (.bool false) := R8.cell 7
        have z8 : w8.cell? ⟨w.heap.size + 1, 8, none⟩ = some (.bool false) := R8.cell 8
        have frr : ∀ j, w8.frozen? ⟨w.heap.size + 1, j, none⟩ = false := R8.fr
        clear c0 c1' c2' c3 c4 c5 c6 c7 c8 fr
        have R8' : Hid (BlkI w8 (w.heap.size + 1) 109 #[.bool false, .slice none 0 0, .slice none 0 0, .bool false, .slice none 0 0, .slice none 0 0, .bool false, .bool false, .bool false]) := R8
        have A8' : Hid (FAt w8 (.agg #[.bool G1, .slice a1 n1 k1, .slice a2 n2 k2]) G1 X1 Y1) := A8
        have B8' : Hid (FAt w8 (.agg #[.bool G2, .slice b1 r1 s1, .slice b2 r2 s2]) G2 X2 Y2) := B8
        have W8' : Hid (Below w.heap.size w w8) := W8
        clear R8 A8 B8 W8 J8 sv
        go_wp2_with fail
        obtain ⟨E5, E6, E7, E8, _⟩ := set_end (W0 := w) false true false (Nat.le_succ w.heap.size) R8'.out A8'.out B8'.out W8'.out _ rfl
        refine bodyPost_ret (results_cell_mid rfl _ _ (w.heap.size + 1) _ dd rfl (BlkI.row E5.out) hu hd set_size) rfl ?_
        exact ⟨a1, n1, k1, a2, n2, k2, b1, r1, s1, b2, r2, s2, rfl, E6.out, E7.out, E8.out⟩
      | false =>
        have hcmp := fcmp_ok E2.out E3.out
        obtain ⟨C, hC⟩ : ∃ C, Hid (fcS G1 X1 Y1 G2 X2 Y2 = C) := ⟨_, rfl⟩
        rw [hC.out] at hcmp
        have ev : decide (0 < C) = V := by rw [← hC.out]; exact hV.out
        have ev' : decide (C > 0) = V := ev
        clear hV hC
        go_upto_region 3 with (go_at_call 58; refine hcmp.mono ?_; rintro e wk ⟨rfl, hbk⟩
                               have Ek : Hid (BlkI wk N 109 #[.bool G1, .slice a1 n1 k1, .slice a2 n2 k2, .bool G2, .slice b1 r1 s1, .slice b2 r2 s2, .bool false, .bool false, .bool false]) := E1.out.below hbk
                               have Fk : Hid (FAt wk (.agg #[.bool G1, .slice a1 n1 k1, .slice a2 n2 k2]) G1 X1 Y1) := E2.out.below hbk
                               have Gk : Hid (FAt wk (.agg #[.bool G2, .slice b1 r1 s1, .slice b2 r2 s2]) G2 X2 Y2) := E3.out.below hbk
                               have Rk : Hid (BlkI wk (w.heap.size + 1) 109 #[.bool false, .slice none 0 0, .slice none 0 0, .bool false, .slice none 0 0, .slice none 0 0, .bool false, .bool false, .bool false]) := hR1.out.below hbk
                               have Wk : Below w.heap.size w wk := hW3.trans (hbk.mono hW3.size)
                               have ck : wk.cell? ⟨N, 8, none⟩ = some (.bool false) := Ek.out.cell 8
                               have fk : ∀ j, wk.frozen? ⟨N, j, none⟩ = false := Ek.out.fr
                               clear hbk hcmp)
        clear ev ev' ck fk
        obtain ⟨w8, hw8⟩ : ∃ v, v = wk.setCell ⟨N, 8, none⟩ (.bool V) := ⟨_, rfl⟩
        rw [← hw8]
        have J8 : BlkI w8 N 109 #[.bool G1, .slice a1 n1 k1, .slice a2 n2 k2, .bool G2, .slice b1 r1 s1, .slice b2 r2 s2, .bool false, .bool false, .bool V] := by rw [hw8]; exact Ek.out.set 8 (.bool V)
        have sv : Sav N wk w8 := by rw [hw8]; exact (Sav.of (Below.refl _ _)).setCell 8 _
        have A8 : FAt w8 (.agg #[.bool G1, .slice a1 n1 k1, .slice a2 n2 k2]) G1 X1 Y1 := Fk.out.sav Ek.out noint9 sv
        have B8 : FAt w8 (.agg #[.bool G2, .slice b1 r1 s1, .slice b2 r2 s2]) G2 X2 Y2 := Gk.out.sav Ek.out noint9 sv
        have R8 : BlkI w8 (w.heap.size + 1) 109 #[.bool false, .slice none 0 0, .slice none 0 0, .bool false, .slice none 0 0, .slice none 0 0, .bool false, .bool false, .bool false] := Rk.out.sav sv hNe'
        have W8 : Below w.heap.size w w8 := Wk.trans (sv.below (by omega) Wk.size)
        clear hw8
        have y0 : w8.cell? ⟨N, 0, none⟩ = some (.bool G1) := J8.cell 0
        have y1 : w8.cell? ⟨N, 1, none⟩ = some (.slice a1 n1 k1) := J8.cell 1
        have y2 : w8.cell? ⟨N, 2, none⟩ = some (.slice a2 n2 k2) := J8.cell 2
        have y3 : w8.cell? ⟨N, 3, none⟩ = some (.bool G2) := J8.cell 3
        have y4 : w8.cell? ⟨N, 4, none⟩ = some (.slice b1 r1 s1) := J8.cell 4
        have y5 : w8.cell? ⟨N, 5, none⟩ = some (.slice b2 r2 s2) := J8.cell 5
        have y6 : w8.cell? ⟨N, 6, none⟩ = some (.bool false) := J8.cell 6
        have y7 : w8.cell? ⟨N, 7, none⟩ = some (.bool false) := J8.cell 7
        have y8 : w8.cell? ⟨N, 8, none⟩ = some (.bool V) := J8.cell 8
        have z0 : w8.cell? ⟨w.heap.size + 1, 0, none⟩ = some (.bool false) := R8.cell 0
        have z1 : w8.cell? ⟨w.heap.size + 1, 1, none⟩ = some (.slice none 0 0) := R8.cell 1
        have z2 : w8.cell? ⟨w.heap.size + 1, 2, none⟩ = some (.slice none 0 0) := R8.cell 2
        have z3 : w8.cell? ⟨w.heap.size + 1, 3, none⟩ = some (.bool false) := R8.cell 3
        have z4 : w8.cell? ⟨w.heap.size + 1, 4, none⟩ = some (.slice none 0 0) := R8.cell 4
        have z5 : w8.cell? ⟨w.heap.size + 1, 5, none⟩ = some (.slice none 0 0) := R8.cell 5
        have z6 : w8.cell? ⟨w.heap.size + 1, 6, none⟩ = some (.bool false) := R8.cell 6
        have z7 : w8.cell? ⟨w.heap.size + 1, 7, none⟩ = some (.bool false) := R8.cell 7
        have z8 : w8.cell? ⟨w.heap.size + 1, 8, none⟩ = some (.bool false) := R8.cell 8
        have frr : ∀ j, w8.frozen? ⟨w.heap.size + 1, j, none⟩ = false := R8.fr
        clear c0 c1' c2' c3 c4 c5 c6 c7 c8 fr
        have R8' : Hid (BlkI w8 (w.heap.size + 1) 109 #[.bool false, .slice none 0 0, .slice none 0 0, .bool false, .slice none 0 0, .slice none 0 0, .bool false, .bool false, .bool false]) := R8
        have A8' : Hid (FAt w8 (.agg #[.bool G1, .slice a1 n1 k1, .slice a2 n2 k2]) G1 X1 Y1) := A8
        have B8' : Hid (FAt w8 (.agg #[.bool G2, .slice b1 r1 s1, .slice b2 r2 s2]) G2 X2 Y2) := B8
        have W8' : Hid (Below w.heap.size w w8) := W8
        clear R8 A8 B8 W8 J8 sv
        go_wp2_with fail
        obtain ⟨E5, E6, E7, E8, _⟩ := set_end (W0 := w) false false V (Nat.le_succ w.heap.size) R8'.out A8'.out B8'.out W8'.out _ rfl
        refine bodyPost_ret (results_cell_mid rfl _ _ (w.heap.size + 1) _ dd rfl (BlkI.row E5.out) hu hd set_size) rfl ?_
        exact ⟨a1, n1, k1, a2, n2, k2, b1, r1, s1, b2, r2, s2, rfl, E6.out, E7.out, E8.out⟩
end Go.Proofs.YtaonejnicgbifaaGreatDoor
