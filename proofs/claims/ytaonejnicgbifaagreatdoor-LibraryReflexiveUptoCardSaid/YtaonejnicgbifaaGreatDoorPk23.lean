import Derived.Test.YtaonejnicgbifaaGreatDoorPk22
namespace Go.Proofs.YtaonejnicgbifaaGreatDoor
open Go Go.RowKit

/-- The values of a side's interval. -/
def Si.c (s : Si) : IvC := IvC.mk s.g1 (val s.nu1) (val s.de1) s.g2 (val s.nu2) (val s.de2) s.li s.hh
/-- A side that a valid box may have at a place. -/
def sdOk (bs : Nat → Si) (i : Nat) : Bool := nameB (bs i).m && ((decide (i = 0) || Op.bytesLess (bs (i - 1)).m.toList (bs i).m.toList) && (!(bs i).c.lg && !(bs i).c.vd))
/-- A valid box. -/
def bxOk (n : Nat) (bs : Nat → Si) : Bool := decide (n ≤ 6) && (List.range n).all (sdOk bs)
theorem bxOk_no {n : Nat} {bs : Nat → Si} {k : Nat} (hk : k < n) (h : sdOk bs k = false) : bxOk n bs = false := by
  unfold bxOk
  rw [Bool.and_eq_false_iff]
  right
  rw [List.all_eq_false]
  exact ⟨k, List.mem_range.2 hk, by rw [h]; simp⟩
theorem bxOk_yes {n : Nat} {bs : Nat → Si} (hn : n ≤ 6) (h : ∀ j, j < n → sdOk bs j = true) : bxOk n bs = true := by
  unfold bxOk
  rw [decide_eq_true hn, Bool.true_and, List.all_eq_true]
  exact fun j hj => h j (List.mem_range.1 hj)

set_option maxRecDepth 100000 in
set_option maxHeartbeats 4000000 in
/-- enclose.Valid of a box that is long enough. -/
theorem encValid_walk {w : World} (b o n c : Nat) (bs : Nat → Si) (ds : Nat → Sv) (hn : n ≤ 6) (hb : b < w.heap.size) (hx : ∀ i, i < n → w.rangeAt b (o + i * 9) ((bs i).cells (ds i)) ∧ SiOk w (bs i) (ds i)) (hT : Tb w) :
    Calls Tryz.prog 25 #[.slice (some ⟨b, o, none⟩) n c] w fun e w' => e = .returned (.bool (bxOk n bs)) ∧ Below w.heap.size w w' := by
  have hx' : Hid (∀ i, i < n → w.rangeAt b (o + i * 9) ((bs i).cells (ds i)) ∧ SiOk w (bs i) (ds i)) := hx
  have hT' : Hid (Tb w) := hT
  have hn' : ¬ ((n : Int) > 6) := by omega
  clear hx hT
  go_enter Tryz.func25, Tryz.ntmps25
  go_wp2_with fail
  go_loopw [12] (fun i wr => ∃ k : Nat, k ≤ n ∧ i = .int .i64 k ∧ (∀ j, j < k → sdOk bs j = true) ∧ Below w.heap.size w wr) (fun i _ => n - (intOf i).toNat)
  case atStart => exact ⟨0, Nat.zero_le _, rfl, fun j hj => by omega, Below.refl _ _⟩
  case round =>
    obtain ⟨k, hk, rfl, hlow, hbw⟩ := hrel
    have hlow' : Hid (∀ j, j < k → sdOk bs j = true) := hlow
    clear hlow
    by_cases hlt : k < n
    · have hlt' : (k : Int) < (n : Int) := by omega
      have hR := rangeAt_below (hx'.out k hlt).1 hbw hb
      have hS := (hx'.out k hlt).2.below hbw
      have hne : Hid (∀ z, Below w.heap.size w z → ∀ j, j + 1 = k → z.cell? ⟨b, o + j * 9, none⟩ = some (.string (bs j).m)) := by
        intro z hz j hj
        have h0 := (rangeAt_below (hx'.out j (by omega)).1 hz hb) 0 _ rfl
        simpa using h0
      obtain ⟨S, hSd⟩ : ∃ S, Hid (sdOk bs k = S) := ⟨_, rfl⟩
      have x0 : wr.cell? ⟨b, o + k * 9, none⟩ = some (.string (bs k).m) := by simpa using hR 0 _ rfl
      have x1 : wr.cell? ⟨b, o + k * 9 + 1, none⟩ = some (.bool (bs k).g1) := by simpa using hR 1 _ rfl
      have x2 : wr.cell? ⟨b, o + k * 9 + 2, none⟩ = some (.slice (ds k).q1 (ds k).l1 (ds k).c1) := by simpa using hR 2 _ rfl
      have x3 : wr.cell? ⟨b, o + k * 9 + 3, none⟩ = some (.slice (ds k).p1 (ds k).m1 (ds k).e1) := by simpa using hR 3 _ rfl
      have x4 : wr.cell? ⟨b, o + k * 9 + 4, none⟩ = some (.bool (bs k).g2) := by simpa using hR 4 _ rfl
      have x5 : wr.cell? ⟨b, o + k * 9 + 5, none⟩ = some (.slice (ds k).q2 (ds k).l2 (ds k).c2) := by simpa using hR 5 _ rfl
      have x6 : wr.cell? ⟨b, o + k * 9 + 6, none⟩ = some (.slice (ds k).p2 (ds k).m2 (ds k).e2) := by simpa using hR 6 _ rfl
      have x7 : wr.cell? ⟨b, o + k * 9 + 7, none⟩ = some (.bool (bs k).li) := by simpa using hR 7 _ rfl
      have x8 : wr.cell? ⟨b, o + k * 9 + 8, none⟩ = some (.bool (bs k).hh) := by simpa using hR 8 _ rfl
      have hsd : Hid (S = (nameB (bs k).m && ((decide (k = 0) || Op.bytesLess (bs (k - 1)).m.toList (bs k).m.toList) && (!(bs k).c.lg && !(bs k).c.vd)))) := by
        show S = _
        rw [← hSd.out]; rfl
      have hie := fun z (hz : Below wr.heap.size wr z) => isEmpty_c (g1s := (bs k).g1) (g2s := (bs k).g2) (lis := (bs k).li) (hhs := (bs k).hh) (hS.1.below hz) (hS.2.1.below hz) (hS.2.2.1.below hz) (hS.2.2.2.1.below hz) (by have := hS.2.2.2.2.1; omega) (by have := hS.2.2.2.2.2.1; omega) (by have := hS.2.2.2.2.2.2.1; omega) (by have := hS.2.2.2.2.2.2.2; omega) ((hT'.out.below hbw).below hz)
      have hie : Hid (∀ z, Below wr.heap.size wr z → Calls Tryz.prog 48 #[.agg #[.bool (bs k).g1, .slice (ds k).q1 (ds k).l1 (ds k).c1, .slice (ds k).p1 (ds k).m1 (ds k).e1, .bool (bs k).g2, .slice (ds k).q2 (ds k).l2 (ds k).c2, .slice (ds k).p2 (ds k).m2 (ds k).e2, .bool (bs k).li, .bool (bs k).hh]] z fun e w' => e = .returned (.tuple #[.bool (!(bs k).c.lg && (bs k).c.vd), .int .i64 (if (bs k).c.lg then 1 else 0)]) ∧ Below z.heap.size z w') := hie
      clear hR hS
      obtain ⟨LG, hLG⟩ : ∃ b, (bs k).c.lg = b := ⟨_, rfl⟩
      obtain ⟨VD, hVD⟩ : ∃ b, (bs k).c.vd = b := ⟨_, rfl⟩
      rw [hLG, hVD] at hie hsd
      clear hLG hVD
      generalize (bs k).m = m at *
      generalize (bs k).g1 = g1 at *
      generalize (bs k).g2 = g2 at *
      generalize (bs k).li = li at *
      generalize (bs k).hh = hh at *
      generalize (ds k).q1 = q1 at *
      generalize (ds k).l1 = l1 at *
      generalize (ds k).c1 = c1 at *
      generalize (ds k).p1 = p1 at *
      generalize (ds k).m1 = m1 at *
      generalize (ds k).e1 = e1 at *
      generalize (ds k).q2 = q2 at *
      generalize (ds k).l2 = l2 at *
      generalize (ds k).c2 = c2 at *
      generalize (ds k).p2 = p2 at *
      generalize (ds k).m2 = m2 at *
      generalize (ds k).e2 = e2 at *
      have B1 : Below wr.heap.size wr (wr.alloc (.cells #[.string m, .bool g1, .slice q1 l1 c1, .slice p1 m1 e1, .bool g2, .slice q2 l2 c2, .slice p2 m2 e2, .bool li, .bool hh] 58)) := below_alloc wr _
      go_upto_region 6 with fail
      have BW : Hid (Below w.heap.size w (wr.alloc (.cells #[.string m, .bool g1, .slice q1 l1 c1, .slice p1 m1 e1, .bool g2, .slice q2 l2 c2, .slice p2 m2 e2, .bool li, .bool hh] 58))) := hbw.trans (B1.mono hbw.size)
      have hie2 : Hid (∀ z, Below (wr.alloc (.cells #[.string m, .bool g1, .slice q1 l1 c1, .slice p1 m1 e1, .bool g2, .slice q2 l2 c2, .slice p2 m2 e2, .bool li, .bool hh] 58)).heap.size (wr.alloc (.cells #[.string m, .bool g1, .slice q1 l1 c1, .slice p1 m1 e1, .bool g2, .slice q2 l2 c2, .slice p2 m2 e2, .bool li, .bool hh] 58)) z → Calls Tryz.prog 48 #[.agg #[.bool g1, .slice q1 l1 c1, .slice p1 m1 e1, .bool g2, .slice q2 l2 c2, .slice p2 m2 e2, .bool li, .bool hh]] z fun e w' => e = .returned (.tuple #[.bool (!LG && VD), .int .i64 (if LG then 1 else 0)]) ∧ Below z.heap.size z w') := fun z hz => hie.out z (B1.trans (hz.mono B1.size))
      have y0 : (wr.alloc (.cells #[.string m, .bool g1, .slice q1 l1 c1, .slice p1 m1 e1, .bool g2, .slice q2 l2 c2, .slice p2 m2 e2, .bool li, .bool hh] 58)).cell? ⟨wr.heap.size, 0, none⟩ = some (.string m) := by simp
      have y1 : (wr.alloc (.cells #[.string m, .bool g1, .slice q1 l1 c1, .slice p1 m1 e1, .bool g2, .slice q2 l2 c2, .slice p2 m2 e2, .bool li, .bool hh] 58)).cell? ⟨wr.heap.size, 1, none⟩ = some (.bool g1) := by simp
      have y2 : (wr.alloc (.cells #[.string m, .bool g1, .slice q1 l1 c1, .slice p1 m1 e1, .bool g2, .slice q2 l2 c2, .slice p2 m2 e2, .bool li, .bool hh] 58)).cell? ⟨wr.heap.size, 2, none⟩ = some (.slice q1 l1 c1) := by simp
      have y3 : (wr.alloc (.cells #[.string m, .bool g1, .slice q1 l1 c1, .slice p1 m1 e1, .bool g2, .slice q2 l2 c2, .slice p2 m2 e2, .bool li, .bool hh] 58)).cell? ⟨wr.heap.size, 3, none⟩ = some (.slice p1 m1 e1) := by simp
      have y4 : (wr.alloc (.cells #[.string m, .bool g1, .slice q1 l1 c1, .slice p1 m1 e1, .bool g2, .slice q2 l2 c2, .slice p2 m2 e2, .bool li, .bool hh] 58)).cell? ⟨wr.heap.size, 4, none⟩ = some (.bool g2) := by simp
      have y5 : (wr.alloc (.cells #[.string m, .bool g1, .slice q1 l1 c1, .slice p1 m1 e1, .bool g2, .slice q2 l2 c2, .slice p2 m2 e2, .bool li, .bool hh] 58)).cell? ⟨wr.heap.size, 5, none⟩ = some (.slice q2 l2 c2) := by simp
      have y6 : (wr.alloc (.cells #[.string m, .bool g1, .slice q1 l1 c1, .slice p1 m1 e1, .bool g2, .slice q2 l2 c2, .slice p2 m2 e2, .bool li, .bool hh] 58)).cell? ⟨wr.heap.size, 6, none⟩ = some (.slice p2 m2 e2) := by simp
      have y7 : (wr.alloc (.cells #[.string m, .bool g1, .slice q1 l1 c1, .slice p1 m1 e1, .bool g2, .slice q2 l2 c2, .slice p2 m2 e2, .bool li, .bool hh] 58)).cell? ⟨wr.heap.size, 7, none⟩ = some (.bool li) := by simp
      have y8 : (wr.alloc (.cells #[.string m, .bool g1, .slice q1 l1 c1, .slice p1 m1 e1, .bool g2, .slice q2 l2 c2, .slice p2 m2 e2, .bool li, .bool hh] 58)).cell? ⟨wr.heap.size, 8, none⟩ = some (.bool hh) := by simp
      have hPl : wr.heap.size < (wr.alloc (.cells #[.string m, .bool g1, .slice q1 l1 c1, .slice p1 m1 e1, .bool g2, .slice q2 l2 c2, .slice p2 m2 e2, .bool li, .bool hh] 58)).heap.size := by simp
      have hwP : w.heap.size ≤ wr.heap.size := hbw.size
      clear x0 x1 x2 x3 x4 x5 x6 x7 x8 hie B1
      generalize wr.alloc (.cells #[.string m, .bool g1, .slice q1 l1 c1, .slice p1 m1 e1, .bool g2, .slice q2 l2 c2, .slice p2 m2 e2, .bool li, .bool hh] 58) = W at *
      generalize wr.heap.size = P at *
      clear hbw
      have hnm := eIsName_ok m W.drew
      have BW' : Hid (Below w.heap.size w W.drew) := BW.out.drew
      have hPl' : P < W.drew.heap.size := by simpa using hPl
      have hie2' : Hid (∀ z, Below W.drew.heap.size W.drew z → Calls Tryz.prog 48 #[.agg #[.bool g1, .slice q1 l1 c1, .slice p1 m1 e1, .bool g2, .slice q2 l2 c2, .slice p2 m2 e2, .bool li, .bool hh]] z fun e w' => e = .returned (.tuple #[.bool (!LG && VD), .int .i64 (if LG then 1 else 0)]) ∧ Below z.heap.size z w') := fun z hz => hie2.out z ((below_draws (Below.refl W.heap.size W) 1).trans hz)
      have y0 : W.drew.cell? ⟨P, 0, none⟩ = some (.string m) := by simpa using y0
      have y1 : W.drew.cell? ⟨P, 1, none⟩ = some (.bool g1) := by simpa using y1
      have y2 : W.drew.cell? ⟨P, 2, none⟩ = some (.slice q1 l1 c1) := by simpa using y2
      have y3 : W.drew.cell? ⟨P, 3, none⟩ = some (.slice p1 m1 e1) := by simpa using y3
      have y4 : W.drew.cell? ⟨P, 4, none⟩ = some (.bool g2) := by simpa using y4
      have y5 : W.drew.cell? ⟨P, 5, none⟩ = some (.slice q2 l2 c2) := by simpa using y5
      have y6 : W.drew.cell? ⟨P, 6, none⟩ = some (.slice p2 m2 e2) := by simpa using y6
      have y7 : W.drew.cell? ⟨P, 7, none⟩ = some (.bool li) := by simpa using y7
      have y8 : W.drew.cell? ⟨P, 8, none⟩ = some (.bool hh) := by simpa using y8
      cases hN : nameB m with
      | false =>
        rw [hN] at hnm hsd
        clear hN
        have hS0 : (fun z => z.cell? ⟨P, 0, none⟩ = some (.string m)) W.drew := y0
        refine wp_region_held_drew (S := (fun z => z.cell? ⟨P, 0, none⟩ = some (.string m))) (by kernel_rfl) hS0 (fun hHeld => ?_)
        refine wpAnyH_take (i := 0) (v := .pointer (some ⟨P, 0, none⟩)) rfl (by kernel_rfl) (by kernel_rfl) (by kernel_rfl) (fun _ _ _ h => h) (.inl ⟨by rfl, fun z hSz => by go_simp⟩) hHeld ?_
        simp only [Act.put, List.getElem_toArray, List.getElem_cons_succ, List.getElem_cons_zero, List.setIfInBounds_toArray, List.set_cons_zero, List.set_cons_succ]
        refine wpAnyH_take (i := 1) (v := .string m) rfl (by kernel_rfl) (by kernel_rfl) (by kernel_rfl) (fun _ _ _ h => h) (.inl ⟨by rfl, fun z hSz => by go_simp⟩) hHeld ?_
        simp only [Act.put, List.getElem_toArray, List.getElem_cons_succ, List.getElem_cons_zero, List.setIfInBounds_toArray, List.set_cons_zero, List.set_cons_succ]
        refine wpAnyH_ready (rs := [2]) (by kernel_rfl) (by simp) ?_
        refine AllReadyH.cons rfl (fun K hK => ?_) AllReadyH.nil
        go_simp
        with_reducible refine hnm.mono ?_
        rintro e w3 ⟨rfl, hb3⟩
        have hS3 : (fun z => z.cell? ⟨P, 0, none⟩ = some (.string m)) w3 := (hb3.cell (p := ⟨P, 0, none⟩) (by exact hPl')).trans y0
        refine hK.out _ _ hS3 (fun hHeld1 => ?_)
        clear hK K hHeld
        try simp only [Act.put, List.getElem_toArray, List.getElem_cons_succ, List.getElem_cons_zero, List.setIfInBounds_toArray, List.set_cons_zero, List.set_cons_succ]
        refine wpAnyH_take (i := 3) (v := .bool true) rfl (by kernel_rfl) (by kernel_rfl) (by kernel_rfl) (fun _ _ _ h => h) (.inl ⟨by rfl, fun z hSz => by go_simp⟩) hHeld1 ?_
        simp only [Act.put, List.getElem_toArray, List.getElem_cons_succ, List.getElem_cons_zero, List.setIfInBounds_toArray, List.set_cons_zero, List.set_cons_succ]
        refine wpAnyH_take (i := 4) (v := .bool true) rfl (by kernel_rfl) (by kernel_rfl) (by kernel_rfl) (fun _ _ _ h => h) (.inl ⟨by rfl, fun z hSz => by go_simp⟩) hHeld1 ?_
        simp only [Act.put, List.getElem_toArray, List.getElem_cons_succ, List.getElem_cons_zero, List.setIfInBounds_toArray, List.set_cons_zero, List.set_cons_succ]
        refine wpAnyH_take (i := 5) (v := undef) rfl (by kernel_rfl) (by kernel_rfl) (by kernel_rfl) (fun _ _ _ h => h) (.inr ⟨by rfl, rfl⟩) hHeld1 ?_
        simp only [Act.put, List.getElem_toArray, List.getElem_cons_succ, List.getElem_cons_zero, List.setIfInBounds_toArray, List.set_cons_zero, List.set_cons_succ]
        refine wpAnyH_take (i := 6) (v := undef) rfl (by kernel_rfl) (by kernel_rfl) (by kernel_rfl) (fun _ _ _ h => h) (.inr ⟨by rfl, rfl⟩) hHeld1 ?_
        simp only [Act.put, List.getElem_toArray, List.getElem_cons_succ, List.getElem_cons_zero, List.setIfInBounds_toArray, List.set_cons_zero, List.set_cons_succ]
        refine wpAnyH_take (i := 7) (v := undef) rfl (by kernel_rfl) (by kernel_rfl) (by kernel_rfl) (fun _ _ _ h => h) (.inr ⟨by rfl, rfl⟩) hHeld1 ?_
        simp only [Act.put, List.getElem_toArray, List.getElem_cons_succ, List.getElem_cons_zero, List.setIfInBounds_toArray, List.set_cons_zero, List.set_cons_succ]
        refine wpAnyH_take (i := 8) (v := undef) rfl (by kernel_rfl) (by kernel_rfl) (by kernel_rfl) (fun _ _ _ h => h) (.inr ⟨by rfl, rfl⟩) hHeld1 ?_
        simp only [Act.put, List.getElem_toArray, List.getElem_cons_succ, List.getElem_cons_zero, List.setIfInBounds_toArray, List.set_cons_zero, List.set_cons_succ]
        refine wpAnyH_take (i := 9) (v := undef) rfl (by kernel_rfl) (by kernel_rfl) (by kernel_rfl) (fun _ _ _ h => h) (.inr ⟨by rfl, rfl⟩) hHeld1 ?_
        simp only [Act.put, List.getElem_toArray, List.getElem_cons_succ, List.getElem_cons_zero, List.setIfInBounds_toArray, List.set_cons_zero, List.set_cons_succ]
        refine wpAnyH_take (i := 10) (v := undef) rfl (by kernel_rfl) (by kernel_rfl) (by kernel_rfl) (fun _ _ _ h => h) (.inr ⟨by rfl, rfl⟩) hHeld1 ?_
        simp only [Act.put, List.getElem_toArray, List.getElem_cons_succ, List.getElem_cons_zero, List.setIfInBounds_toArray, List.set_cons_zero, List.set_cons_succ]
        refine wpAnyH_take (i := 11) (v := undef) rfl (by kernel_rfl) (by kernel_rfl) (by kernel_rfl) (fun _ _ _ h => h) (.inr ⟨by rfl, rfl⟩) hHeld1 ?_
        simp only [Act.put, List.getElem_toArray, List.getElem_cons_succ, List.getElem_cons_zero, List.setIfInBounds_toArray, List.set_cons_zero, List.set_cons_succ]
        refine wpAnyH_take (i := 12) (v := undef) rfl (by kernel_rfl) (by kernel_rfl) (by kernel_rfl) (fun _ _ _ h => h) (.inr ⟨by rfl, rfl⟩) hHeld1 ?_
        simp only [Act.put, List.getElem_toArray, List.getElem_cons_succ, List.getElem_cons_zero, List.setIfInBounds_toArray, List.set_cons_zero, List.set_cons_succ]
        refine wpAnyH_take (i := 13) (v := undef) rfl (by kernel_rfl) (by kernel_rfl) (by kernel_rfl) (fun _ _ _ h => h) (.inr ⟨by rfl, rfl⟩) hHeld1 ?_
        simp only [Act.put, List.getElem_toArray, List.getElem_cons_succ, List.getElem_cons_zero, List.setIfInBounds_toArray, List.set_cons_zero, List.set_cons_succ]
        refine wpAnyH_take (i := 14) (v := undef) rfl (by kernel_rfl) (by kernel_rfl) (by kernel_rfl) (fun _ _ _ h => h) (.inr ⟨by rfl, rfl⟩) hHeld1 ?_
        simp only [Act.put, List.getElem_toArray, List.getElem_cons_succ, List.getElem_cons_zero, List.setIfInBounds_toArray, List.set_cons_zero, List.set_cons_succ]
        refine wpAnyH_take (i := 15) (v := undef) rfl (by kernel_rfl) (by kernel_rfl) (by kernel_rfl) (fun _ _ _ h => h) (.inr ⟨by rfl, rfl⟩) hHeld1 ?_
        simp only [Act.put, List.getElem_toArray, List.getElem_cons_succ, List.getElem_cons_zero, List.setIfInBounds_toArray, List.set_cons_zero, List.set_cons_succ]
        refine wpAnyH_take (i := 16) (v := undef) rfl (by kernel_rfl) (by kernel_rfl) (by kernel_rfl) (fun _ _ _ h => h) (.inr ⟨by rfl, rfl⟩) hHeld1 ?_
        simp only [Act.put, List.getElem_toArray, List.getElem_cons_succ, List.getElem_cons_zero, List.setIfInBounds_toArray, List.set_cons_zero, List.set_cons_succ]
        refine wpAnyH_take (i := 17) (v := undef) rfl (by kernel_rfl) (by kernel_rfl) (by kernel_rfl) (fun _ _ _ h => h) (.inr ⟨by rfl, rfl⟩) hHeld1 ?_
        simp only [Act.put, List.getElem_toArray, List.getElem_cons_succ, List.getElem_cons_zero, List.setIfInBounds_toArray, List.set_cons_zero, List.set_cons_succ]
        refine wpAnyH_take (i := 18) (v := .bool true) rfl (by kernel_rfl) (by kernel_rfl) (by kernel_rfl) (fun _ _ _ h => h) (.inl ⟨by rfl, fun z hSz => by go_simp⟩) hHeld1 ?_
        simp only [Act.put, List.getElem_toArray, List.getElem_cons_succ, List.getElem_cons_zero, List.setIfInBounds_toArray, List.set_cons_zero, List.set_cons_succ]
        refine wpAnyH_done (by kernel_rfl) ?_ _
        go_wp2_with fail
        go_ret
        exact ⟨by rw [bxOk_no hlt (by rw [hSd.out, hsd.out]; rfl)]; rfl, BW'.out.trans (hb3.mono BW'.out.size)⟩
      | true =>
        rw [hN] at hnm hsd
        clear hN
        cases k with
        | zero =>
          have hS0 : (fun z => z.cell? ⟨P, 0, none⟩ = some (.string m)) W.drew := y0
          refine wp_region_held_drew (S := (fun z => z.cell? ⟨P, 0, none⟩ = some (.string m))) (by kernel_rfl) hS0 (fun hHeld => ?_)
          refine wpAnyH_take (i := 0) (v := .pointer (some ⟨P, 0, none⟩)) rfl (by kernel_rfl) (by kernel_rfl) (by kernel_rfl) (fun _ _ _ h => h) (.inl ⟨by rfl, fun z hSz => by go_simp⟩) hHeld ?_
          simp only [Act.put, List.getElem_toArray, List.getElem_cons_succ, List.getElem_cons_zero, List.setIfInBounds_toArray, List.set_cons_zero, List.set_cons_succ]
          refine wpAnyH_take (i := 1) (v := .string m) rfl (by kernel_rfl) (by kernel_rfl) (by kernel_rfl) (fun _ _ _ h => h) (.inl ⟨by rfl, fun z hSz => by go_simp⟩) hHeld ?_
          simp only [Act.put, List.getElem_toArray, List.getElem_cons_succ, List.getElem_cons_zero, List.setIfInBounds_toArray, List.set_cons_zero, List.set_cons_succ]
          refine wpAnyH_ready (rs := [2]) (by kernel_rfl) (by simp) ?_
          refine AllReadyH.cons rfl (fun K hK => ?_) AllReadyH.nil
          go_simp
          with_reducible refine hnm.mono ?_
          rintro e w3 ⟨rfl, hb3⟩
          have hS3 : (fun z => z.cell? ⟨P, 0, none⟩ = some (.string m)) w3 := (hb3.cell (p := ⟨P, 0, none⟩) (by exact hPl')).trans y0
          refine hK.out _ _ hS3 (fun hHeld1 => ?_)
          clear hK K hHeld
          try simp only [Act.put, List.getElem_toArray, List.getElem_cons_succ, List.getElem_cons_zero, List.setIfInBounds_toArray, List.set_cons_zero, List.set_cons_succ]
          refine wpAnyH_take (i := 3) (v := .bool false) rfl (by kernel_rfl) (by kernel_rfl) (by kernel_rfl) (fun _ _ _ h => h) (.inl ⟨by rfl, fun z hSz => by go_simp⟩) hHeld1 ?_
          simp only [Act.put, List.getElem_toArray, List.getElem_cons_succ, List.getElem_cons_zero, List.setIfInBounds_toArray, List.set_cons_zero, List.set_cons_succ]
          refine wpAnyH_take (i := 4) (v := .bool false) rfl (by kernel_rfl) (by kernel_rfl) (by kernel_rfl) (fun _ _ _ h => h) (.inl ⟨by rfl, fun z hSz => by go_simp⟩) hHeld1 ?_
          simp only [Act.put, List.getElem_toArray, List.getElem_cons_succ, List.getElem_cons_zero, List.setIfInBounds_toArray, List.set_cons_zero, List.set_cons_succ]
          refine wpAnyH_take (i := 5) (v := .int .i64 ((0 : Nat) : Int)) rfl (by kernel_rfl) (by kernel_rfl) (by kernel_rfl) (fun _ _ _ h => h) (.inl ⟨by rfl, fun z hSz => by go_simp⟩) hHeld1 ?_
          simp only [Act.put, List.getElem_toArray, List.getElem_cons_succ, List.getElem_cons_zero, List.setIfInBounds_toArray, List.set_cons_zero, List.set_cons_succ]
          refine wpAnyH_take (i := 6) (v := .bool false) rfl (by kernel_rfl) (by kernel_rfl) (by kernel_rfl) (fun _ _ _ h => h) (.inl ⟨by rfl, fun z hSz => by go_simp⟩) hHeld1 ?_
          simp only [Act.put, List.getElem_toArray, List.getElem_cons_succ, List.getElem_cons_zero, List.setIfInBounds_toArray, List.set_cons_zero, List.set_cons_succ]
          refine wpAnyH_take (i := 7) (v := .bool false) rfl (by kernel_rfl) (by kernel_rfl) (by kernel_rfl) (fun _ _ _ h => h) (.inl ⟨by rfl, fun z hSz => by go_simp⟩) hHeld1 ?_
          simp only [Act.put, List.getElem_toArray, List.getElem_cons_succ, List.getElem_cons_zero, List.setIfInBounds_toArray, List.set_cons_zero, List.set_cons_succ]
          refine wpAnyH_take (i := 8) (v := undef) rfl (by kernel_rfl) (by kernel_rfl) (by kernel_rfl) (fun _ _ _ h => h) (.inr ⟨by rfl, rfl⟩) hHeld1 ?_
          simp only [Act.put, List.getElem_toArray, List.getElem_cons_succ, List.getElem_cons_zero, List.setIfInBounds_toArray, List.set_cons_zero, List.set_cons_succ]
          refine wpAnyH_take (i := 9) (v := undef) rfl (by kernel_rfl) (by kernel_rfl) (by kernel_rfl) (fun _ _ _ h => h) (.inr ⟨by rfl, rfl⟩) hHeld1 ?_
          simp only [Act.put, List.getElem_toArray, List.getElem_cons_succ, List.getElem_cons_zero, List.setIfInBounds_toArray, List.set_cons_zero, List.set_cons_succ]
          refine wpAnyH_take (i := 10) (v := undef) rfl (by kernel_rfl) (by kernel_rfl) (by kernel_rfl) (fun _ _ _ h => h) (.inr ⟨by rfl, rfl⟩) hHeld1 ?_
          simp only [Act.put, List.getElem_toArray, List.getElem_cons_succ, List.getElem_cons_zero, List.setIfInBounds_toArray, List.set_cons_zero, List.set_cons_succ]
          refine wpAnyH_take (i := 11) (v := undef) rfl (by kernel_rfl) (by kernel_rfl) (by kernel_rfl) (fun _ _ _ h => h) (.inr ⟨by rfl, rfl⟩) hHeld1 ?_
          simp only [Act.put, List.getElem_toArray, List.getElem_cons_succ, List.getElem_cons_zero, List.setIfInBounds_toArray, List.set_cons_zero, List.set_cons_succ]
          refine wpAnyH_take (i := 12) (v := undef) rfl (by kernel_rfl) (by kernel_rfl) (by kernel_rfl) (fun _ _ _ h => h) (.inr ⟨by rfl, rfl⟩) hHeld1 ?_
          simp only [Act.put, List.getElem_toArray, List.getElem_cons_succ, List.getElem_cons_zero, List.setIfInBounds_toArray, List.set_cons_zero, List.set_cons_succ]
          refine wpAnyH_take (i := 13) (v := undef) rfl (by kernel_rfl) (by kernel_rfl) (by kernel_rfl) (fun _ _ _ h => h) (.inr ⟨by rfl, rfl⟩) hHeld1 ?_
          simp only [Act.put, List.getElem_toArray, List.getElem_cons_succ, List.getElem_cons_zero, List.setIfInBounds_toArray, List.set_cons_zero, List.set_cons_succ]
          refine wpAnyH_take (i := 14) (v := undef) rfl (by kernel_rfl) (by kernel_rfl) (by kernel_rfl) (fun _ _ _ h => h) (.inr ⟨by rfl, rfl⟩) hHeld1 ?_
          simp only [Act.put, List.getElem_toArray, List.getElem_cons_succ, List.getElem_cons_zero, List.setIfInBounds_toArray, List.set_cons_zero, List.set_cons_succ]
          refine wpAnyH_take (i := 15) (v := undef) rfl (by kernel_rfl) (by kernel_rfl) (by kernel_rfl) (fun _ _ _ h => h) (.inr ⟨by rfl, rfl⟩) hHeld1 ?_
          simp only [Act.put, List.getElem_toArray, List.getElem_cons_succ, List.getElem_cons_zero, List.setIfInBounds_toArray, List.set_cons_zero, List.set_cons_succ]
          refine wpAnyH_take (i := 16) (v := undef) rfl (by kernel_rfl) (by kernel_rfl) (by kernel_rfl) (fun _ _ _ h => h) (.inr ⟨by rfl, rfl⟩) hHeld1 ?_
          simp only [Act.put, List.getElem_toArray, List.getElem_cons_succ, List.getElem_cons_zero, List.setIfInBounds_toArray, List.set_cons_zero, List.set_cons_succ]
          refine wpAnyH_take (i := 17) (v := .bool false) rfl (by kernel_rfl) (by kernel_rfl) (by kernel_rfl) (fun _ _ _ h => h) (.inl ⟨by rfl, fun z hSz => by go_simp⟩) hHeld1 ?_
          simp only [Act.put, List.getElem_toArray, List.getElem_cons_succ, List.getElem_cons_zero, List.setIfInBounds_toArray, List.set_cons_zero, List.set_cons_succ]
          refine wpAnyH_take (i := 18) (v := .bool false) rfl (by kernel_rfl) (by kernel_rfl) (by kernel_rfl) (fun _ _ _ h => h) (.inl ⟨by rfl, fun z hSz => by go_simp⟩) hHeld1 ?_
          simp only [Act.put, List.getElem_toArray, List.getElem_cons_succ, List.getElem_cons_zero, List.setIfInBounds_toArray, List.set_cons_zero, List.set_cons_succ]
          refine wpAnyH_done (by kernel_rfl) ?_ _
          have hb3s := hb3.size
          have BW3 : Hid (Below w.heap.size w w3) := BW'.out.trans (hb3.mono BW'.out.size)
          have hie3 : Hid (∀ z, Below w3.heap.size w3 z → Calls Tryz.prog 48 #[.agg #[.bool g1, .slice q1 l1 c1, .slice p1 m1 e1, .bool g2, .slice q2 l2 c2, .slice p2 m2 e2, .bool li, .bool hh]] z fun e w' => e = .returned (.tuple #[.bool (!LG && VD), .int .i64 (if LG then 1 else 0)]) ∧ Below z.heap.size z w') := fun z hz => hie2'.out z (hb3.trans (hz.mono hb3.size))
          have z0 := (hb3.cell (p := ⟨P, 0, none⟩) (by exact hPl')).trans y0
          have z1 := (hb3.cell (p := ⟨P, 1, none⟩) (by exact hPl')).trans y1
          have z2 := (hb3.cell (p := ⟨P, 2, none⟩) (by exact hPl')).trans y2
          have z3 := (hb3.cell (p := ⟨P, 3, none⟩) (by exact hPl')).trans y3
          have z4 := (hb3.cell (p := ⟨P, 4, none⟩) (by exact hPl')).trans y4
          have z5 := (hb3.cell (p := ⟨P, 5, none⟩) (by exact hPl')).trans y5
          have z6 := (hb3.cell (p := ⟨P, 6, none⟩) (by exact hPl')).trans y6
          have z7 := (hb3.cell (p := ⟨P, 7, none⟩) (by exact hPl')).trans y7
          have z8 := (hb3.cell (p := ⟨P, 8, none⟩) (by exact hPl')).trans y8
          clear y0 y1 y2 y3 y4 y5 y6 y7 y8 hnm hie2 hie2' hS0 hS3 hHeld1
          cases LG with
          | true =>
            have hie4 := hie3.out w3 (Below.refl _ _)
            go_wp2_with (go_at_call 48; with_reducible refine hie4.mono ?_; rintro e w4 ⟨rfl, hb4⟩)
            go_ret
            exact ⟨by rw [bxOk_no hlt (by rw [hSd.out, hsd.out]; simp)]; rfl, BW3.out.trans (hb4.mono BW3.out.size)⟩
          | false =>
            cases VD with
            | true =>
              have hie4 := hie3.out w3 (Below.refl _ _)
              go_wp2_with (go_at_call 48; with_reducible refine hie4.mono ?_; rintro e w4 ⟨rfl, hb4⟩)
              go_ret
              exact ⟨by rw [bxOk_no hlt (by rw [hSd.out, hsd.out]; simp)]; rfl, BW3.out.trans (hb4.mono BW3.out.size)⟩
            | false =>
              have hie4 := hie3.out w3 (Below.refl _ _)
              go_wp2_with (go_at_call 48; with_reducible refine hie4.mono ?_; rintro e w4 ⟨rfl, hb4⟩)
              go_roundw
              case rel =>
                refine ⟨0 + 1, by omega, by go_num, fun j hj => ?_, BW3.out.trans (hb4.mono BW3.out.size)⟩
                rcases Nat.lt_or_ge j 0 with h | h
                · exact hlow'.out j h
                · obtain rfl : j = 0 := by omega
                  rw [hSd.out, hsd.out]
                  simp
              case measure => simp [intOf]; omega
        | succ i =>
          have hi1 : ((i + 1 : Nat) : Int) - 1 = (i : Int) := by omega
          have hi0 : ((i + 1 : Nat) : Int) > 0 := by omega
          have hni : ¬ n ≤ i := by omega
          have hin : i < n := by omega
          have wi : IntKind.i64.wrap (i : Int) = (i : Int) := by rw [IntKind.wrap_i64]; omega
          have pv : W.drew.cell? ⟨b, o + i * 9, none⟩ = some (.string (bs i).m) := hne.out W.drew BW'.out i rfl
          simp only [Nat.add_sub_cancel] at hsd
          generalize (bs i).m = mp at *
          cases hq : Op.bytesLess mp.toList m.toList with
          | false =>
            rw [hq] at hsd
            have hS0 : (fun z => z.cell? ⟨P, 0, none⟩ = some (.string m) ∧ z.cell? ⟨b, o + i * 9, none⟩ = some (.string mp)) W.drew := ⟨y0, pv⟩
            refine wp_region_held_drew (S := (fun z => z.cell? ⟨P, 0, none⟩ = some (.string m) ∧ z.cell? ⟨b, o + i * 9, none⟩ = some (.string mp))) (by kernel_rfl) hS0 (fun hHeld => ?_)
            refine wpAnyH_take (i := 0) (v := .pointer (some ⟨P, 0, none⟩)) rfl (by kernel_rfl) (by kernel_rfl) (by kernel_rfl) (fun _ _ _ h => h) (.inl ⟨by rfl, fun z hSz => by go_simp⟩) hHeld ?_
            simp only [Act.put, List.getElem_toArray, List.getElem_cons_succ, List.getElem_cons_zero, List.setIfInBounds_toArray, List.set_cons_zero, List.set_cons_succ]
            refine wpAnyH_take (i := 1) (v := .string m) rfl (by kernel_rfl) (by kernel_rfl) (by kernel_rfl) (fun _ _ _ h => h) (.inl ⟨by rfl, fun z hSz => by go_simp⟩) hHeld ?_
            simp only [Act.put, List.getElem_toArray, List.getElem_cons_succ, List.getElem_cons_zero, List.setIfInBounds_toArray, List.set_cons_zero, List.set_cons_succ]
            refine wpAnyH_ready (rs := [2]) (by kernel_rfl) (by simp) ?_
            refine AllReadyH.cons rfl (fun K hK => ?_) AllReadyH.nil
            go_simp
            with_reducible refine hnm.mono ?_
            rintro e w3 ⟨rfl, hb3⟩
            have hS3 : (fun z => z.cell? ⟨P, 0, none⟩ = some (.string m) ∧ z.cell? ⟨b, o + i * 9, none⟩ = some (.string mp)) w3 := ⟨(hb3.cell (p := ⟨P, 0, none⟩) (by exact hPl')).trans y0, (hb3.cell (p := ⟨b, o + i * 9, none⟩) (by show b < W.drew.heap.size; have := BW'.out.size; omega)).trans pv⟩
            refine hK.out _ _ hS3 (fun hHeld1 => ?_)
            clear hK K hHeld
            try simp only [Act.put, List.getElem_toArray, List.getElem_cons_succ, List.getElem_cons_zero, List.setIfInBounds_toArray, List.set_cons_zero, List.set_cons_succ]
            refine wpAnyH_take (i := 3) (v := .bool false) rfl (by kernel_rfl) (by kernel_rfl) (by kernel_rfl) (fun _ _ _ h => h) (.inl ⟨by rfl, fun z hSz => by go_simp⟩) hHeld1 ?_
            simp only [Act.put, List.getElem_toArray, List.getElem_cons_succ, List.getElem_cons_zero, List.setIfInBounds_toArray, List.set_cons_zero, List.set_cons_succ]
            refine wpAnyH_take (i := 4) (v := .bool false) rfl (by kernel_rfl) (by kernel_rfl) (by kernel_rfl) (fun _ _ _ h => h) (.inl ⟨by rfl, fun z hSz => by go_simp⟩) hHeld1 ?_
            simp only [Act.put, List.getElem_toArray, List.getElem_cons_succ, List.getElem_cons_zero, List.setIfInBounds_toArray, List.set_cons_zero, List.set_cons_succ]
            refine wpAnyH_take (i := 5) (v := .int .i64 ((i + 1 : Nat) : Int)) rfl (by kernel_rfl) (by kernel_rfl) (by kernel_rfl) (fun _ _ _ h => h) (.inl ⟨by rfl, fun z hSz => by go_simp⟩) hHeld1 ?_
            simp only [Act.put, List.getElem_toArray, List.getElem_cons_succ, List.getElem_cons_zero, List.setIfInBounds_toArray, List.set_cons_zero, List.set_cons_succ]
            refine wpAnyH_take (i := 6) (v := .bool true) rfl (by kernel_rfl) (by kernel_rfl) (by kernel_rfl) (fun _ _ _ h => h) (.inl ⟨by rfl, fun z hSz => by go_simp⟩) hHeld1 ?_
            simp only [Act.put, List.getElem_toArray, List.getElem_cons_succ, List.getElem_cons_zero, List.setIfInBounds_toArray, List.set_cons_zero, List.set_cons_succ]
            refine wpAnyH_take (i := 7) (v := .bool true) rfl (by kernel_rfl) (by kernel_rfl) (by kernel_rfl) (fun _ _ _ h => h) (.inl ⟨by rfl, fun z hSz => by go_simp⟩) hHeld1 ?_
            simp only [Act.put, List.getElem_toArray, List.getElem_cons_succ, List.getElem_cons_zero, List.setIfInBounds_toArray, List.set_cons_zero, List.set_cons_succ]
            refine wpAnyH_take (i := 8) (v := .slice (some ⟨b, o, none⟩) n c) rfl (by kernel_rfl) (by kernel_rfl) (by kernel_rfl) (fun _ _ _ h => h) (.inl ⟨by rfl, fun z hSz => by go_simp⟩) hHeld1 ?_
            simp only [Act.put, List.getElem_toArray, List.getElem_cons_succ, List.getElem_cons_zero, List.setIfInBounds_toArray, List.set_cons_zero, List.set_cons_succ]
            refine wpAnyH_take (i := 9) (v := .int .i64 ((i + 1 : Nat) : Int)) rfl (by kernel_rfl) (by kernel_rfl) (by kernel_rfl) (fun _ _ _ h => h) (.inl ⟨by rfl, fun z hSz => by go_simp⟩) hHeld1 ?_
            simp only [Act.put, List.getElem_toArray, List.getElem_cons_succ, List.getElem_cons_zero, List.setIfInBounds_toArray, List.set_cons_zero, List.set_cons_succ]
            refine wpAnyH_take (i := 10) (v := .int .i64 (i : Int)) rfl (by kernel_rfl) (by kernel_rfl) (by kernel_rfl) (fun _ _ _ h => h) (.inl ⟨by rfl, fun z hSz => by go_simp⟩) hHeld1 ?_
            simp only [Act.put, List.getElem_toArray, List.getElem_cons_succ, List.getElem_cons_zero, List.setIfInBounds_toArray, List.set_cons_zero, List.set_cons_succ]
            refine wpAnyH_take (i := 11) (v := .pointer (some ⟨b, o + i * 9, none⟩)) rfl (by kernel_rfl) (by kernel_rfl) (by kernel_rfl) (fun _ _ _ h => h) (.inl ⟨by rfl, fun z hSz => by go_simp⟩) hHeld1 ?_
            simp only [Act.put, List.getElem_toArray, List.getElem_cons_succ, List.getElem_cons_zero, List.setIfInBounds_toArray, List.set_cons_zero, List.set_cons_succ]
            refine wpAnyH_take (i := 12) (v := .pointer (some ⟨b, o + i * 9, none⟩)) rfl (by kernel_rfl) (by kernel_rfl) (by kernel_rfl) (fun _ _ _ h => h) (.inl ⟨by rfl, fun z hSz => by go_simp⟩) hHeld1 ?_
            simp only [Act.put, List.getElem_toArray, List.getElem_cons_succ, List.getElem_cons_zero, List.setIfInBounds_toArray, List.set_cons_zero, List.set_cons_succ]
            refine wpAnyH_take (i := 13) (v := .string mp) rfl (by kernel_rfl) (by kernel_rfl) (by kernel_rfl) (fun _ _ _ h => h) (.inl ⟨by rfl, fun z hSz => by go_simp⟩) hHeld1 ?_
            simp only [Act.put, List.getElem_toArray, List.getElem_cons_succ, List.getElem_cons_zero, List.setIfInBounds_toArray, List.set_cons_zero, List.set_cons_succ]
            refine wpAnyH_take (i := 14) (v := .pointer (some ⟨P, 0, none⟩)) rfl (by kernel_rfl) (by kernel_rfl) (by kernel_rfl) (fun _ _ _ h => h) (.inl ⟨by rfl, fun z hSz => by go_simp⟩) hHeld1 ?_
            simp only [Act.put, List.getElem_toArray, List.getElem_cons_succ, List.getElem_cons_zero, List.setIfInBounds_toArray, List.set_cons_zero, List.set_cons_succ]
            refine wpAnyH_take (i := 15) (v := .string m) rfl (by kernel_rfl) (by kernel_rfl) (by kernel_rfl) (fun _ _ _ h => h) (.inl ⟨by rfl, fun z hSz => by go_simp⟩) hHeld1 ?_
            simp only [Act.put, List.getElem_toArray, List.getElem_cons_succ, List.getElem_cons_zero, List.setIfInBounds_toArray, List.set_cons_zero, List.set_cons_succ]
            refine wpAnyH_take (i := 16) (v := .bool true) rfl (by kernel_rfl) (by kernel_rfl) (by kernel_rfl) (fun _ _ _ h => h) (.inl ⟨by rfl, fun z hSz => by go_simp⟩) hHeld1 ?_
            simp only [Act.put, List.getElem_toArray, List.getElem_cons_succ, List.getElem_cons_zero, List.setIfInBounds_toArray, List.set_cons_zero, List.set_cons_succ]
            refine wpAnyH_take (i := 17) (v := .bool true) rfl (by kernel_rfl) (by kernel_rfl) (by kernel_rfl) (fun _ _ _ h => h) (.inl ⟨by rfl, fun z hSz => by go_simp⟩) hHeld1 ?_
            simp only [Act.put, List.getElem_toArray, List.getElem_cons_succ, List.getElem_cons_zero, List.setIfInBounds_toArray, List.set_cons_zero, List.set_cons_succ]
            refine wpAnyH_take (i := 18) (v := .bool true) rfl (by kernel_rfl) (by kernel_rfl) (by kernel_rfl) (fun _ _ _ h => h) (.inl ⟨by rfl, fun z hSz => by go_simp⟩) hHeld1 ?_
            simp only [Act.put, List.getElem_toArray, List.getElem_cons_succ, List.getElem_cons_zero, List.setIfInBounds_toArray, List.set_cons_zero, List.set_cons_succ]
            refine wpAnyH_done (by kernel_rfl) ?_ _
            have BW3 : Hid (Below w.heap.size w w3) := BW'.out.trans (hb3.mono BW'.out.size)
            go_wp2_with fail
            go_ret
            exact ⟨by rw [bxOk_no hlt (by rw [hSd.out, hsd.out]; simp)]; rfl, BW3.out⟩
          | true =>
            rw [hq] at hsd
            have hS0 : (fun z => z.cell? ⟨P, 0, none⟩ = some (.string m) ∧ z.cell? ⟨b, o + i * 9, none⟩ = some (.string mp)) W.drew := ⟨y0, pv⟩
            refine wp_region_held_drew (S := (fun z => z.cell? ⟨P, 0, none⟩ = some (.string m) ∧ z.cell? ⟨b, o + i * 9, none⟩ = some (.string mp))) (by kernel_rfl) hS0 (fun hHeld => ?_)
            refine wpAnyH_take (i := 0) (v := .pointer (some ⟨P, 0, none⟩)) rfl (by kernel_rfl) (by kernel_rfl) (by kernel_rfl) (fun _ _ _ h => h) (.inl ⟨by rfl, fun z hSz => by go_simp⟩) hHeld ?_
            simp only [Act.put, List.getElem_toArray, List.getElem_cons_succ, List.getElem_cons_zero, List.setIfInBounds_toArray, List.set_cons_zero, List.set_cons_succ]
            refine wpAnyH_take (i := 1) (v := .string m) rfl (by kernel_rfl) (by kernel_rfl) (by kernel_rfl) (fun _ _ _ h => h) (.inl ⟨by rfl, fun z hSz => by go_simp⟩) hHeld ?_
            simp only [Act.put, List.getElem_toArray, List.getElem_cons_succ, List.getElem_cons_zero, List.setIfInBounds_toArray, List.set_cons_zero, List.set_cons_succ]
            refine wpAnyH_ready (rs := [2]) (by kernel_rfl) (by simp) ?_
            refine AllReadyH.cons rfl (fun K hK => ?_) AllReadyH.nil
            go_simp
            with_reducible refine hnm.mono ?_
            rintro e w3 ⟨rfl, hb3⟩
            have hS3 : (fun z => z.cell? ⟨P, 0, none⟩ = some (.string m) ∧ z.cell? ⟨b, o + i * 9, none⟩ = some (.string mp)) w3 := ⟨(hb3.cell (p := ⟨P, 0, none⟩) (by exact hPl')).trans y0, (hb3.cell (p := ⟨b, o + i * 9, none⟩) (by show b < W.drew.heap.size; have := BW'.out.size; omega)).trans pv⟩
            refine hK.out _ _ hS3 (fun hHeld1 => ?_)
            clear hK K hHeld
            try simp only [Act.put, List.getElem_toArray, List.getElem_cons_succ, List.getElem_cons_zero, List.setIfInBounds_toArray, List.set_cons_zero, List.set_cons_succ]
            refine wpAnyH_take (i := 3) (v := .bool false) rfl (by kernel_rfl) (by kernel_rfl) (by kernel_rfl) (fun _ _ _ h => h) (.inl ⟨by rfl, fun z hSz => by go_simp⟩) hHeld1 ?_
            simp only [Act.put, List.getElem_toArray, List.getElem_cons_succ, List.getElem_cons_zero, List.setIfInBounds_toArray, List.set_cons_zero, List.set_cons_succ]
            refine wpAnyH_take (i := 4) (v := .bool false) rfl (by kernel_rfl) (by kernel_rfl) (by kernel_rfl) (fun _ _ _ h => h) (.inl ⟨by rfl, fun z hSz => by go_simp⟩) hHeld1 ?_
            simp only [Act.put, List.getElem_toArray, List.getElem_cons_succ, List.getElem_cons_zero, List.setIfInBounds_toArray, List.set_cons_zero, List.set_cons_succ]
            refine wpAnyH_take (i := 5) (v := .int .i64 ((i + 1 : Nat) : Int)) rfl (by kernel_rfl) (by kernel_rfl) (by kernel_rfl) (fun _ _ _ h => h) (.inl ⟨by rfl, fun z hSz => by go_simp⟩) hHeld1 ?_
            simp only [Act.put, List.getElem_toArray, List.getElem_cons_succ, List.getElem_cons_zero, List.setIfInBounds_toArray, List.set_cons_zero, List.set_cons_succ]
            refine wpAnyH_take (i := 6) (v := .bool true) rfl (by kernel_rfl) (by kernel_rfl) (by kernel_rfl) (fun _ _ _ h => h) (.inl ⟨by rfl, fun z hSz => by go_simp⟩) hHeld1 ?_
            simp only [Act.put, List.getElem_toArray, List.getElem_cons_succ, List.getElem_cons_zero, List.setIfInBounds_toArray, List.set_cons_zero, List.set_cons_succ]
            refine wpAnyH_take (i := 7) (v := .bool true) rfl (by kernel_rfl) (by kernel_rfl) (by kernel_rfl) (fun _ _ _ h => h) (.inl ⟨by rfl, fun z hSz => by go_simp⟩) hHeld1 ?_
            simp only [Act.put, List.getElem_toArray, List.getElem_cons_succ, List.getElem_cons_zero, List.setIfInBounds_toArray, List.set_cons_zero, List.set_cons_succ]
            refine wpAnyH_take (i := 8) (v := .slice (some ⟨b, o, none⟩) n c) rfl (by kernel_rfl) (by kernel_rfl) (by kernel_rfl) (fun _ _ _ h => h) (.inl ⟨by rfl, fun z hSz => by go_simp⟩) hHeld1 ?_
            simp only [Act.put, List.getElem_toArray, List.getElem_cons_succ, List.getElem_cons_zero, List.setIfInBounds_toArray, List.set_cons_zero, List.set_cons_succ]
            refine wpAnyH_take (i := 9) (v := .int .i64 ((i + 1 : Nat) : Int)) rfl (by kernel_rfl) (by kernel_rfl) (by kernel_rfl) (fun _ _ _ h => h) (.inl ⟨by rfl, fun z hSz => by go_simp⟩) hHeld1 ?_
            simp only [Act.put, List.getElem_toArray, List.getElem_cons_succ, List.getElem_cons_zero, List.setIfInBounds_toArray, List.set_cons_zero, List.set_cons_succ]
            refine wpAnyH_take (i := 10) (v := .int .i64 (i : Int)) rfl (by kernel_rfl) (by kernel_rfl) (by kernel_rfl) (fun _ _ _ h => h) (.inl ⟨by rfl, fun z hSz => by go_simp⟩) hHeld1 ?_
            simp only [Act.put, List.getElem_toArray, List.getElem_cons_succ, List.getElem_cons_zero, List.setIfInBounds_toArray, List.set_cons_zero, List.set_cons_succ]
            refine wpAnyH_take (i := 11) (v := .pointer (some ⟨b, o + i * 9, none⟩)) rfl (by kernel_rfl) (by kernel_rfl) (by kernel_rfl) (fun _ _ _ h => h) (.inl ⟨by rfl, fun z hSz => by go_simp⟩) hHeld1 ?_
            simp only [Act.put, List.getElem_toArray, List.getElem_cons_succ, List.getElem_cons_zero, List.setIfInBounds_toArray, List.set_cons_zero, List.set_cons_succ]
            refine wpAnyH_take (i := 12) (v := .pointer (some ⟨b, o + i * 9, none⟩)) rfl (by kernel_rfl) (by kernel_rfl) (by kernel_rfl) (fun _ _ _ h => h) (.inl ⟨by rfl, fun z hSz => by go_simp⟩) hHeld1 ?_
            simp only [Act.put, List.getElem_toArray, List.getElem_cons_succ, List.getElem_cons_zero, List.setIfInBounds_toArray, List.set_cons_zero, List.set_cons_succ]
            refine wpAnyH_take (i := 13) (v := .string mp) rfl (by kernel_rfl) (by kernel_rfl) (by kernel_rfl) (fun _ _ _ h => h) (.inl ⟨by rfl, fun z hSz => by go_simp⟩) hHeld1 ?_
            simp only [Act.put, List.getElem_toArray, List.getElem_cons_succ, List.getElem_cons_zero, List.setIfInBounds_toArray, List.set_cons_zero, List.set_cons_succ]
            refine wpAnyH_take (i := 14) (v := .pointer (some ⟨P, 0, none⟩)) rfl (by kernel_rfl) (by kernel_rfl) (by kernel_rfl) (fun _ _ _ h => h) (.inl ⟨by rfl, fun z hSz => by go_simp⟩) hHeld1 ?_
            simp only [Act.put, List.getElem_toArray, List.getElem_cons_succ, List.getElem_cons_zero, List.setIfInBounds_toArray, List.set_cons_zero, List.set_cons_succ]
            refine wpAnyH_take (i := 15) (v := .string m) rfl (by kernel_rfl) (by kernel_rfl) (by kernel_rfl) (fun _ _ _ h => h) (.inl ⟨by rfl, fun z hSz => by go_simp⟩) hHeld1 ?_
            simp only [Act.put, List.getElem_toArray, List.getElem_cons_succ, List.getElem_cons_zero, List.setIfInBounds_toArray, List.set_cons_zero, List.set_cons_succ]
            refine wpAnyH_take (i := 16) (v := .bool false) rfl (by kernel_rfl) (by kernel_rfl) (by kernel_rfl) (fun _ _ _ h => h) (.inl ⟨by rfl, fun z hSz => by go_simp⟩) hHeld1 ?_
            simp only [Act.put, List.getElem_toArray, List.getElem_cons_succ, List.getElem_cons_zero, List.setIfInBounds_toArray, List.set_cons_zero, List.set_cons_succ]
            refine wpAnyH_take (i := 17) (v := .bool false) rfl (by kernel_rfl) (by kernel_rfl) (by kernel_rfl) (fun _ _ _ h => h) (.inl ⟨by rfl, fun z hSz => by go_simp⟩) hHeld1 ?_
            simp only [Act.put, List.getElem_toArray, List.getElem_cons_succ, List.getElem_cons_zero, List.setIfInBounds_toArray, List.set_cons_zero, List.set_cons_succ]
            refine wpAnyH_take (i := 18) (v := .bool false) rfl (by kernel_rfl) (by kernel_rfl) (by kernel_rfl) (fun _ _ _ h => h) (.inl ⟨by rfl, fun z hSz => by go_simp⟩) hHeld1 ?_
            simp only [Act.put, List.getElem_toArray, List.getElem_cons_succ, List.getElem_cons_zero, List.setIfInBounds_toArray, List.set_cons_zero, List.set_cons_succ]
            refine wpAnyH_done (by kernel_rfl) ?_ _
            clear pv
            have hb3s := hb3.size
            have BW3 : Hid (Below w.heap.size w w3) := BW'.out.trans (hb3.mono BW'.out.size)
            have hie3 : Hid (∀ z, Below w3.heap.size w3 z → Calls Tryz.prog 48 #[.agg #[.bool g1, .slice q1 l1 c1, .slice p1 m1 e1, .bool g2, .slice q2 l2 c2, .slice p2 m2 e2, .bool li, .bool hh]] z fun e w' => e = .returned (.tuple #[.bool (!LG && VD), .int .i64 (if LG then 1 else 0)]) ∧ Below z.heap.size z w') := fun z hz => hie2'.out z (hb3.trans (hz.mono hb3.size))
            have z0 := (hb3.cell (p := ⟨P, 0, none⟩) (by exact hPl')).trans y0
            have z1 := (hb3.cell (p := ⟨P, 1, none⟩) (by exact hPl')).trans y1
            have z2 := (hb3.cell (p := ⟨P, 2, none⟩) (by exact hPl')).trans y2
            have z3 := (hb3.cell (p := ⟨P, 3, none⟩) (by exact hPl')).trans y3
            have z4 := (hb3.cell (p := ⟨P, 4, none⟩) (by exact hPl')).trans y4
            have z5 := (hb3.cell (p := ⟨P, 5, none⟩) (by exact hPl')).trans y5
            have z6 := (hb3.cell (p := ⟨P, 6, none⟩) (by exact hPl')).trans y6
            have z7 := (hb3.cell (p := ⟨P, 7, none⟩) (by exact hPl')).trans y7
            have z8 := (hb3.cell (p := ⟨P, 8, none⟩) (by exact hPl')).trans y8
            clear y0 y1 y2 y3 y4 y5 y6 y7 y8 hnm hie2 hie2' hS0 hS3 hHeld1
            cases LG with
            | true =>
              have hie4 := hie3.out w3 (Below.refl _ _)
              go_wp2_with (go_at_call 48; with_reducible refine hie4.mono ?_; rintro e w4 ⟨rfl, hb4⟩)
              go_ret
              exact ⟨by rw [bxOk_no hlt (by rw [hSd.out, hsd.out]; simp)]; rfl, BW3.out.trans (hb4.mono BW3.out.size)⟩
            | false =>
              cases VD with
              | true =>
                have hie4 := hie3.out w3 (Below.refl _ _)
                go_wp2_with (go_at_call 48; with_reducible refine hie4.mono ?_; rintro e w4 ⟨rfl, hb4⟩)
                go_ret
                exact ⟨by rw [bxOk_no hlt (by rw [hSd.out, hsd.out]; simp)]; rfl, BW3.out.trans (hb4.mono BW3.out.size)⟩
              | false =>
                have hie4 := hie3.out w3 (Below.refl _ _)
                go_wp2_with (go_at_call 48; with_reducible refine hie4.mono ?_; rintro e w4 ⟨rfl, hb4⟩)
                go_roundw
                case rel =>
                  refine ⟨(i + 1) + 1, by omega, by go_num, fun j hj => ?_, BW3.out.trans (hb4.mono BW3.out.size)⟩
                  rcases Nat.lt_or_ge j (i + 1) with h | h
                  · exact hlow'.out j h
                  · obtain rfl : j = (i + 1) := by omega
                    rw [hSd.out, hsd.out]
                    simp
                case measure => simp [intOf]; omega
    · obtain rfl : k = n := by omega
      go_wp2_with fail
      go_ret
      exact ⟨by rw [bxOk_yes hn hlow'.out]; rfl, hbw⟩
end Go.Proofs.YtaonejnicgbifaaGreatDoor
