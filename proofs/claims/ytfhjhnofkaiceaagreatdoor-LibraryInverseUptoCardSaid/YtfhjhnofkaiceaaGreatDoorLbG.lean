/-
  Users.
-/
import Derived.Test.YtfhjhnofkaiceaaGreatDoorLbF
import Derived.Test.YtfhjhnofkaiceaaGreatDoorLbD
namespace Go.Proofs.YtfhjhnofkaiceaaGreatDoor
open Go Go.RowKit


set_option maxRecDepth 100000 in
set_option maxHeartbeats 4000000 in
/-- Users of the program, where the key is there. -/
theorem users_some {w : World} (b o n c : Nat) {L : List En} {U : Lb} (h : LibOk w (some ⟨b, o, none⟩) n L) (hU : LibU w L U) (k0 : Ky) (i0 : Nat) (hi : ixK (L.map (·.k)) k0 = some i0) (hb : b < w.heap.size) (hx : ∀ i e, L[i]? = some e → w.rangeAt b (o + i * 33) e.cells) :
    Calls Tryz.prog 20 #[.slice (some ⟨b, o, none⟩) n c, .agg #[.string k0.1, .int .i64 k0.2]] w fun x w' => ∃ q' c', x = .returned (.tuple #[.slice q' (foldK [] (U.users k0)).length c', .int .i64 0]) ∧ KsOk w' q' (foldK [] (U.users k0)).length c' (foldK [] (U.users k0)) ∧ Below w.heap.size w w' := by
  have hb0 : Below w.heap.size w (w.alloc (.cells #[.string k0.1, .int .i64 k0.2] 24)) := below_one _ _
  have hcall := index_ok c (h.below hb0) k0
  have hz0 : (w.alloc (.cells #[.string k0.1, .int .i64 k0.2] 24)).heap.size = w.heap.size + 1 := by simp
  have kr0 : Hid ((w.alloc (.cells #[.string k0.1, .int .i64 k0.2] 24)).rangeAt w.heap.size 0 (kcells k0)) := range_new w (kcells k0) 24
  unfold ixI at hcall
  rw [hi] at hcall
  simp only at hcall
  have hL := h.1
  have hn := h.2.1
  have hUl := hU.1
  have hx' : Hid (∀ i e, L[i]? = some e → w.rangeAt b (o + i * 33) e.cells) := hx
  have hoks' : Hid (∀ e ∈ L, e.Ok) := h.2.2.1
  have hU' : Hid (LibU w L U) := hU
  obtain ⟨dd, hu, hd⟩ := en_row
  have hHu : Hid (Tryz.prog.underlying 55 = some dd) := hu
  obtain ⟨dk, hku, hkd⟩ := ky_row
  have hHk : Hid (Tryz.prog.underlying 24 = some dk) := hku
  obtain ⟨d3, hu3, hd3⟩ := st_row
  have hH3 : Hid (Tryz.prog.underlying 53 = some d3) := hu3
  have hi0 : (0 : Int) ≤ (i0 : Int) := by omega
  have hi1 : ¬ (i0 : Int) < 0 := by omega
  have hmm := @run_makeMap Tryz.prog
  clear hx hu hku hu3 h hU hi
  go_enter Tryz.func20, Tryz.ntmps20
  go_wp2_with (go_at_call 26; refine hcall.mono ?_; rintro x w5 ⟨rfl, hb5⟩
               have W5 : Below w.heap.size w w5 := hb0.trans (hb5.mono (by omega))
               have k5 : w5.rangeAt w.heap.size 0 (kcells k0) := rangeAt_below kr0.out hb5 (by omega)
               have z5 : w.heap.size + 1 ≤ w5.heap.size := by have := hb5.size; omega)
  have hm0 : SetAt (w5.alloc (.map #[] 0)) w5.heap.size 0 [] := SetAt.made w5
  have W5m : Below w.heap.size w (w5.alloc (.map #[] 0)) := W5.alloc W5.size _
  have k5m : (w5.alloc (.map #[] 0)).rangeAt w.heap.size 0 (kcells k0) := World.rangeAt_alloc k5 _
  have z5m : w.heap.size + 1 ≤ (w5.alloc (.map #[] 0)).heap.size := by simp; omega
  clear hmm
  go_loopw [16] (fun i wr => ∃ k : Nat, k ≤ n ∧ i = .int .i64 k ∧ (∃ m S, m ≤ k ∧ SetAt wr w5.heap.size m S ∧ ∀ y, y ∈ S ↔ y ∈ Lb.users (U.take k) k0) ∧ Below w.heap.size w wr ∧ wr.rangeAt w.heap.size 0 (kcells k0) ∧ w.heap.size + 1 ≤ wr.heap.size) (fun i _ => n - (intOf i).toNat)
  case atStart => exact ⟨0, Nat.zero_le _, rfl, ⟨0, [], Nat.le_refl _, hm0, by simp [Lb.users]⟩, W5m, k5m, z5m⟩
  case round =>
    clear hm0 W5m k5m z5m
    obtain ⟨k, hk, rfl, ⟨m, S, hmk, hset, hS⟩, hbw, hkr, hz⟩ := hrel
    have hkr' : Hid (wr.rangeAt w.heap.size 0 (kcells k0)) := hkr
    clear hkr
    have hset' : Hid (SetAt wr w5.heap.size m S) := hset
    have hS' : Hid (∀ y, y ∈ S ↔ y ∈ Lb.users (U.take k) k0) := hS
    clear hset hS
    by_cases hlt : k < n
    · have hlt' : (k : Int) < (n : Int) := by omega
      obtain ⟨e, he⟩ : ∃ e, L[k]? = some e := ⟨_, List.getElem?_eq_getElem (by omega)⟩
      have heL := List.mem_of_getElem? he
      have hek := hoks'.out e heL
      have hx := rangeAt_below (hx'.out k e he) hbw hb
      have lx := hek.len'
      have ox' : Hid (e.cells.toArray.all (·.oneCell') = true) := hek.one'
      have hws := hbw.size
      obtain ⟨X, ⟨cl, d, hcl, hr, hX, hkw⟩, hkl, hUi⟩ := hU'.out.2.2 k e he
      have hcall := fun z => key28_ok e hek z
      have hsn : Hid (Lb.users (U.take (k + 1)) k0 = Lb.users (U.take k) k0 ++ if k0 ∈ foldK [] X.keys then [e.k] else []) := by
        show Lb.users (U.take (k + 1)) k0 = _
        rw [List.take_add_one, hUi]
        exact Lb.users_snoc _ _ _
      have hko : Hid (KyOk e.k) := hek.key
      have hus : (foldK [] X.keys).length ≤ 1048576 := by
        have := foldK_len X.keys []
        simp only [List.length_nil, Nat.zero_add] at this
        omega
      have hpf' : Hid (∀ (z : World) (g : Nat), z.rangeAt g 0 e.cells → z.rangeAt g 12 d.cells) := fun z g hz => range_pf (o := 0) hz hr hcl
      have hfu : ∀ z, Below w.heap.size w z → Calls Tryz.prog 34 #[.agg d.cells.toArray] z fun e w' => ∃ q c, e = .returned (.slice q (foldK [] X.keys).length c) ∧ KsOk w' q (foldK [] X.keys).length c (foldK [] X.keys) ∧ Below z.heap.size z w' := fun z hz => uses_ok (hX.below hz) hkl
      have ld : d.cells.length = 21 := rfl
      clear he heL hek hUi hX hkw hr hcl hkl
      generalize foldK [] X.keys = us at *
      generalize e.k = ek at *
      generalize e.cells = cx at *
      generalize d.cells = ds at *
      have hbr : Below wr.heap.size wr (wr.alloc (.cells cx.toArray 55)) := below_one _ _
      obtain ⟨wa, hwa⟩ : ∃ wa, wa = wr.alloc (.cells cx.toArray 55) := ⟨_, rfl⟩
      have E0 : Hid (wa.rangeAt wr.heap.size 0 cx) := by rw [hwa]; exact range_new _ _ _
      have B1 : Hid (wa.rangeAt w.heap.size 0 (kcells k0)) := by rw [hwa]; exact World.rangeAt_alloc hkr'.out _
      have hb2 : Below w.heap.size w wa := by rw [hwa]; exact hbw.alloc hws _
      have hza : wa.heap.size = wr.heap.size + 1 := by rw [hwa]; simp
      rw [← hwa] at hbr
      obtain ⟨t, hin⟩ : ∃ t, Hid (decide (k0 ∈ us) = t) := ⟨_, rfl⟩
      have hwa' : Hid (wa = wr.alloc (.cells cx.toArray 55)) := hwa
      clear hwa
      go_wp2_with (first
          | (with_reducible refine wpList_load_mid (op := ⟨some 19, _, _, _, _, _⟩) ?_ 55 (.tmp 18) ?_ (b) (o + k * 33) ?_ cx dd ?_ hHu.out hd ?_ ?_
             rotate_left 1
             · with_reducible rfl
             · kernel_rfl
             · exact hx
             · (rw [lx]; exact en_size)
             rotate_left 1
             · rfl)
          | (with_reducible refine wpList_store_new ?_ 55 (.tmp 8) (.tmp 19) ?_ cx.toArray wr.heap.size rfl ?_ ?_ ?_ ?_ ox'.out ?_
             rotate_left 1
             · with_reducible rfl
             · rfl
             · rfl
             · simp [lx]
             · (simp only [List.size_toArray, lx]; exact en_size)
             rotate_left 1
             · rfl))
      rw [← hwa'.out]
      try simp only [Act.put]
      refine wp_region_held_drew (S := fun z => z.rangeAt wr.heap.size 0 cx ∧ z.rangeAt w.heap.size 0 (kcells k0)) (by kernel_rfl) (by exact ⟨E0.out, B1.out⟩) (fun hHeld => ?_)
      refine wpAnyH_take (i := 0) (oi := ?op0x0) (v := .pointer (some ⟨wr.heap.size, 12, none⟩)) ?ta0x0 ?tb0x0 ?tc0x0 ?td0x0 ?tq0x0 ?ty0x0 hHeld ?_
      case ta0x0 => rfl
      case tb0x0 => kernel_rfl
      case tc0x0 => kernel_rfl
      case td0x0 => kernel_rfl
      case tq0x0 => exact fun _ _ _ h => h
      case ty0x0 => exact Or.inl ⟨by rfl, by intro z hSz; go_simp⟩
      simp only [Act.put, List.getElem_toArray, List.getElem_cons_zero, List.setIfInBounds_toArray, List.set_cons_zero, List.set_cons_succ]
      refine wpAnyH_take (i := 1) (oi := ?op1x1) (v := .agg ds.toArray) ?ta1x1 ?tb1x1 ?tc1x1 ?td1x1 ?tq1x1 ?ty1x1 hHeld ?_
      case ta1x1 => rfl
      case tb1x1 => kernel_rfl
      case tc1x1 => kernel_rfl
      case td1x1 => kernel_rfl
      case tq1x1 => exact fun _ _ _ h => h
      case ty1x1 =>
        refine yieldsIf_load_mid ?tw1x1 53 (.tmp 20) ?to1x1 wr.heap.size 12 ?tx1x1 ds d3 (fun z hz => hpf'.out z _ hz.1) hH3.out hd3 (by rw [ld]; exact st_size)
        case tw1x1 => kernel_rfl
        case to1x1 => rfl
        case tx1x1 => kernel_rfl
      simp only [Act.put, List.getElem_toArray, List.getElem_cons_succ, List.getElem_cons_zero, List.setIfInBounds_toArray, List.set_cons_zero, List.set_cons_succ]
      refine wpAnyH_take (i := 3) (oi := ?op3x3) (v := .agg (kcells k0).toArray) ?ta3x3 ?tb3x3 ?tc3x3 ?td3x3 ?tq3x3 ?ty3x3 hHeld ?_
      case ta3x3 => rfl
      case tb3x3 => kernel_rfl
      case tc3x3 => kernel_rfl
      case td3x3 => kernel_rfl
      case tq3x3 => exact fun _ _ _ h => h
      case ty3x3 =>
        refine yieldsIf_load_mid ?tw3x3 24 (.tmp 3) ?to3x3 w.heap.size 0 ?tx3x3 (kcells k0) dk (fun z hz => hz.2) hHk.out hkd ky_size
        case tw3x3 => kernel_rfl
        case to3x3 => rfl
        case tx3x3 => kernel_rfl
      simp only [Act.put, List.getElem_toArray, List.getElem_cons_succ, List.getElem_cons_zero, List.setIfInBounds_toArray, List.set_cons_zero, List.set_cons_succ]
      refine wpAnyH_ready (rs := [2]) (by kernel_rfl) (by simp) ?_
      refine AllReadyH.cons rfl (fun K' hKK => ?_) AllReadyH.nil
      go_simp
      refine (hfu _ hb2.drew).mono ?_
      rintro x w2 ⟨q2, c2, rfl, hk2, hb3⟩
      have hb3' : Below wa.heap.size wa w2 := below_undrew hb3
      have B2 : w2.rangeAt w.heap.size 0 (kcells k0) := rangeAt_below B1.out hb3' (by omega)
      have E2 : w2.rangeAt wr.heap.size 0 cx := rangeAt_below E0.out hb3' (by omega)
      refine hKK.out _ _ ⟨E2, B2⟩ (fun _ => ?_)
      clear hKK K'
      refine wpAnyH_ready (rs := [4]) (by kernel_rfl) (by simp) ?_
      refine AllReadyH.cons rfl (fun K' hKK => ?_) AllReadyH.nil
      go_simp
      refine (contains_ok hk2 (Nat.le_trans hus (by omega)) k0).mono ?_
      rintro x w3 ⟨rfl, hb4⟩
      have hb5 : Below wa.heap.size wa w3 := hb3'.trans (hb4.mono hb3'.size)
      have hs5 := hb5.size
      have B3 : w3.rangeAt w.heap.size 0 (kcells k0) := rangeAt_below B1.out hb5 (by omega)
      have E3 : w3.rangeAt wr.heap.size 0 cx := rangeAt_below E0.out hb5 (by omega)
      refine hKK.out _ _ ⟨E3, B3⟩ (fun _ => ?_)
      clear hKK K'
      refine wpAnyH_done (by kernel_rfl) ?_ _
      rw [hin.out]
      have W3 : Below w.heap.size w w3 := hb2.trans (hb5.mono hb2.size)
      have B3' : Hid (w3.rangeAt w.heap.size 0 (kcells k0)) := B3
      have E3' : Hid (w3.rangeAt wr.heap.size 0 cx) := E3
      clear B2 E2 B3 E3 hb3 hb3' hb4 hk2 B1 E0 hfu
      have hset3 : Hid (SetAt w3 w5.heap.size m S) := (hwa'.out ▸ hset'.out.alloc _ : SetAt wa w5.heap.size m S).below hb5 (by have := hset'.out.lt; omega)
      cases t with
      | true =>
        go_wp2_with (first
          | (with_reducible refine wpList_load_mid (op := ⟨some 26, _, _, _, _, _⟩) ?_ 55 (.tmp 8) ?_ (wr.heap.size) 0 ?_ cx dd ?_ hHu.out hd ?_ ?_
             rotate_left 1
             · with_reducible rfl
             · kernel_rfl
             · exact E3'.out
             · (rw [lx]; exact en_size)
             rotate_left 1
             · rfl)
          | (go_at_call 28; refine (hcall _).mono ?_; rintro x w6 ⟨rfl, hb6⟩
             have hset6 : Hid (SetAt w6 w5.heap.size m S) := hset3.out.below hb6 (hset3.out.lt))
          | (at_mapUpdate; refine wpList_put rfl _ _ _ rfl w5.heap.size m S rfl hset6.out (by unfold maxLen; omega) ek hko.out rfl rfl ?_; intro w7 hset7 hg7))
        go_roundw
        case rel =>
          have hW6 : Below w.heap.size w w6 := W3.trans (hb6.mono W3.size)
          have hlt5 : w.heap.size + 1 ≤ w5.heap.size := z5
          have hs6 := hb6.size
          have hs7 := hg7.size
          refine ⟨k + 1, by omega, by go_num, ⟨m + 1, ek :: S, by omega, hset7, fun y => ?_⟩, hW6.grown hg7 hW6.size (fun g' hg' => by simp only [Option.some.injEq] at hg'; omega), fun j v hv => hg7.cell (rangeAt_below B3'.out hb6 (by omega) j v hv) (fun e => by simp only [Option.some.injEq] at e; omega), by omega⟩
          rw [hsn.out, if_pos (of_decide_eq_true hin.out), List.mem_append, List.mem_cons, hS'.out y, List.mem_singleton, or_comm]
        case measure => simp [intOf]; omega
      | false =>
        go_wp2_with fail
        go_roundw
        case rel =>
          exact ⟨k + 1, by omega, by go_num, ⟨m, S, by omega, hset3.out, fun y => by rw [hsn.out, if_neg (of_decide_eq_false hin.out), List.append_nil]; exact hS'.out y⟩, W3, B3'.out, by omega⟩
        case measure => simp [intOf]; omega
    · obtain rfl : k = n := by omega
      have hcall2 := sorted_ok wr w5.heap.size m S hset'.out (by omega)
      go_wp2_with (go_at_call 29; refine hcall2.mono ?_; rintro x w8 ⟨q8, c8, K8, rfl, hks8, hasc, hmem, hb8⟩)
      go_ret2
      have hK : K8 = foldK [] (Lb.users U k0) := asc_fold hasc fun y => by
        rw [hmem y, hS'.out y, List.take_of_length_le (by omega)]
      rw [← hK]
      exact ⟨q8, c8, rfl, hks8, hbw.trans (hb8.mono hbw.size)⟩


set_option maxRecDepth 100000 in
set_option maxHeartbeats 4000000 in
/-- Users of the reference, where the key is there. -/
theorem rusers_some {w : World} (b o n c : Nat) {L : List En} {U : Lb} (h : LibOk w (some ⟨b, o, none⟩) n L) (hU : LibU w L U) (k0 : Ky) (i0 : Nat) (hi : ixK (L.map (·.k)) k0 = some i0) (hb : b < w.heap.size) (hx : ∀ i e, L[i]? = some e → w.rangeAt b (o + i * 33) e.cells) :
    Calls Tryz.prog 25 #[.slice (some ⟨b, o, none⟩) n c, .agg #[.string k0.1, .int .i64 k0.2]] w fun x w' => ∃ q' c', x = .returned (.tuple #[.slice q' (foldK [] (U.users k0)).length c', .int .i64 0]) ∧ KsOk w' q' (foldK [] (U.users k0)).length c' (foldK [] (U.users k0)) ∧ Below w.heap.size w w' := by
  have hb0 : Below w.heap.size w (w.alloc (.cells #[.string k0.1, .int .i64 k0.2] 24)) := below_one _ _
  have hcall := rfind_ok c (h.below hb0) k0
  have hz0 : (w.alloc (.cells #[.string k0.1, .int .i64 k0.2] 24)).heap.size = w.heap.size + 1 := by simp
  have kr0 : Hid ((w.alloc (.cells #[.string k0.1, .int .i64 k0.2] 24)).rangeAt w.heap.size 0 (kcells k0)) := range_new w (kcells k0) 24
  unfold fndV at hcall
  rw [hi] at hcall
  simp only at hcall
  have hL := h.1
  have hn := h.2.1
  have hUl := hU.1
  have hx' : Hid (∀ i e, L[i]? = some e → w.rangeAt b (o + i * 33) e.cells) := hx
  have hoks' : Hid (∀ e ∈ L, e.Ok) := h.2.2.1
  have hU' : Hid (LibU w L U) := hU
  obtain ⟨dd, hu, hd⟩ := en_row
  have hHu : Hid (Tryz.prog.underlying 55 = some dd) := hu
  obtain ⟨dk, hku, hkd⟩ := ky_row
  have hHk : Hid (Tryz.prog.underlying 24 = some dk) := hku
  obtain ⟨d3, hu3, hd3⟩ := st_row
  have hH3 : Hid (Tryz.prog.underlying 53 = some d3) := hu3
  have hi0 : (0 : Int) ≤ (i0 : Int) := by omega
  have hi1 : ¬ (i0 : Int) < 0 := by omega
  skip
  clear hx hu hku hu3 h hU hi
  go_enter Tryz.func25, Tryz.ntmps25
  go_wp2_with (go_at_call 8; refine hcall.mono ?_; rintro x w5 ⟨rfl, hb5⟩
               have W5 : Below w.heap.size w w5 := hb0.trans (hb5.mono (by omega))
               have k5 : w5.rangeAt w.heap.size 0 (kcells k0) := rangeAt_below kr0.out hb5 (by omega)
               have z5 : w.heap.size + 1 ≤ w5.heap.size := by have := hb5.size; omega)
  skip
  go_loopw [8, 21] (fun u i wr => ∃ k : Nat, k ≤ n ∧ i = .int .i64 k ∧ (∃ q' c', u = .slice q' (foldK [] (Lb.users (U.take k) k0)).length c' ∧ KsOk wr q' (foldK [] (Lb.users (U.take k) k0)).length c' (foldK [] (Lb.users (U.take k) k0))) ∧ Below w.heap.size w wr ∧ wr.rangeAt w.heap.size 0 (kcells k0) ∧ w.heap.size + 1 ≤ wr.heap.size) (fun _ i _ => n - (intOf i).toNat)
  case atStart => exact ⟨0, Nat.zero_le _, rfl, ⟨none, 0, rfl, ⟨rfl, Nat.le_refl _, Nat.zero_le _, .inl ⟨rfl, rfl, rfl⟩⟩⟩, W5, k5, z5⟩
  case round =>
    skip
    obtain ⟨k, hk, rfl, ⟨q', c', rfl, hks⟩, hbw, hkr, hz⟩ := hrel
    have hkr' : Hid (wr.rangeAt w.heap.size 0 (kcells k0)) := hkr
    clear hkr
    have hks' : Hid (KsOk wr q' (foldK [] (Lb.users (U.take k) k0)).length c' (foldK [] (Lb.users (U.take k) k0))) := hks
    clear hks
    by_cases hlt : k < n
    · have hlt' : (k : Int) < (n : Int) := by omega
      obtain ⟨e, he⟩ : ∃ e, L[k]? = some e := ⟨_, List.getElem?_eq_getElem (by omega)⟩
      have heL := List.mem_of_getElem? he
      have hek := hoks'.out e heL
      have hx := rangeAt_below (hx'.out k e he) hbw hb
      have lx := hek.len'
      have ox' : Hid (e.cells.toArray.all (·.oneCell') = true) := hek.one'
      have hws := hbw.size
      obtain ⟨X, ⟨cl, d, hcl, hr, hX, hkw⟩, hkl, hUi⟩ := hU'.out.2.2 k e he
      have hcall := fun z => key27_ok e hek z
      have hsn : Hid (Lb.users (U.take (k + 1)) k0 = Lb.users (U.take k) k0 ++ if k0 ∈ foldK [] X.keys then [e.k] else []) := by
        show Lb.users (U.take (k + 1)) k0 = _
        rw [List.take_add_one, hUi]
        exact Lb.users_snoc _ _ _
      have hko : Hid (KyOk e.k) := hek.key
      have hus : (foldK [] X.keys).length ≤ 1048576 := by
        have := foldK_len X.keys []
        simp only [List.length_nil, Nat.zero_add] at this
        omega
      have hpf' : Hid (∀ (z : World) (g : Nat), z.rangeAt g 0 e.cells → z.rangeAt g 12 d.cells) := fun z g hz => range_pf (o := 0) hz hr hcl
      have hfu : ∀ z, Below w.heap.size w z → Calls Tryz.prog 38 #[.agg d.cells.toArray] z fun e w' => ∃ q c, e = .returned (.slice q (foldK [] X.keys).length c) ∧ KsOk w' q (foldK [] X.keys).length c (foldK [] X.keys) ∧ Below z.heap.size z w' := fun z hz => rUses_ok (hX.below hz) hkl
      have ld : d.cells.length = 21 := rfl
      have hfl : (foldK [] (Lb.users (U.take k) k0)).length ≤ 1048576 := by
        have h1 := foldK_len (Lb.users (U.take k) k0) []
        have h2 : (Lb.users (U.take k) k0).length ≤ k := by
          unfold Lb.users
          rw [List.length_map]
          exact Nat.le_trans (List.length_filter_le _ _) (by simp; omega)
        simp only [List.length_nil, Nat.zero_add] at h1
        omega
      obtain ⟨KK, hKK'⟩ : ∃ KK, Hid (foldK [] (Lb.users (U.take k) k0) = KK) := ⟨_, rfl⟩
      rw [hKK'.out] at hks' hfl ⊢
      clear he heL hek hUi hX hkw hr hcl hkl
      generalize foldK [] X.keys = us at *
      generalize e.k = ek at *
      generalize e.cells = cx at *
      generalize d.cells = ds at *
      have hbr : Below wr.heap.size wr (wr.alloc (.cells cx.toArray 55)) := below_one _ _
      obtain ⟨wa, hwa⟩ : ∃ wa, wa = wr.alloc (.cells cx.toArray 55) := ⟨_, rfl⟩
      have E0 : Hid (wa.rangeAt wr.heap.size 0 cx) := by rw [hwa]; exact range_new _ _ _
      have B1 : Hid (wa.rangeAt w.heap.size 0 (kcells k0)) := by rw [hwa]; exact World.rangeAt_alloc hkr'.out _
      have hb2 : Below w.heap.size w wa := by rw [hwa]; exact hbw.alloc hws _
      have hza : wa.heap.size = wr.heap.size + 1 := by rw [hwa]; simp
      rw [← hwa] at hbr
      obtain ⟨t, hin⟩ : ∃ t, Hid (decide (k0 ∈ us) = t) := ⟨_, rfl⟩
      have hwa' : Hid (wa = wr.alloc (.cells cx.toArray 55)) := hwa
      clear hwa
      go_wp2_with (first
          | (with_reducible refine wpList_load_mid (op := ⟨some 24, _, _, _, _, _⟩) ?_ 55 (.tmp 23) ?_ (b) (o + k * 33) ?_ cx dd ?_ hHu.out hd ?_ ?_
             rotate_left 1
             · with_reducible rfl
             · kernel_rfl
             · exact hx
             · (rw [lx]; exact en_size)
             rotate_left 1
             · rfl)
          | (with_reducible refine wpList_store_new ?_ 55 (.tmp 10) (.tmp 24) ?_ cx.toArray wr.heap.size rfl ?_ ?_ ?_ ?_ ox'.out ?_
             rotate_left 1
             · with_reducible rfl
             · rfl
             · rfl
             · simp [lx]
             · (simp only [List.size_toArray, lx]; exact en_size)
             rotate_left 1
             · rfl))
      rw [← hwa'.out]
      try simp only [Act.put]
      refine wp_region_held_drew (S := fun z => z.rangeAt wr.heap.size 0 cx ∧ z.rangeAt w.heap.size 0 (kcells k0)) (by kernel_rfl) (by exact ⟨E0.out, B1.out⟩) (fun hHeld => ?_)
      refine wpAnyH_take (i := 0) (oi := ?op0x0) (v := .pointer (some ⟨wr.heap.size, 12, none⟩)) ?ta0x0 ?tb0x0 ?tc0x0 ?td0x0 ?tq0x0 ?ty0x0 hHeld ?_
      case ta0x0 => rfl
      case tb0x0 => kernel_rfl
      case tc0x0 => kernel_rfl
      case td0x0 => kernel_rfl
      case tq0x0 => exact fun _ _ _ h => h
      case ty0x0 => exact Or.inl ⟨by rfl, by intro z hSz; go_simp⟩
      simp only [Act.put, List.getElem_toArray, List.getElem_cons_zero, List.setIfInBounds_toArray, List.set_cons_zero, List.set_cons_succ]
      refine wpAnyH_take (i := 1) (oi := ?op1x1) (v := .agg ds.toArray) ?ta1x1 ?tb1x1 ?tc1x1 ?td1x1 ?tq1x1 ?ty1x1 hHeld ?_
      case ta1x1 => rfl
      case tb1x1 => kernel_rfl
      case tc1x1 => kernel_rfl
      case td1x1 => kernel_rfl
      case tq1x1 => exact fun _ _ _ h => h
      case ty1x1 =>
        refine yieldsIf_load_mid ?tw1x1 53 (.tmp 25) ?to1x1 wr.heap.size 12 ?tx1x1 ds d3 (fun z hz => hpf'.out z _ hz.1) hH3.out hd3 (by rw [ld]; exact st_size)
        case tw1x1 => kernel_rfl
        case to1x1 => rfl
        case tx1x1 => kernel_rfl
      simp only [Act.put, List.getElem_toArray, List.getElem_cons_succ, List.getElem_cons_zero, List.setIfInBounds_toArray, List.set_cons_zero, List.set_cons_succ]
      refine wpAnyH_take (i := 3) (oi := ?op3x3) (v := .agg (kcells k0).toArray) ?ta3x3 ?tb3x3 ?tc3x3 ?td3x3 ?tq3x3 ?ty3x3 hHeld ?_
      case ta3x3 => rfl
      case tb3x3 => kernel_rfl
      case tc3x3 => kernel_rfl
      case td3x3 => kernel_rfl
      case tq3x3 => exact fun _ _ _ h => h
      case ty3x3 =>
        refine yieldsIf_load_mid ?tw3x3 24 (.tmp 3) ?to3x3 w.heap.size 0 ?tx3x3 (kcells k0) dk (fun z hz => hz.2) hHk.out hkd ky_size
        case tw3x3 => kernel_rfl
        case to3x3 => rfl
        case tx3x3 => kernel_rfl
      simp only [Act.put, List.getElem_toArray, List.getElem_cons_succ, List.getElem_cons_zero, List.setIfInBounds_toArray, List.set_cons_zero, List.set_cons_succ]
      refine wpAnyH_ready (rs := [2]) (by kernel_rfl) (by simp) ?_
      refine AllReadyH.cons rfl (fun K' hKK => ?_) AllReadyH.nil
      go_simp
      refine (hfu _ hb2.drew).mono ?_
      rintro x w2 ⟨q2, c2, rfl, hk2, hb3⟩
      have hb3' : Below wa.heap.size wa w2 := below_undrew hb3
      have B2 : w2.rangeAt w.heap.size 0 (kcells k0) := rangeAt_below B1.out hb3' (by omega)
      have E2 : w2.rangeAt wr.heap.size 0 cx := rangeAt_below E0.out hb3' (by omega)
      refine hKK.out _ _ ⟨E2, B2⟩ (fun _ => ?_)
      clear hKK K'
      refine wpAnyH_ready (rs := [4]) (by kernel_rfl) (by simp) ?_
      refine AllReadyH.cons rfl (fun K' hKK => ?_) AllReadyH.nil
      go_simp
      refine (in_ok hk2 (Nat.le_trans hus (by omega)) k0).mono ?_
      rintro x w3 ⟨rfl, hb4⟩
      have hb5 : Below wa.heap.size wa w3 := hb3'.trans (hb4.mono hb3'.size)
      have hs5 := hb5.size
      have B3 : w3.rangeAt w.heap.size 0 (kcells k0) := rangeAt_below B1.out hb5 (by omega)
      have E3 : w3.rangeAt wr.heap.size 0 cx := rangeAt_below E0.out hb5 (by omega)
      refine hKK.out _ _ ⟨E3, B3⟩ (fun _ => ?_)
      clear hKK K'
      refine wpAnyH_done (by kernel_rfl) ?_ _
      rw [hin.out]
      have W3 : Below w.heap.size w w3 := hb2.trans (hb5.mono hb2.size)
      have B3' : Hid (w3.rangeAt w.heap.size 0 (kcells k0)) := B3
      have E3' : Hid (w3.rangeAt wr.heap.size 0 cx) := E3
      clear B2 E2 B3 E3 hb3 hb3' hb4 hk2 B1 E0 hfu
      have hks3 : Hid (KsOk w3 q' KK.length c' KK) := (hks'.out.below hbr).below hb5
      cases t with
      | true =>
        go_wp2_with (first
          | (with_reducible refine wpList_load_mid (op := ⟨some 31, _, _, _, _, _⟩) ?_ 55 (.tmp 10) ?_ (wr.heap.size) 0 ?_ cx dd ?_ hHu.out hd ?_ ?_
             rotate_left 1
             · with_reducible rfl
             · kernel_rfl
             · exact E3'.out
             · (rw [lx]; exact en_size)
             rotate_left 1
             · rfl)
          | (go_at_call 27; refine (hcall _).mono ?_; rintro x w6 ⟨rfl, hb6⟩
             skip)
          | (go_at_call 30; refine (insert_ok ek (hks3.out.below hb6) hfl).mono ?_; rintro x w7 ⟨q7, c7, rfl, hks7, hb7⟩))
        go_roundw
        case rel =>
          have hW6 : Below w.heap.size w w6 := W3.trans (hb6.mono W3.size)
          have hW7 : Below w.heap.size w w7 := hW6.trans (hb7.mono hW6.size)
          have hs6 := hb6.size
          have hs7 := hb7.size
          have hn7 : Hid (foldK [] (Lb.users (U.take (k + 1)) k0) = insK ek KK) := by
            show foldK [] (Lb.users (U.take (k + 1)) k0) = insK ek KK
            rw [hsn.out, if_pos (of_decide_eq_true hin.out), foldK_append, hKK'.out]
            rfl
          exact ⟨k + 1, by omega, by go_num, ⟨q7, c7, by rw [hn7.out], by rw [hn7.out]; exact hks7⟩, hW7, rangeAt_below (rangeAt_below B3'.out hb6 (by omega)) hb7 (by omega), by omega⟩
        case measure => simp [intOf]; omega
      | false =>
        go_wp2_with fail
        go_roundw
        case rel =>
          have hn7 : Hid (foldK [] (Lb.users (U.take (k + 1)) k0) = KK) := by
            show foldK [] (Lb.users (U.take (k + 1)) k0) = KK
            rw [hsn.out, if_neg (of_decide_eq_false hin.out), List.append_nil, hKK'.out]
          exact ⟨k + 1, by omega, by go_num, ⟨q', c', by rw [hn7.out], by rw [hn7.out]; exact hks3.out⟩, W3, B3'.out, by omega⟩
        case measure => simp [intOf]; omega
    · obtain rfl : k = n := by omega
      have hu : Hid (U.take k = U) := List.take_of_length_le (by omega)
      go_wp2_with fail
      go_ret2
      rw [hu.out] at hks'
      exact ⟨q', c', by rw [hu.out]; rfl, hks'.out, hbw⟩

end Go.Proofs.YtfhjhnofkaiceaaGreatDoor
