/-
  Uses of an entry; lists of keys searched.
-/
import Derived.Test.YtfhjhnofkaiceaaGreatDoorLbE
import Derived.Test.YtfhjhnofkaiceaaGreatDoorLbC
import Derived.Test.YtfhjhnofkaiceaaGreatDoorLbD
namespace Go.Proofs.YtfhjhnofkaiceaaGreatDoor
open Go Go.RowKit

/-- What Uses returns: the keys and the error. -/
def Lb.res (U : Lb) (k : Ky) : List Ky × Int := match ixK (U.map (·.1)) k with | some i => ((U[i]?.map (·.2)).getD [], 0) | none => ([], 90)
theorem LibU.keys {w : World} {L : List En} {U : Lb} (h : LibU w L U) : U.map (·.1) = L.map (·.k) := by
  apply List.ext_getElem?
  intro i
  rw [List.getElem?_map, List.getElem?_map]
  by_cases hi : i < L.length
  · obtain ⟨X, _, _, h3⟩ := h.2.2 i _ (List.getElem?_eq_getElem hi)
    rw [h3, List.getElem?_eq_getElem hi]
    rfl
  · have h1 : List.length U = List.length L := h.1
    have h2 : List.length U ≤ i := by rw [h1]; omega
    rw [List.getElem?_eq_none h2, List.getElem?_eq_none (by omega)]
    rfl
theorem LibU.below {w w' : World} (hb : Below w.heap.size w w') {L : List En} {U : Lb} (h : LibU w L U) : LibU w' L U := by
  refine ⟨h.1, h.2.1, fun i e he => ?_⟩
  obtain ⟨X, ⟨cl, d, h1, h2, h3, h4⟩, h5, h6⟩ := h.2.2 i e he
  exact ⟨X, ⟨cl, d, h1, h2, h3.below hb, h4⟩, h5, h6⟩
theorem Lb.of_eq (U : Lb) (k : Ky) : U.of k = (U.res k).1 := by
  unfold Lb.of Lb.res
  cases ixK (U.map (·.1)) k <;> rfl
theorem range_pf {w : World} {b o : Nat} {e : En} {cl : List Value} {d : Sd} (h : w.rangeAt b o e.cells) (hr : e.r = cl ++ d.cells) (hl : cl.length = 10) : w.rangeAt b (o + 12) d.cells := fun j v hv => by
  have h1 := h (12 + j) v (by
    unfold En.cells
    rw [hr, show 12 + j = (10 + j) + 1 + 1 by omega, List.getElem?_cons_succ, List.getElem?_cons_succ, List.getElem?_append_right (by omega), hl, show 10 + j - 10 = j by omega]
    exact hv)
  rwa [← Nat.add_assoc] at h1


set_option maxRecDepth 100000 in
set_option maxHeartbeats 1000000 in
/-- Uses of the program. -/
theorem puses_ok {w : World} {q : Option Addr} {n : Nat} (c : Nat) {L : List En} {U : Lb} (h : LibOk w q n L) (hU : LibU w L U) (k0 : Ky) :
    Calls Tryz.prog 19 #[.slice q n c, .agg #[.string k0.1, .int .i64 k0.2]] w fun x w' => ∃ q' c', x = .returned (.tuple #[.slice q' (U.res k0).1.length c', .int .i64 (U.res k0).2]) ∧ KsOk w' q' (U.res k0).1.length c' (U.res k0).1 ∧ Below w.heap.size w w' := by
  have hb0 : Below w.heap.size w (w.alloc (.cells #[.string k0.1, .int .i64 k0.2] 24)) := below_one _ _
  have hcall := index_ok c (h.below hb0) k0
  have hz0 : (w.alloc (.cells #[.string k0.1, .int .i64 k0.2] 24)).heap.size = w.heap.size + 1 := by simp
  unfold ixI at hcall
  unfold Lb.res
  rw [hU.keys]
  cases hi : ixK (L.map (·.k)) k0 with
  | none =>
    rw [hi] at hcall
    simp only at hcall ⊢
    clear h hU hi
    go_enter Tryz.func19, Tryz.ntmps19
    go_wp2_with (go_at_call 26; refine hcall.mono ?_; rintro x w5 ⟨rfl, hb5⟩)
    go_ret2
    exact ⟨none, 0, rfl, ⟨rfl, Nat.le_refl _, Nat.zero_le _, .inl ⟨rfl, rfl, rfl⟩⟩, hb0.trans (hb5.mono (by omega))⟩
  | some i =>
    rw [hi] at hcall
    simp only at hcall ⊢
    have hg := ixK_get hi
    rw [List.getElem?_map, Option.map_eq_some_iff] at hg
    obtain ⟨e, he, _⟩ := hg
    obtain ⟨X, ⟨cl, d, hcl, hr, hX, hkw⟩, hkl, hUi⟩ := hU.2.2 i e he
    rw [hUi]
    simp only [Option.map_some, Option.getD_some]
    have hin : i < n := by have := (List.getElem?_eq_some_iff.1 he).1; have := h.1; omega
    obtain ⟨_, hn, _, h4⟩ := h
    rcases h4 with h0 | ⟨b, o, rfl, hlt, hc⟩
    · omega
    have hx := range_pf (hc i e he) hr hcl
    have hi0 : (0 : Int) ≤ (i : Int) := by omega
    have hi1 : ¬ (i : Int) < 0 := by omega
    have hi2 : (i : Int) < (n : Int) := by omega
    obtain ⟨dd, hu, hd⟩ := st_row
    have hHu : Hid (Tryz.prog.underlying 53 = some dd) := hu
    have hx' : Hid (w.rangeAt b (o + i * 33 + 12) d.cells) := hx
    have hf : ∀ z, Below w.heap.size w z → Calls Tryz.prog 34 #[.agg d.cells.toArray] z fun e w' => ∃ q c, e = .returned (.slice q (foldK [] X.keys).length c) ∧ KsOk w' q (foldK [] X.keys).length c (foldK [] X.keys) ∧ Below z.heap.size z w' := fun z hz => uses_ok (hX.below hz) hkl
    have ld : d.cells.length = 21 := rfl
    clear hu hx hUi hU hi he hc hX hkw hr hcl
    generalize foldK [] X.keys = K at *
    generalize d.cells = cs at *
    go_enter Tryz.func19, Tryz.ntmps19
    go_wp2_with (first
      | (go_at_call 26; refine hcall.mono ?_; rintro x w5 ⟨rfl, hb5⟩
         have W5 : Below w.heap.size w w5 := hb0.trans (hb5.mono (by omega))
         have hx5 := rangeAt_below hx'.out W5 hlt)
      | (with_reducible refine wpList_load_mid (op := ⟨some 16, _, _, _, _, _⟩) ?_ 53 (.tmp 15) ?_ b (o + i * 33 + 12) ?_ cs dd ?_ hHu.out hd ?_ ?_
         rotate_left 1
         · with_reducible rfl
         · kernel_rfl
         · exact hx5
         · (rw [ld]; exact st_size)
         rotate_left 1
         · rfl)
      | (go_at_call 34; refine (hf _ W5).mono ?_; rintro x w6 ⟨q6, c6, rfl, hk6, hb6⟩))
    go_ret2
    exact ⟨q6, c6, rfl, hk6, W5.trans (hb6.mono W5.size)⟩


set_option maxRecDepth 100000 in
set_option maxHeartbeats 1000000 in
/-- Uses of the reference. -/
theorem ruses_ok {w : World} {q : Option Addr} {n : Nat} (c : Nat) {L : List En} {U : Lb} (h : LibOk w q n L) (hU : LibU w L U) (k0 : Ky) :
    Calls Tryz.prog 22 #[.slice q n c, .agg #[.string k0.1, .int .i64 k0.2]] w fun x w' => ∃ q' c', x = .returned (.tuple #[.slice q' (U.res k0).1.length c', .int .i64 (U.res k0).2]) ∧ KsOk w' q' (U.res k0).1.length c' (U.res k0).1 ∧ Below w.heap.size w w' := by
  have hb0 : Below w.heap.size w (w.alloc (.cells #[.string k0.1, .int .i64 k0.2] 24)) := below_one _ _
  have hcall := rfind_ok c (h.below hb0) k0
  have hz0 : (w.alloc (.cells #[.string k0.1, .int .i64 k0.2] 24)).heap.size = w.heap.size + 1 := by simp
  unfold fndV at hcall
  unfold Lb.res
  rw [hU.keys]
  cases hi : ixK (L.map (·.k)) k0 with
  | none =>
    rw [hi] at hcall
    simp only at hcall ⊢
    clear h hU hi
    go_enter Tryz.func22, Tryz.ntmps22
    go_wp2_with (go_at_call 8; refine hcall.mono ?_; rintro x w5 ⟨rfl, hb5⟩)
    go_ret2
    exact ⟨none, 0, rfl, ⟨rfl, Nat.le_refl _, Nat.zero_le _, .inl ⟨rfl, rfl, rfl⟩⟩, hb0.trans (hb5.mono (by omega))⟩
  | some i =>
    rw [hi] at hcall
    simp only at hcall ⊢
    have hg := ixK_get hi
    rw [List.getElem?_map, Option.map_eq_some_iff] at hg
    obtain ⟨e, he, _⟩ := hg
    obtain ⟨X, ⟨cl, d, hcl, hr, hX, hkw⟩, hkl, hUi⟩ := hU.2.2 i e he
    rw [hUi]
    simp only [Option.map_some, Option.getD_some]
    have hin : i < n := by have := (List.getElem?_eq_some_iff.1 he).1; have := h.1; omega
    obtain ⟨_, hn, _, h4⟩ := h
    rcases h4 with h0 | ⟨b, o, rfl, hlt, hc⟩
    · omega
    have hx := range_pf (hc i e he) hr hcl
    have hi0 : (0 : Int) ≤ (i : Int) := by omega
    have hi1 : ¬ (i : Int) < 0 := by omega
    have hi2 : (i : Int) < (n : Int) := by omega
    obtain ⟨dd, hu, hd⟩ := st_row
    have hHu : Hid (Tryz.prog.underlying 53 = some dd) := hu
    have hx' : Hid (w.rangeAt b (o + i * 33 + 12) d.cells) := hx
    have hf : ∀ z, Below w.heap.size w z → Calls Tryz.prog 38 #[.agg d.cells.toArray] z fun e w' => ∃ q c, e = .returned (.slice q (foldK [] X.keys).length c) ∧ KsOk w' q (foldK [] X.keys).length c (foldK [] X.keys) ∧ Below z.heap.size z w' := fun z hz => rUses_ok (hX.below hz) hkl
    have ld : d.cells.length = 21 := rfl
    clear hu hx hUi hU hi he hc hX hkw hr hcl
    generalize foldK [] X.keys = K at *
    generalize d.cells = cs at *
    go_enter Tryz.func22, Tryz.ntmps22
    go_wp2_with (first
      | (go_at_call 8; refine hcall.mono ?_; rintro x w5 ⟨rfl, hb5⟩
         have W5 : Below w.heap.size w w5 := hb0.trans (hb5.mono (by omega))
         have hx5 := rangeAt_below hx'.out W5 hlt)
      | (with_reducible refine wpList_load_mid (op := ⟨some 20, _, _, _, _, _⟩) ?_ 53 (.tmp 19) ?_ b (o + i * 33 + 12) ?_ cs dd ?_ hHu.out hd ?_ ?_
         rotate_left 1
         · with_reducible rfl
         · kernel_rfl
         · exact hx5
         · (rw [ld]; exact st_size)
         rotate_left 1
         · rfl)
      | (go_at_call 38; refine (hf _ W5).mono ?_; rintro x w6 ⟨q6, c6, rfl, hk6, hb6⟩))
    go_ret2
    exact ⟨q6, c6, rfl, hk6, W5.trans (hb6.mono W5.size)⟩


set_option maxRecDepth 100000 in
set_option maxHeartbeats 1000000 in
/-- The reference: whether a list has a key. -/
theorem in_ok {w : World} {q : Option Addr} {n c : Nat} {K : List Ky} (h : KsOk w q n c K) (hn : n ≤ 2097152) (k0 : Ky) :
    Calls Tryz.prog 37 #[.slice q n c, .agg #[.string k0.1, .int .i64 k0.2]] w fun x w' => x = .returned (.bool (decide (k0 ∈ K))) ∧ Below w.heap.size w w' := by
  have hb0 : Below w.heap.size w (w.alloc (.cells #[.string k0.1, .int .i64 k0.2] 24)) := below_one _ _
  have e0 : (w.alloc (.cells #[.string k0.1, .int .i64 k0.2] 24)).cell? ⟨w.heap.size, 0, none⟩ = some (.string k0.1) := by simp
  have e1 : (w.alloc (.cells #[.string k0.1, .int .i64 k0.2] 24)).cell? ⟨w.heap.size, 1, none⟩ = some (.int .i64 k0.2) := by simp
  have ez : w.heap.size + 1 ≤ (w.alloc (.cells #[.string k0.1, .int .i64 k0.2] 24)).heap.size := by simp
  obtain ⟨hL, _, _, h4⟩ := h
  rcases Nat.eq_zero_or_pos n with h0 | hpos
  · subst h0
    obtain rfl : K = [] := List.eq_nil_of_length_eq_zero hL
    clear h4 e0 e1 ez
    rw [show decide (k0 ∈ ([] : List Ky)) = false by simp]
    go_enter Tryz.func37, Tryz.ntmps37
    go_wp2_with fail
    refine wp_loop_once ?_
    go_wp2_with fail
    go_ret
    exact ⟨rfl, hb0⟩
  rcases h4 with ⟨_, h, _⟩ | ⟨b, o, rfl, hlt, hc⟩
  · omega
  have hc' : Hid (∀ i k, K[i]? = some k → w.rangeAt b (o + i * 2) (kcells k)) := hc
  clear hc
  go_enter Tryz.func37, Tryz.ntmps37
  go_wp2_with fail
  go_loopw [9] (fun i wr => ∃ k : Nat, k ≤ n ∧ i = .int .i64 k ∧ (∀ x ∈ K.take k, ¬ x = k0) ∧ Below w.heap.size w wr ∧ w.heap.size + 1 ≤ wr.heap.size ∧ wr.cell? ⟨w.heap.size, 0, none⟩ = some (.string k0.1) ∧ wr.cell? ⟨w.heap.size, 1, none⟩ = some (.int .i64 k0.2)) (fun i _ => n - (intOf i).toNat)
  case atStart => exact ⟨0, Nat.zero_le _, rfl, by simp, hb0, ez, e0, e1⟩
  case round =>
    clear hb0 e0 e1 ez
    obtain ⟨k, hk, rfl, hlow, hbw, hsz, c0, c1⟩ := hrel
    have hlow' : Hid (∀ x ∈ K.take k, ¬ x = k0) := hlow
    clear hlow
    by_cases hlt2 : k < n
    · have hlt' : (k : Int) < (n : Int) := by omega
      obtain ⟨a, ha⟩ : ∃ a, K[k]? = some a := ⟨_, List.getElem?_eq_getElem (by omega)⟩
      have hr := rangeAt_below (hc'.out k a ha) hbw hlt
      have d0 := hr 0 _ rfl
      have d1 := hr 1 _ rfl
      rw [Nat.add_zero] at d0
      have ha' : Hid (K[k]? = some a) := ha
      have f0 : ∀ ob, (wr.alloc ob).cell? ⟨w.heap.size, 0, none⟩ = some (.string k0.1) := fun ob => (World.cell?_alloc_lt _ _ _ (by show w.heap.size < _; omega)).trans c0
      have f1 : ∀ ob, (wr.alloc ob).cell? ⟨w.heap.size, 1, none⟩ = some (.int .i64 k0.2) := fun ob => (World.cell?_alloc_lt _ _ _ (by show w.heap.size < _; omega)).trans c1
      have hb2 : ∀ ob, Below w.heap.size w (wr.alloc ob) := fun ob => hbw.alloc hbw.size _
      clear ha hr
      by_cases he : a = k0
      · subst he
        go_wp2_with fail
        go_ret
        have hm : a ∈ K := List.mem_of_getElem? ha'.out
        exact ⟨by rw [decide_eq_true hm]; rfl, hb2 _⟩
      · have he' : Hid (¬ a = k0) := he
        have hd := ky_ne he
        clear he
        rcases hd with heb | ⟨heb, hav⟩
        · go_wp2_with fail
          go_roundw
          case rel =>
            refine ⟨k + 1, by omega, by go_num, fun x hx => ?_, hb2 _, by simp; omega, f0 _, f1 _⟩
            rw [List.take_add_one, ha'.out] at hx
            rcases List.mem_append.1 hx with hx | hx
            · exact hlow'.out x hx
            · simp at hx
              exact hx ▸ he'.out
          case measure => simp [intOf]; omega
        · go_wp2_with fail
          go_roundw
          case rel =>
            refine ⟨k + 1, by omega, by go_num, fun x hx => ?_, hb2 _, by simp; omega, f0 _, f1 _⟩
            rw [List.take_add_one, ha'.out] at hx
            rcases List.mem_append.1 hx with hx | hx
            · exact hlow'.out x hx
            · simp at hx
              exact hx ▸ he'.out
          case measure => simp [intOf]; omega
    · obtain rfl : k = n := by omega
      go_wp2_with fail
      go_ret
      have hm : ¬ k0 ∈ K := fun hm => hlow'.out k0 (by rw [List.take_of_length_le (by omega)]; exact hm) rfl
      exact ⟨by rw [decide_eq_false hm]; rfl, hbw⟩


set_option maxRecDepth 100000 in
set_option maxHeartbeats 1000000 in
/-- among: whether a list has a key. -/
theorem among_ok {w : World} {q : Option Addr} {n c : Nat} {K : List Ky} (h : KsOk w q n c K) (hn : n ≤ 2097152) (k0 : Ky) :
    Calls Tryz.prog 21 #[.slice q n c, .agg #[.string k0.1, .int .i64 k0.2]] w fun x w' => x = .returned (.bool (decide (k0 ∈ K))) ∧ Below w.heap.size w w' := by
  have hb0 : Below w.heap.size w (w.alloc (.cells #[.string k0.1, .int .i64 k0.2] 24)) := below_one _ _
  have e0 : (w.alloc (.cells #[.string k0.1, .int .i64 k0.2] 24)).cell? ⟨w.heap.size, 0, none⟩ = some (.string k0.1) := by simp
  have e1 : (w.alloc (.cells #[.string k0.1, .int .i64 k0.2] 24)).cell? ⟨w.heap.size, 1, none⟩ = some (.int .i64 k0.2) := by simp
  have ez : w.heap.size + 1 ≤ (w.alloc (.cells #[.string k0.1, .int .i64 k0.2] 24)).heap.size := by simp
  obtain ⟨hL, _, _, h4⟩ := h
  rcases Nat.eq_zero_or_pos n with h0 | hpos
  · subst h0
    obtain rfl : K = [] := List.eq_nil_of_length_eq_zero hL
    clear h4 e0 e1 ez
    rw [show decide (k0 ∈ ([] : List Ky)) = false by simp]
    go_enter Tryz.func21, Tryz.ntmps21
    go_wp2_with fail
    refine wp_loop_once ?_
    go_wp2_with fail
    go_ret
    exact ⟨rfl, hb0⟩
  rcases h4 with ⟨_, h, _⟩ | ⟨b, o, rfl, hlt, hc⟩
  · omega
  have hc' : Hid (∀ i k, K[i]? = some k → w.rangeAt b (o + i * 2) (kcells k)) := hc
  clear hc
  go_enter Tryz.func21, Tryz.ntmps21
  go_wp2_with fail
  go_loopw [9] (fun i wr => ∃ k : Nat, k ≤ n ∧ i = .int .i64 k ∧ (∀ x ∈ K.take k, ¬ x = k0) ∧ Below w.heap.size w wr ∧ w.heap.size + 1 ≤ wr.heap.size ∧ wr.cell? ⟨w.heap.size, 0, none⟩ = some (.string k0.1) ∧ wr.cell? ⟨w.heap.size, 1, none⟩ = some (.int .i64 k0.2)) (fun i _ => n - (intOf i).toNat)
  case atStart => exact ⟨0, Nat.zero_le _, rfl, by simp, hb0, ez, e0, e1⟩
  case round =>
    clear hb0 e0 e1 ez
    obtain ⟨k, hk, rfl, hlow, hbw, hsz, c0, c1⟩ := hrel
    have hlow' : Hid (∀ x ∈ K.take k, ¬ x = k0) := hlow
    clear hlow
    by_cases hlt2 : k < n
    · have hlt' : (k : Int) < (n : Int) := by omega
      obtain ⟨a, ha⟩ : ∃ a, K[k]? = some a := ⟨_, List.getElem?_eq_getElem (by omega)⟩
      have hr := rangeAt_below (hc'.out k a ha) hbw hlt
      have d0 := hr 0 _ rfl
      have d1 := hr 1 _ rfl
      rw [Nat.add_zero] at d0
      have ha' : Hid (K[k]? = some a) := ha
      have f0 : ∀ ob, (wr.alloc ob).cell? ⟨w.heap.size, 0, none⟩ = some (.string k0.1) := fun ob => (World.cell?_alloc_lt _ _ _ (by show w.heap.size < _; omega)).trans c0
      have f1 : ∀ ob, (wr.alloc ob).cell? ⟨w.heap.size, 1, none⟩ = some (.int .i64 k0.2) := fun ob => (World.cell?_alloc_lt _ _ _ (by show w.heap.size < _; omega)).trans c1
      have hb2 : ∀ ob, Below w.heap.size w (wr.alloc ob) := fun ob => hbw.alloc hbw.size _
      clear ha hr
      by_cases he : a = k0
      · subst he
        go_wp2_with fail
        go_ret
        have hm : a ∈ K := List.mem_of_getElem? ha'.out
        exact ⟨by rw [decide_eq_true hm]; rfl, hb2 _⟩
      · have he' : Hid (¬ a = k0) := he
        have hd := ky_ne he
        clear he
        rcases hd with heb | ⟨heb, hav⟩
        · go_wp2_with fail
          go_roundw
          case rel =>
            refine ⟨k + 1, by omega, by go_num, fun x hx => ?_, hb2 _, by simp; omega, f0 _, f1 _⟩
            rw [List.take_add_one, ha'.out] at hx
            rcases List.mem_append.1 hx with hx | hx
            · exact hlow'.out x hx
            · simp at hx
              exact hx ▸ he'.out
          case measure => simp [intOf]; omega
        · go_wp2_with fail
          go_roundw
          case rel =>
            refine ⟨k + 1, by omega, by go_num, fun x hx => ?_, hb2 _, by simp; omega, f0 _, f1 _⟩
            rw [List.take_add_one, ha'.out] at hx
            rcases List.mem_append.1 hx with hx | hx
            · exact hlow'.out x hx
            · simp at hx
              exact hx ▸ he'.out
          case measure => simp [intOf]; omega
    · obtain rfl : k = n := by omega
      go_wp2_with fail
      go_ret
      have hm : ¬ k0 ∈ K := fun hm => hlow'.out k0 (by rw [List.take_of_length_le (by omega)]; exact hm) rfl
      exact ⟨by rw [decide_eq_false hm]; rfl, hbw⟩

end Go.Proofs.YtfhjhnofkaiceaaGreatDoor

namespace Go.Proofs.YtfhjhnofkaiceaaGreatDoor
open Go Go.RowKit

set_option maxRecDepth 100000 in
set_option maxHeartbeats 1000000 in
/-- slices.Index at keys. -/
theorem kindex_ok {w : World} {q : Option Addr} {n c : Nat} {K : List Ky} (h : KsOk w q n c K) (hn : n ≤ 2097152) (k0 : Ky) :
    Calls Tryz.prog 52 #[.slice q n c, .agg #[.string k0.1, .int .i64 k0.2]] w fun x w' => x = .returned (.int .i64 (ixI K k0)) ∧ Below w.heap.size w w' := by
  have hb0 : Below w.heap.size w (w.alloc (.cells #[.string k0.1, .int .i64 k0.2] 24)) := below_one _ _
  have e0 : (w.alloc (.cells #[.string k0.1, .int .i64 k0.2] 24)).cell? ⟨w.heap.size, 0, none⟩ = some (.string k0.1) := by simp
  have e1 : (w.alloc (.cells #[.string k0.1, .int .i64 k0.2] 24)).cell? ⟨w.heap.size, 1, none⟩ = some (.int .i64 k0.2) := by simp
  obtain ⟨hL, _, _, h4⟩ := h
  rcases Nat.eq_zero_or_pos n with h0 | hpos
  · subst h0
    obtain rfl : K = [] := List.eq_nil_of_length_eq_zero hL
    clear h4 e0 e1
    rw [show ixI ([] : List Ky) k0 = -1 from rfl]
    go_enter Tryz.func52, Tryz.ntmps52
    go_wp2_with fail
    refine wp_loop_once ?_
    go_wp2_with fail
    go_ret
    exact ⟨rfl, hb0⟩
  rcases h4 with ⟨_, h, _⟩ | ⟨b, o, rfl, hlt, hc⟩
  · omega
  have hc' : Hid (∀ i k, K[i]? = some k → w.rangeAt b (o + i * 2) (kcells k)) := hc
  clear hc
  go_enter Tryz.func52, Tryz.ntmps52
  go_wp2_with fail
  go_loopw [8] (fun i wr => ∃ k : Nat, k ≤ n ∧ i = .int .i64 k ∧ (∀ j a, j < k → K[j]? = some a → ¬ a = k0) ∧ ∃ nn, wr = (w.alloc (.cells #[.string k0.1, .int .i64 k0.2] 24)).drewN nn) (fun i _ => n - (intOf i).toNat)
  case atStart => exact ⟨0, Nat.zero_le _, rfl, fun j a hj => by omega, 0, rfl⟩
  case round =>
    obtain ⟨k, hk, rfl, hlow, nn, rfl⟩ := hrel
    have hlow' : Hid (∀ j a, j < k → K[j]? = some a → ¬ a = k0) := hlow
    clear hlow
    by_cases hlt2 : k < n
    · have hlt' : (k : Int) < (n : Int) := by omega
      obtain ⟨a, ha⟩ : ∃ a, K[k]? = some a := ⟨_, List.getElem?_eq_getElem (by omega)⟩
      have hr := rangeAt_below (hc'.out k a ha) hb0 hlt
      have d0 := hr 0 _ rfl
      have d1 := hr 1 _ rfl
      rw [Nat.add_zero] at d0
      have ha' : Hid (K[k]? = some a) := ha
      clear ha hr
      by_cases he : k0 = a
      · subst he
        go_wp2_with fail
        go_quiet (fail)
        go_wp2_with fail
        go_ret
        have hs : ixK K k0 = some k := ixK_some ha'.out hlow'.out
        refine ⟨?_, below_drewN (below_drewN hb0 _) _⟩
        unfold ixI
        rw [hs]
        rfl
      · have he' : Hid (¬ k0 = a) := he
        have hd := ky_ne he
        clear he
        rcases hd with heb | ⟨heb, hav⟩
        · go_wp2_with fail
          go_quiet (fail)
          go_wp2_with fail
          go_roundw
          case rel =>
            refine ⟨k + 1, by omega, by go_num, fun j x hj hx => ?_, _, rfl⟩
            rcases Nat.lt_or_ge j k with h | h
            · exact hlow'.out j x h hx
            · obtain rfl : j = k := by omega
              rw [ha'.out] at hx
              cases hx
              exact fun e => he'.out e.symm
          case measure => simp [intOf]; omega
        · go_wp2_with fail
          go_quiet (fail)
          go_wp2_with fail
          go_roundw
          case rel =>
            refine ⟨k + 1, by omega, by go_num, fun j x hj hx => ?_, _, rfl⟩
            rcases Nat.lt_or_ge j k with h | h
            · exact hlow'.out j x h hx
            · obtain rfl : j = k := by omega
              rw [ha'.out] at hx
              cases hx
              exact fun e => he'.out e.symm
          case measure => simp [intOf]; omega
    · obtain rfl : k = n := by omega
      go_wp2_with fail
      go_ret
      have hs : ixK K k0 = none := ixK_none fun j a ha => hlow'.out j a (by
        have := (List.getElem?_eq_some_iff.1 ha).1
        omega) ha
      refine ⟨?_, below_drewN hb0 _⟩
      unfold ixI
      rw [hs]
      rfl

set_option maxRecDepth 100000 in
/-- slices.Contains at keys. -/
theorem contains_ok {w : World} {q : Option Addr} {n c : Nat} {K : List Ky} (h : KsOk w q n c K) (hn : n ≤ 2097152) (k0 : Ky) :
    Calls Tryz.prog 33 #[.slice q n c, .agg #[.string k0.1, .int .i64 k0.2]] w fun x w' => x = .returned (.bool (decide (k0 ∈ K))) ∧ Below w.heap.size w w' := by
  have hb0 : Below w.heap.size w (w.alloc (.cells #[.string k0.1, .int .i64 k0.2] 24)) := below_one _ _
  have hcall := kindex_ok (h.below hb0) hn k0
  rw [← ixK_isSome]
  unfold ixI at hcall
  cases hi : ixK K k0 with
  | none =>
    rw [hi] at hcall
    simp only [Option.isSome_none] at hcall ⊢
    clear hi h
    go_enter Tryz.func33, Tryz.ntmps33
    go_wp2_with (go_at_call 52; refine hcall.mono ?_; rintro x w5 ⟨rfl, hb5⟩)
    go_ret
    exact ⟨rfl, hb0.trans (hb5.mono (by simp))⟩
  | some i =>
    rw [hi] at hcall
    simp only [Option.isSome_some] at hcall ⊢
    have hi0 : (0 : Int) ≤ (i : Int) := by omega
    clear hi h
    go_enter Tryz.func33, Tryz.ntmps33
    go_wp2_with (go_at_call 52; refine hcall.mono ?_; rintro x w5 ⟨rfl, hb5⟩)
    go_ret
    exact ⟨rfl, hb0.trans (hb5.mono (by simp))⟩

/-- The keys of the entries that use a key. -/
def Lb.users (U : Lb) (k : Ky) : List Ky := (U.filter fun e => decide (k ∈ e.2)).map (·.1)
theorem Lb.users_snoc (U : Lb) (e : Ky × List Ky) (k : Ky) : Lb.users (U ++ [e]) k = Lb.users U k ++ if k ∈ e.2 then [e.1] else [] := by
  unfold Lb.users
  rw [List.filter_append, List.map_append]
  by_cases h : k ∈ e.2 <;> simp [h]

end Go.Proofs.YtfhjhnofkaiceaaGreatDoor
