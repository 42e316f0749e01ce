/-
  Keys, of the program and of the reference; sorted; LibraryFinds out of its parts.
-/
import Derived.Test.YtfhjhnofkaiceaaGreatDoorLbC
import Derived.Test.YtfhjhnofkaiceaaGreatDoorLbB
import Derived.Test.YtfhjhnofkaiceaaGreatDoorDvU
namespace Go.Proofs.YtfhjhnofkaiceaaGreatDoor
open Go Go.RowKit

set_option maxRecDepth 100000 in
set_option maxHeartbeats 2000000 in
/-- Keys of the program, out of sorted. -/
theorem keys_some {w : World} (b o n c : Nat) (L : List En) (hL : L.length = n) (hn : n ≤ 1048576) (hoks : ∀ e ∈ L, e.Ok) (hb : b < w.heap.size) (hx : ∀ i e, L[i]? = some e → w.rangeAt b (o + i * 33) e.cells)
    (hS : ∀ (z : World) (B m : Nat) (S : List Ky), Below w.heap.size w z → SetAt z B m S → m ≤ 1048576 → Calls Tryz.prog 29 #[.map (some B)] z fun x w' => ∃ q c K, x = .returned (.slice q K.length c) ∧ KsOk w' q K.length c K ∧ Asc K ∧ (∀ y, y ∈ K ↔ y ∈ S) ∧ Below z.heap.size z w') :
    Calls Tryz.prog 12 #[.slice (some ⟨b, o, none⟩) n c] w fun x w' => ∃ q c, x = .returned (.slice q (foldK [] (L.map (·.k))).length c) ∧ KsOk w' q (foldK [] (L.map (·.k))).length c (foldK [] (L.map (·.k))) ∧ Below w.heap.size w w' := by
  have hx' : Hid (∀ i e, L[i]? = some e → w.rangeAt b (o + i * 33) e.cells) := hx
  have hoks' : Hid (∀ e ∈ L, e.Ok) := hoks
  obtain ⟨dd, hu, hd⟩ := en_row
  have hHu : Hid (Tryz.prog.underlying 55 = some dd) := hu
  clear hx hoks hu
  have hmm := @run_makeMap Tryz.prog
  have hm0 : SetAt (w.alloc (.map #[] 0)) w.heap.size 0 [] := SetAt.made w
  have hb1 : Below w.heap.size w (w.alloc (.map #[] 0)) := below_one _ _
  go_enter Tryz.func12, Tryz.ntmps12
  go_wp2_with fail
  clear hmm
  go_loopw [9] (fun i wr => ∃ k : Nat, k ≤ n ∧ i = .int .i64 k ∧ SetAt wr w.heap.size k ((L.take k).map (·.k)).reverse ∧ Below w.heap.size w wr) (fun i _ => n - (intOf i).toNat)
  case atStart => exact ⟨0, Nat.zero_le _, rfl, hm0, hb1⟩
  case round =>
    clear hm0 hb1
    obtain ⟨k, hk, rfl, hset, hbw⟩ := hrel
    have hset' : Hid (SetAt wr w.heap.size k ((L.take k).map (·.k)).reverse) := hset
    clear hset
    by_cases hlt : k < n
    · have hlt' : (k : Int) < (n : Int) := by omega
      obtain ⟨e, he⟩ : ∃ e, L[k]? = some e := ⟨_, List.getElem?_eq_getElem (by omega)⟩
      have heL := List.mem_of_getElem? he
      have hek := hoks'.out e heL
      have hx := rangeAt_below (hx'.out k e he) hbw hb
      have lx := hek.len'
      have ox' : Hid (e.cells.toArray.all (·.oneCell') = true) := hek.one'
      have hws := hbw.size
      have hcall := fun z => key28_ok e hek z
      have hlist : Hid (((L.take (k + 1)).map (·.k)).reverse = e.k :: ((L.take k).map (·.k)).reverse) := by
        show ((L.take (k + 1)).map (·.k)).reverse = e.k :: ((L.take k).map (·.k)).reverse
        rw [List.take_add_one, he]
        simp
      have hko : Hid (KyOk e.k) := hek.key
      clear he heL hek
      generalize e.k = ek at *
      generalize e.cells = cx at *
      have D0 : Hid ((wr.alloc (.cells cx.toArray 55)).rangeAt wr.heap.size 0 cx) := range_new _ _ _
      have hb2 : Below w.heap.size w (wr.alloc (.cells cx.toArray 55)) := hbw.alloc hws _
      have hset2 : Hid (SetAt (wr.alloc (.cells cx.toArray 55)) w.heap.size k ((L.take k).map (·.k)).reverse) := hset'.out.alloc _
      have hlt2 := hset2.out.lt
      generalize ((L.take k).map (·.k)).reverse = S at *
      go_wp2_with (first
          | (with_reducible refine wpList_load_mid (op := ⟨some 12, _, _, _, _, _⟩) ?_ 55 (.tmp 11) ?_ (b) (o + k * 33) ?_ cx dd ?_ hHu.out hd ?_ ?_
             rotate_left 1
             · with_reducible rfl
             · kernel_rfl
             · exact hx
             · (rw [lx]; exact en_size)
             rotate_left 1
             · rfl)
          | (with_reducible refine wpList_store_new ?_ 55 (.tmp 5) (.tmp 12) ?_ cx.toArray wr.heap.size rfl ?_ ?_ ?_ ?_ ox'.out ?_
             rotate_left 1
             · with_reducible rfl
             · rfl
             · rfl
             · simp [lx]
             · (simp only [List.size_toArray, lx]; exact en_size)
             rotate_left 1
             · rfl)
          | (with_reducible refine wpList_load_mid (op := ⟨some 14, _, _, _, _, _⟩) ?_ 55 (.tmp 5) ?_ (wr.heap.size) 0 ?_ cx dd ?_ hHu.out hd ?_ ?_
             rotate_left 1
             · with_reducible rfl
             · kernel_rfl
             · exact D0.out
             · (rw [lx]; exact en_size)
             rotate_left 1
             · rfl)
          | (go_at_call 28; refine (hcall _).mono ?_; rintro x w5 ⟨rfl, hb5⟩
             have hset5 : Hid (SetAt w5 w.heap.size k S) := hset2.out.below hb5 hlt2)
          | (at_mapUpdate; refine wpList_put rfl _ _ _ rfl w.heap.size k S rfl hset5.out (by unfold maxLen; omega) ek hko.out rfl rfl ?_; intro w6 hset6 hg6))
      go_roundw
      case rel =>
        have hW5 : Below w.heap.size w w5 := hb2.trans (hb5.mono hb2.size)
        exact ⟨k + 1, by omega, by go_num, by rw [hlist.out]; exact hset6, hW5.grown hg6 hW5.size (fun g' hg' => by simp only [Option.some.injEq] at hg'; omega)⟩
      case measure => simp [intOf]; omega
    · obtain rfl : k = n := by omega
      have hcall := hS wr w.heap.size k _ hbw hset'.out hn
      go_wp2_with (go_at_call 29; refine hcall.mono ?_; rintro x w5 ⟨q5, c5, K, rfl, hks, hasc, hmem, hb5⟩)
      go_ret
      have hK : K = foldK [] (L.map (·.k)) := asc_fold hasc fun y => by
        rw [hmem y, List.take_of_length_le (by omega)]
        simp
      rw [← hK]
      exact ⟨q5, c5, rfl, hks, hbw.trans (hb5.mono hbw.size)⟩

set_option maxRecDepth 100000 in
theorem keys_none {w : World} (q : Option Addr) (c : Nat)
    (hS : ∀ (z : World) (B m : Nat) (S : List Ky), Below w.heap.size w z → SetAt z B m S → m ≤ 1048576 → Calls Tryz.prog 29 #[.map (some B)] z fun x w' => ∃ q c K, x = .returned (.slice q K.length c) ∧ KsOk w' q K.length c K ∧ Asc K ∧ (∀ y, y ∈ K ↔ y ∈ S) ∧ Below z.heap.size z w') :
    Calls Tryz.prog 12 #[.slice q 0 c] w fun x w' => ∃ q c, x = .returned (.slice q 0 c) ∧ KsOk w' q 0 c [] ∧ Below w.heap.size w w' := by
  have hmm := @run_makeMap Tryz.prog
  have hb1 : Below w.heap.size w (w.alloc (.map #[] 0)) := below_one _ _
  have hcall := hS _ _ _ _ hb1 (SetAt.made w) (Nat.zero_le _)
  go_enter Tryz.func12, Tryz.ntmps12
  go_wp2_with fail
  refine wp_loop_once ?_
  go_wp2_with (go_at_call 29; refine hcall.mono ?_; rintro x w5 ⟨q5, c5, K, rfl, hks, hasc, hmem, hb5⟩)
  go_ret
  obtain rfl : K = [] := List.eq_nil_iff_forall_not_mem.2 fun y hy => by simpa using (hmem y).1 hy
  exact ⟨q5, c5, rfl, hks, hb1.trans (hb5.mono hb1.size)⟩

/-- Keys of the program, out of sorted. -/
theorem keys_of {w : World} {q : Option Addr} {n : Nat} (c : Nat) {L : List En} (h : LibOk w q n L)
    (hS : ∀ (z : World) (B m : Nat) (S : List Ky), Below w.heap.size w z → SetAt z B m S → m ≤ 1048576 → Calls Tryz.prog 29 #[.map (some B)] z fun x w' => ∃ q c K, x = .returned (.slice q K.length c) ∧ KsOk w' q K.length c K ∧ Asc K ∧ (∀ y, y ∈ K ↔ y ∈ S) ∧ Below z.heap.size z w') :
    Calls Tryz.prog 12 #[.slice q n c] w fun x w' => ∃ q c, x = .returned (.slice q (foldK [] (L.map (·.k))).length c) ∧ KsOk w' q (foldK [] (L.map (·.k))).length c (foldK [] (L.map (·.k))) ∧ Below w.heap.size w w' := by
  obtain ⟨h1, h2, h3, h4⟩ := h
  rcases h4 with rfl | ⟨b, o, rfl, hlt, hc⟩
  · obtain rfl : L = [] := List.eq_nil_of_length_eq_zero h1
    exact keys_none q c hS
  · exact keys_some b o n c L h1 h2 h3 hlt hc hS

set_option maxRecDepth 100000 in
set_option maxHeartbeats 1000000 in
/-- Keys of the reference. -/
theorem rkeys_some {w : World} (b o n c : Nat) (L : List En) (hL : L.length = n) (hn : n ≤ 1048576) (hoks : ∀ e ∈ L, e.Ok) (hb : b < w.heap.size) (hx : ∀ i e, L[i]? = some e → w.rangeAt b (o + i * 33) e.cells) :
    Calls Tryz.prog 13 #[.slice (some ⟨b, o, none⟩) n c] w fun x w' => ∃ q c, x = .returned (.slice q (foldK [] (L.map (·.k))).length c) ∧ KsOk w' q (foldK [] (L.map (·.k))).length c (foldK [] (L.map (·.k))) ∧ Below w.heap.size w w' := by
  have hx' : Hid (∀ i e, L[i]? = some e → w.rangeAt b (o + i * 33) e.cells) := hx
  have hoks' : Hid (∀ e ∈ L, e.Ok) := hoks
  obtain ⟨dd, hu, hd⟩ := en_row
  have hHu : Hid (Tryz.prog.underlying 55 = some dd) := hu
  clear hx hoks hu
  go_enter Tryz.func13, Tryz.ntmps13
  go_wp2_with fail
  go_loopw [3, 8] (fun u i wr => ∃ k : Nat, k ≤ n ∧ i = .int .i64 k ∧ ∃ q' c', u = .slice q' (foldK [] ((L.take k).map (·.k))).length c' ∧ KsOk wr q' (foldK [] ((L.take k).map (·.k))).length c' (foldK [] ((L.take k).map (·.k))) ∧ Below w.heap.size w wr) (fun _ i _ => n - (intOf i).toNat)
  case atStart => exact ⟨0, Nat.zero_le _, rfl, none, 0, rfl, ⟨rfl, Nat.le_refl _, Nat.zero_le _, .inl ⟨rfl, rfl, rfl⟩⟩, Below.refl _ _⟩
  case round =>
    obtain ⟨k, hk, rfl, q', c', rfl, hks, hbw⟩ := hrel
    by_cases hlt : k < n
    · have hlt' : (k : Int) < (n : Int) := by omega
      obtain ⟨e, he⟩ : ∃ e, L[k]? = some e := ⟨_, List.getElem?_eq_getElem (by omega)⟩
      have heL := List.mem_of_getElem? he
      have hek := hoks'.out e heL
      have hx := rangeAt_below (hx'.out k e he) hbw hb
      have lx := hek.len'
      have ox' : Hid (e.cells.toArray.all (·.oneCell') = true) := hek.one'
      have hws := hbw.size
      have hcall := fun z => key27_ok e hek z
      have hlist : Hid (foldK [] ((L.take (k + 1)).map (·.k)) = insK e.k (foldK [] ((L.take k).map (·.k)))) := by
        show foldK [] ((L.take (k + 1)).map (·.k)) = insK e.k (foldK [] ((L.take k).map (·.k)))
        rw [List.take_add_one, he, List.map_append, foldK_append]
        rfl
      have hfl : (foldK [] ((L.take k).map (·.k))).length ≤ 1048576 := by
        have h1 := foldK_len ((L.take k).map (·.k)) []
        have h2 : ((L.take k).map (·.k)).length ≤ k := by rw [List.length_map, List.length_take]; omega
        simp only [List.length_nil, Nat.zero_add] at h1
        omega
      have hks' : Hid (KsOk wr q' (foldK [] ((L.take k).map (·.k))).length c' (foldK [] ((L.take k).map (·.k)))) := hks
      clear he heL hek hks
      generalize e.k = ek at *
      generalize e.cells = cx at *
      generalize foldK [] ((L.take k).map (·.k)) = K at *
      have D0 : Hid ((wr.alloc (.cells cx.toArray 55)).rangeAt wr.heap.size 0 cx) := range_new _ _ _
      have hb2 : Below w.heap.size w (wr.alloc (.cells cx.toArray 55)) := hbw.alloc hws _
      have hk2 : Hid (KsOk (wr.alloc (.cells cx.toArray 55)) q' K.length c' K) := hks'.out.below (below_one _ _)
      go_wp2_with (first
          | (with_reducible refine wpList_load_mid (op := ⟨some 11, _, _, _, _, _⟩) ?_ 55 (.tmp 10) ?_ (b) (o + k * 33) ?_ cx dd ?_ hHu.out hd ?_ ?_
             rotate_left 1
             · with_reducible rfl
             · kernel_rfl
             · exact hx
             · (rw [lx]; exact en_size)
             rotate_left 1
             · rfl)
          | (with_reducible refine wpList_store_new ?_ 55 (.tmp 5) (.tmp 11) ?_ cx.toArray wr.heap.size rfl ?_ ?_ ?_ ?_ ox'.out ?_
             rotate_left 1
             · with_reducible rfl
             · rfl
             · rfl
             · simp [lx]
             · (simp only [List.size_toArray, lx]; exact en_size)
             rotate_left 1
             · rfl)
          | (with_reducible refine wpList_load_mid (op := ⟨some 13, _, _, _, _, _⟩) ?_ 55 (.tmp 5) ?_ (wr.heap.size) 0 ?_ cx dd ?_ hHu.out hd ?_ ?_
             rotate_left 1
             · with_reducible rfl
             · kernel_rfl
             · exact D0.out
             · (rw [lx]; exact en_size)
             rotate_left 1
             · rfl)
          | (go_at_call 27; refine (hcall _).mono ?_; rintro x w5 ⟨rfl, hb5⟩)
          | (go_at_call 30; refine (insert_ok ek (hk2.out.below hb5) hfl).mono ?_; rintro x w6 ⟨q6, c6, rfl, hks6, hb6⟩))
      go_roundw
      case rel =>
        have hW5 : Below w.heap.size w w5 := hb2.trans (hb5.mono hb2.size)
        exact ⟨k + 1, by omega, by go_num, q6, c6, by rw [hlist.out], by rw [hlist.out]; exact hks6, hW5.trans (hb6.mono hW5.size)⟩
      case measure => simp [intOf]; omega
    · obtain rfl : k = n := by omega
      go_wp2_with fail
      go_ret
      have ht : L.take k = L := List.take_of_length_le (by omega)
      rw [ht] at hks
      exact ⟨q', c', by rw [← List.map_take, ht]; rfl, hks, hbw⟩

set_option maxRecDepth 100000 in
theorem rkeys_none {w : World} (q : Option Addr) (c : Nat) :
    Calls Tryz.prog 13 #[.slice q 0 c] w fun x w' => x = .returned (.slice none 0 0) ∧ w' = w := by
  go_enter Tryz.func13, Tryz.ntmps13
  go_wp2_with fail
  refine wp_loop_once ?_
  go_wp2_with fail
  go_ret
  exact ⟨rfl, rfl⟩

/-- Keys of the reference. -/
theorem rkeys_ok {w : World} {q : Option Addr} {n : Nat} (c : Nat) {L : List En} (h : LibOk w q n L) :
    Calls Tryz.prog 13 #[.slice q n c] w fun x w' => ∃ q c, x = .returned (.slice q (foldK [] (L.map (·.k))).length c) ∧ KsOk w' q (foldK [] (L.map (·.k))).length c (foldK [] (L.map (·.k))) ∧ Below w.heap.size w w' := by
  obtain ⟨h1, h2, h3, h4⟩ := h
  rcases h4 with rfl | ⟨b, o, rfl, hlt, hc⟩
  · obtain rfl : L = [] := List.eq_nil_of_length_eq_zero h1
    refine (rkeys_none q c).mono ?_
    rintro x w' ⟨rfl, rfl⟩
    exact ⟨none, 0, rfl, ⟨rfl, Nat.le_refl _, Nat.zero_le _, .inl ⟨rfl, rfl, rfl⟩⟩, Below.refl _ _⟩
  · exact rkeys_some b o n c L h1 h2 h3 hlt hc

set_option maxRecDepth 100000 in
set_option maxHeartbeats 1000000 in
/-- sameKeys of two slices of the same keys. -/
theorem same_ok {w : World} {q1 q2 : Option Addr} {c1 c2 : Nat} {K : List Ky} (hK : K.length ≤ 1048576) (h1 : KsOk w q1 K.length c1 K) (h2 : KsOk w q2 K.length c2 K) :
    Calls Tryz.prog 11 #[.slice q1 K.length c1, .slice q2 K.length c2] w fun x w' => x = .returned (.bool true) ∧ Below w.heap.size w w' := by
  by_cases h0 : K.length = 0
  · rw [h0]
    clear h1 h2
    go_enter Tryz.func11, Tryz.ntmps11
    go_wp2_with fail
    refine wp_loop_once ?_
    go_wp2_with fail
    go_ret
    exact ⟨rfl, Below.refl _ _⟩
  · obtain ⟨_, _, _, h1⟩ := h1
    obtain ⟨_, _, _, h2⟩ := h2
    rcases h1 with ⟨_, h, _⟩ | ⟨b1, o1, rfl, hl1, hc1⟩
    · exact absurd h h0
    rcases h2 with ⟨_, h, _⟩ | ⟨b2, o2, rfl, hl2, hc2⟩
    · exact absurd h h0
    have hc1' : Hid (∀ i k, K[i]? = some k → w.rangeAt b1 (o1 + i * 2) (kcells k)) := hc1
    have hc2' : Hid (∀ i k, K[i]? = some k → w.rangeAt b2 (o2 + i * 2) (kcells k)) := hc2
    clear hc1 hc2
    go_enter Tryz.func11, Tryz.ntmps11
    go_wp2_with fail
    go_loopw [13] (fun i wr => ∃ k : Nat, k ≤ K.length ∧ i = .int .i64 k ∧ ∃ nn, wr = w.drewN nn) (fun i _ => K.length - (intOf i).toNat)
    case atStart => exact ⟨0, Nat.zero_le _, rfl, 0, rfl⟩
    case round =>
      obtain ⟨k, hk, rfl, nn, rfl⟩ := hrel
      by_cases hlt : k < K.length
      · have hlt' : (k : Int) < (K.length : Int) := by omega
        obtain ⟨a, ha⟩ : ∃ a, K[k]? = some a := ⟨_, List.getElem?_eq_getElem hlt⟩
        have d0 := hc1'.out k a ha 0 _ rfl
        have d1 := hc1'.out k a ha 1 _ rfl
        have d2 := hc2'.out k a ha 0 _ rfl
        have d3 := hc2'.out k a ha 1 _ rfl
        rw [Nat.add_zero] at d0 d2
        clear ha
        obtain ⟨an, av⟩ := a
        simp only at d0 d1 d2 d3
        go_wp2_with fail
        go_quiet (fail)
        go_wp2_with fail
        go_roundw
        case rel => exact ⟨k + 1, by omega, by go_num, _, rfl⟩
        case measure => simp [intOf]; omega
      · go_wp2_with fail
        go_ret
        exact ⟨rfl, below_drewN (Below.refl _ _) _⟩
end Go.Proofs.YtfhjhnofkaiceaaGreatDoor

namespace Go.Proofs.YtfhjhnofkaiceaaGreatDoor
open Go Go.RowKit Go.Shelf Go.Sort

set_option maxRecDepth 100000 in
/-- library.byKey. -/
theorem lbyKey_ok (a b : Ky) (w : World) : Calls Tryz.prog 45 #[.agg #[.string a.1, .int .i64 a.2], .agg #[.string b.1, .int .i64 b.2]] w fun e w' => e = .returned (.int .i64 (cmpK a b)) ∧ ∃ o3, w' = (((w.alloc (.cells #[.string a.1, .int .i64 a.2] 24)).alloc (.cells #[.string b.1, .int .i64 b.2] 24)).drew).alloc o3 := by
  unfold cmpK
  generalize hs : cmpS a.1.toList b.1.toList = s
  have k1 : ∀ z, Calls Tryz.prog 64 #[.string a.1, .string b.1] z fun e w' => e = .returned (.int .i64 s) ∧ w' = z := fun z => hs ▸ cmpStr_ok a.1 b.1 z
  generalize hi : cmpI a.2 b.2 = i
  have k2 : ∀ z, Calls Tryz.prog 65 #[.int .i64 a.2, .int .i64 b.2] z fun e w' => e = .returned (.int .i64 i) ∧ w' = z := fun z => hi ▸ cmpInt_ok a.2 b.2 z
  obtain ⟨n, v⟩ := a
  obtain ⟨n', v'⟩ := b
  simp only at k1 k2 ⊢
  clear hs hi
  generalize hr : (if s = 0 then i else s) = r
  have k3 : ∀ (b : Nat) (z : World), z.cell? ⟨b, 0, none⟩ = some (.int .i64 s) → z.cell? ⟨b, 1, none⟩ = some (.int .i64 i) → Calls Tryz.prog 63 #[.slice (some ⟨b, 0, none⟩) 2 2] z fun e w' => e = .returned (.int .i64 r) ∧ w' = z := fun b z h0 h1 => hr ▸ cmpOr_ok b s i z h0 h1
  clear hr
  go_enter Tryz.func45, Tryz.ntmps45
  go_wp2_with fail
  have hS : (fun z : World => z.cell? ⟨w.heap.size, 0, none⟩ = some (.string n) ∧ z.cell? ⟨w.heap.size, 1, none⟩ = some (.int .i64 v) ∧ z.cell? ⟨w.heap.size + 1, 0, none⟩ = some (.string n') ∧ z.cell? ⟨w.heap.size + 1, 1, none⟩ = some (.int .i64 v')) ((w.alloc (.cells #[.string n, .int .i64 v] 24)).alloc (.cells #[.string n', .int .i64 v'] 24)).drew := by simp
  have d0 : (((w.alloc (.cells #[.string n, .int .i64 v] 24)).alloc (.cells #[.string n', .int .i64 v'] 24)).alloc (.cells #[.int .i64 s, .int .i64 i] 3)).drew.cell? ⟨w.heap.size + 2, 0, none⟩ = some (.int .i64 s) := by
    have h := range_new ((w.alloc (.cells #[.string n, .int .i64 v] 24)).alloc (.cells #[.string n', .int .i64 v'] 24)) [.int .i64 s, .int .i64 i] 3 0 _ rfl
    rw [show ((w.alloc (.cells #[.string n, .int .i64 v] 24)).alloc (.cells #[.string n', .int .i64 v'] 24)).heap.size = w.heap.size + 2 by simp] at h
    simpa using h
  have d1 : (((w.alloc (.cells #[.string n, .int .i64 v] 24)).alloc (.cells #[.string n', .int .i64 v'] 24)).alloc (.cells #[.int .i64 s, .int .i64 i] 3)).drew.cell? ⟨w.heap.size + 2, 1, none⟩ = some (.int .i64 i) := by
    have h := range_new ((w.alloc (.cells #[.string n, .int .i64 v] 24)).alloc (.cells #[.string n', .int .i64 v'] 24)) [.int .i64 s, .int .i64 i] 3 1 _ rfl
    rw [show ((w.alloc (.cells #[.string n, .int .i64 v] 24)).alloc (.cells #[.string n', .int .i64 v'] 24)).heap.size = w.heap.size + 2 by simp] at h
    simpa using h
  have hS3 : ∀ ob, (fun z : World => z.cell? ⟨w.heap.size, 0, none⟩ = some (.string n) ∧ z.cell? ⟨w.heap.size, 1, none⟩ = some (.int .i64 v) ∧ z.cell? ⟨w.heap.size + 1, 0, none⟩ = some (.string n') ∧ z.cell? ⟨w.heap.size + 1, 1, none⟩ = some (.int .i64 v')) (((w.alloc (.cells #[.string n, .int .i64 v] 24)).alloc (.cells #[.string n', .int .i64 v'] 24)).alloc ob).drew := fun ob => by
    have hz : ((w.alloc (.cells #[.string n, .int .i64 v] 24)).alloc (.cells #[.string n', .int .i64 v'] 24)).heap.size = w.heap.size + 2 := by simp
    obtain ⟨q1, q2, q3, q4⟩ := hS
    exact ⟨(World.cell?_alloc_lt _ _ _ (by show w.heap.size < _; omega)).trans q1, (World.cell?_alloc_lt _ _ _ (by show w.heap.size < _; omega)).trans q2, (World.cell?_alloc_lt _ _ _ (by show w.heap.size + 1 < _; omega)).trans q3, (World.cell?_alloc_lt _ _ _ (by show w.heap.size + 1 < _; omega)).trans q4⟩
  go_region_held3 (fun z => z.cell? ⟨w.heap.size, 0, none⟩ = some (.string n) ∧ z.cell? ⟨w.heap.size, 1, none⟩ = some (.int .i64 v) ∧ z.cell? ⟨w.heap.size + 1, 0, none⟩ = some (.string n') ∧ z.cell? ⟨w.heap.size + 1, 1, none⟩ = some (.int .i64 v')) (first | exact hS | exact hS3 _)
    (first
      | (go_at_call 64; with_reducible refine (k1 _).mono ?_; rintro e w2 ⟨rfl, rfl⟩)
      | (go_at_call 65; with_reducible refine (k2 _).mono ?_; rintro e w3 ⟨rfl, rfl⟩)
      | (go_at_call 63; refine (k3 _ _ d0 d1).mono ?_; rintro e w4 ⟨rfl, rfl⟩))
  go_wp2_with fail
  go_ret
  exact ⟨rfl, _, rfl⟩
theorem lbyKey_lays (blk off size : Nat) (w : World) : CmpLays Tryz.prog 45 #[] kcells 2 cmpK blk off size w := by
  intro m os dk _ x y
  refine (lbyKey_ok x y _).mono ?_
  rintro e w' ⟨rfl, o3, rfl⟩
  have e1 : ∀ (W : World) (a b : Obj), ((W.alloc a).alloc b).drew = grow (W.drewN 1) (#[a] ++ #[b]) := fun W a b => by
    rw [alloc_eq_grow, alloc_eq_grow, grow_grow]
    rfl
  exact ⟨rfl, 1, _, by rw [e1, alloc_eq_grow, grow_grow]⟩

/-- slices.SortFunc of keys. -/
theorem lsort_ok {w : World} {g cap : Nat} {L : List Ky} (h : Row w g L) (hg : g < w.heap.size) (hn : L.length ≤ 1048576) :
    Calls Tryz.prog 55 #[.slice (some ⟨g, 0, none⟩) L.length cap, .func (.func 45) #[] #[]] w fun e w' => e = .returned (.tuple #[]) ∧ Row w' g (sortK L) ∧ w.grownBy w' (some g) := by
  have eg : ∀ args w, (callFunc 45 args).run Tryz.prog w = .ok (.enter 45 args) w := enters_of Tryz.func45 (by kernel_rfl) rfl
  have hcon := Go.Proofs.AnyQ.slices_SortFunc_total sortKeys 2 Tryz.isAgg24 Tryz.sizeOf24 kcells kcells_len (fun x v hv => by simp only [kcells, List.mem_cons, List.not_mem_nil, or_false] at hv; rcases hv with rfl | rfl <;> rfl) cmpK swoK 45 #[] g 0 cap L.toArray w eg (lbyKey_lays g 0 L.toArray.size w) h.holds hg (by simp; omega) totK
  change Calls Tryz.prog 55 _ _ _ at hcon
  have hs : L.toArray.size = L.length := by simp
  rw [hs] at hcon
  refine hcon.mono ?_
  rintro e w' ⟨rfl, n, os, rfl⟩
  have hz : (sortK L).toArray.size = L.toArray.size := by simpa using (sortK_perm L).length_eq
  refine ⟨rfl, Row.of_holds (holdsK_sortWorldK_c kcells 2 w g 0 L.toArray (sortK L).toArray n os h.holds hg hz), ?_⟩
  refine ⟨rfl, rfl, rfl, size_sortWorldK_c kcells 2 w g 0 n _ os, fun k hk hne => ?_⟩
  unfold sortWorldK putRowK
  rw [heap_grow_old _ _ (by simpa using hk)]
  have : g ≠ k := fun e => hne (by rw [e])
  simp [putRow, mapBlock, Sort.ahead, Array.getElem?_modify, this]

/-- Sorting a list without doubles gives an ascending one. -/
theorem sortK_nodup {l : List Ky} (h : l.Nodup) : Asc (sortK l) := by
  have h1 := sortK_asc l
  have h2 : (sortK l).Nodup := (sortK_perm l).nodup_iff.2 h
  refine (h1.and h2).imp ?_
  rintro a b ⟨h3, h4⟩
  rcases ltK_total a b with e | e | e
  · exact e
  · exact absurd e h4
  · exact absurd e h3


theorem lsort_nil (w : World) : Calls Tryz.prog 55 #[.slice none 0 0, .func (.func 45) #[] #[]] w fun e w' => e = .returned (.tuple #[]) ∧ w' = w :=
  Go.Proofs.AnyF.slices_SortFunc_none sortKeys none 0 (.func (.func 45) #[] #[]) w

attribute [local go_sem] Oper.semAt_some

set_option maxRecDepth 100000 in
set_option maxHeartbeats 1000000 in
/-- slices.SortedFunc of an iterator over keys. -/
theorem sortedFunc_ok (g : Nat) (lb : Array Value) (eg : ∀ args w, (callFunc g args).run Tryz.prog w = .ok (.enter g args) w)
    (S Sp : List Ky → Prop) (N : Nat) (hN : N ≤ 1048576) (hlen : ∀ ss, S ss → ss.length ≤ 1048576) (w : World) (hseq : SeqStopsK Fence.wide 6 Tryz.prog g lb (fun x : Ky => #[.agg #[.string x.1, .int .i64 x.2]]) KeepsWalks S Sp N w) :
    Calls Tryz.prog 43 #[.func (.func g) #[] lb, .func (.func 45) #[] #[]] w fun e w' => ∃ q c ss, e = .returned (.slice q (sortK ss).length c) ∧ S ss ∧ KsOk w' q (sortK ss).length c (sortK ss) ∧ Below w.heap.size w w' := by
  have hc := callsIn_wide.1 (collect_in Fence.wide 8 trivial trivial rfl (by omega) g lb trivial eg S Sp N hN w hseq)
  go_enter Tryz.func43, Tryz.ntmps43
  go_wp2_with fail
  refine hc.mono ?_
  rintro e w2 ⟨v, ss, rfl, hS, hrow, hnil, hb⟩
  have hl := hlen ss hS
  have hsl : (sortK ss).length = ss.length := (sortK_perm ss).length_eq
  have hsl' : Hid ((sortK ss).length = ss.length) := hsl
  by_cases h0 : ss = []
  · obtain rfl := hnil.2 h0
    clear hnil hrow hsl
    go_wp2_with (go_at_call 55; refine (lsort_nil _).mono ?_; rintro e w3 ⟨rfl, rfl⟩)
    go_ret
    subst h0
    have hs : sortK [] = [] := List.eq_nil_of_length_eq_zero hsl'.out
    exact ⟨none, 0, [], by rw [hs]; rfl, hS, by rw [hs]; exact ⟨rfl, Nat.le_refl _, Nat.zero_le _, .inl ⟨rfl, rfl, rfl⟩⟩, hb⟩
  · obtain ⟨gb, cap, rfl, g1, g2, hks⟩ := KsOk.of_row hrow (List.length_pos_iff.2 h0)
    have hcon := lsort_ok (cap := cap) (Row.of_own hrow) g2 hl
    have hcap : Hid (ss.length ≤ cap ∧ cap ≤ maxLen) := ⟨hks.2.1, hks.2.2.1⟩
    clear hnil hrow hsl hks
    go_wp2_with (go_at_call 55; refine hcon.mono ?_; rintro e w3 ⟨rfl, hr3, hg3⟩)
    go_ret
    have hs3 := hg3.size
    refine ⟨some ⟨gb, 0, none⟩, cap, ss, by rw [hsl'.out]; rfl, hS, ⟨rfl, by rw [hsl'.out]; exact hcap.out.1, hcap.out.2, .inr ⟨gb, 0, rfl, by omega, fun i k hk => (hr3 i k hk).1⟩⟩, hb.grown hg3 hb.size (fun g' hg' => by simp only [Option.some.injEq] at hg'; omega)⟩

set_option maxRecDepth 100000 in
set_option maxHeartbeats 1000000 in
/-- sorted. -/
theorem sorted_ok (w : World) (B m : Nat) (S : List Ky) (h : SetAt w B m S) (hm : m ≤ 1048576) :
    Calls Tryz.prog 29 #[.map (some B)] w fun x w' => ∃ q c K, x = .returned (.slice q K.length c) ∧ KsOk w' q K.length c K ∧ Asc K ∧ (∀ y, y ∈ K ↔ y ∈ S) ∧ Below w.heap.size w w' := by
  have h44 := fun z => callsIn_wide.1 (mkeys_in Fence.wide 9 trivial rfl (some B) z)
  have hb1 : Below w.heap.size w (w.alloc (.cells #[.map (some B)] 61)) := below_one _ _
  have hst := keys_stops Fence.wide 6 trivial rfl (by omega) w.heap.size B m S (w.alloc (.cells #[.map (some B)] 61)) (by simp) (by simp) (h.alloc _)
  have hlen : ∀ ss : List Ky, (ss.Nodup ∧ ∀ x, x ∈ ss ↔ x ∈ S) → ss.length ≤ 1048576 := fun ss hS => Nat.le_trans (nodup_len ss S hS.1 fun x hx => (hS.2 x).1 hx) (Nat.le_trans h.1 hm)
  have hs := sortedFunc_ok 62 #[.pointer (some ⟨w.heap.size, 0, none⟩)] (enters_of Tryz.func62 (by kernel_rfl) rfl) _ _ m hm hlen _ hst
  go_enter Tryz.func29, Tryz.ntmps29
  go_wp2_with (first
    | (go_at_call 44; refine (h44 _).mono ?_; rintro x w2 ⟨rfl, rfl⟩)
    | (go_at_call 43; refine hs.mono ?_; rintro x w3 ⟨q, c, ss, rfl, hS, hks, hb⟩))
  go_ret
  exact ⟨q, c, sortK ss, rfl, hks, sortK_nodup hS.1, fun y => by rw [(sortK_perm ss).mem_iff]; exact hS.2 y, hb1.trans (hb.mono hb1.size)⟩
end Go.Proofs.YtfhjhnofkaiceaaGreatDoor

namespace Go.Proofs.YtfhjhnofkaiceaaGreatDoor
open Go Go.RowKit

theorem fndV_form (L : List Ky) (k : Ky) : ∃ (i : Int) (t : Bool), fndV L k = .tuple #[.int .i64 i, .bool t] := by
  unfold fndV
  cases ixK L k with
  | none => exact ⟨0, false, rfl⟩
  | some i => exact ⟨i, true, rfl⟩

/-- Keys of the program. -/
theorem keys_ok {w : World} {q : Option Addr} {n : Nat} (c : Nat) {L : List En} (h : LibOk w q n L) :
    Calls Tryz.prog 12 #[.slice q n c] w fun x w' => ∃ q c, x = .returned (.slice q (foldK [] (L.map (·.k))).length c) ∧ KsOk w' q (foldK [] (L.map (·.k))).length c (foldK [] (L.map (·.k))) ∧ Below w.heap.size w w' :=
  keys_of c h fun z B m S _ hS hm => sorted_ok z B m S hS hm

set_option maxRecDepth 100000 in
set_option maxHeartbeats 2000000 in
/-- LibraryFinds out of its callees. -/
theorem law_finds {w : World} {q : Option Addr} {n c : Nat} {kn nm : ByteArray} {kv i m : Int} {t : Bool} {K : List Ky} (hK : K.length ≤ 1048576)
    (h7 : ∀ z, Below w.heap.size w z → Calls Tryz.prog 7 #[.slice q n c, .agg #[.string kn, .int .i64 kv]] z fun x w' => x = .returned (.tuple #[.int .i64 i, .bool t]) ∧ Below z.heap.size z w')
    (h8 : ∀ z, Below w.heap.size w z → Calls Tryz.prog 8 #[.slice q n c, .agg #[.string kn, .int .i64 kv]] z fun x w' => x = .returned (.tuple #[.int .i64 i, .bool t]) ∧ Below z.heap.size z w')
    (h9 : ∀ z, Below w.heap.size w z → Calls Tryz.prog 9 #[.slice q n c, .string nm] z fun x w' => x = .returned (.int .i64 m) ∧ Below z.heap.size z w')
    (h10 : ∀ z, Below w.heap.size w z → Calls Tryz.prog 10 #[.slice q n c, .string nm] z fun x w' => x = .returned (.int .i64 m) ∧ Below z.heap.size z w')
    (h12 : ∀ z, Below w.heap.size w z → Calls Tryz.prog 12 #[.slice q n c] z fun x w' => ∃ q c, x = .returned (.slice q K.length c) ∧ KsOk w' q K.length c K ∧ Below z.heap.size z w')
    (h13 : ∀ z, Below w.heap.size w z → Calls Tryz.prog 13 #[.slice q n c] z fun x w' => ∃ q c, x = .returned (.slice q K.length c) ∧ KsOk w' q K.length c K ∧ Below z.heap.size z w')
    (hA : ∀ z, Below w.heap.size w z → Calls Tryz.prog 14 #[] z fun e w' => e = .returned (.bool true) ∧ Below z.heap.size z w') :
    Calls Tryz.prog 3 #[.slice q n c, .agg #[.string kn, .int .i64 kv], .string nm] w fun e w' => e = .returned (.bool true) ∧ Below w.heap.size w w' := by
  have W1 : Below w.heap.size w (w.alloc (.cells #[.string kn, .int .i64 kv] 24)) := below_one _ _
  have e1 : (w.alloc (.cells #[.string kn, .int .i64 kv] 24)).cell? ⟨w.heap.size, 0, none⟩ = some (.string kn) := by simp
  have e2 : (w.alloc (.cells #[.string kn, .int .i64 kv] 24)).cell? ⟨w.heap.size, 1, none⟩ = some (.int .i64 kv) := by simp
  have ez : w.heap.size < (w.alloc (.cells #[.string kn, .int .i64 kv] 24)).heap.size := by simp
  go_enter Tryz.func3, Tryz.ntmps3
  go_wp2_with (first
    | (go_at_call 7; refine (h7 _ W1).mono ?_; rintro x w2 ⟨rfl, hb2⟩
       have W2 := W1.trans (hb2.mono W1.size)
       have d1 : w2.cell? ⟨w.heap.size, 0, none⟩ = some (.string kn) := (hb2.cell ez).trans e1
       have d2 : w2.cell? ⟨w.heap.size, 1, none⟩ = some (.int .i64 kv) := (hb2.cell ez).trans e2)
    | (go_at_call 8; refine (h8 _ W2).mono ?_; rintro x w3 ⟨rfl, hb3⟩
       have W3 := W2.trans (hb3.mono W2.size))
    | (go_at_call 9; refine (h9 _ W3).mono ?_; rintro x w4 ⟨rfl, hb4⟩
       have W4 := W3.trans (hb4.mono W3.size))
    | (go_at_call 10; refine (h10 _ W4).mono ?_; rintro x w5 ⟨rfl, hb5⟩
       have W5 := W4.trans (hb5.mono W4.size))
    | (go_at_call 12; refine (h12 _ W5).mono ?_; rintro x w6 ⟨q6, c6, rfl, hk6, hb6⟩
       have W6 := W5.trans (hb6.mono W5.size))
    | (go_at_call 13; refine (h13 _ W6).mono ?_; rintro x w7 ⟨q7, c7, rfl, hk7, hb7⟩
       have W7 := W6.trans (hb7.mono W6.size)
       have hs7 := same_ok hK (hk6.below hb7) hk7)
    | (go_at_call 11; refine hs7.mono ?_; rintro x w8 ⟨rfl, hb8⟩
       have W8 := W7.trans (hb8.mono W7.size))
    | (go_at_call 14; refine (hA _ W8).mono ?_; rintro x w9 ⟨rfl, hb9⟩))
  go_ret
  exact ⟨rfl, W8.trans (hb9.mono W8.size)⟩

/-- LibraryFinds returns true. -/
theorem finds_law_ok {w : World} {q : Option Addr} {n : Nat} (c : Nat) {L : List En} (h : LibOk w q n L) (k0 : Ky) (nm : ByteArray)
    (hA : ∀ z, Below w.heap.size w z → Calls Tryz.prog 14 #[] z fun e w' => e = .returned (.bool true) ∧ Below z.heap.size z w') :
    Calls Tryz.prog 3 #[.slice q n c, .agg #[.string k0.1, .int .i64 k0.2], .string nm] w fun e w' => e = .returned (.bool true) ∧ Below w.heap.size w w' := by
  obtain ⟨i, t, hf⟩ := fndV_form (L.map (·.k)) k0
  have hl : (foldK [] (L.map (·.k))).length ≤ 1048576 := by
    have := foldK_len (L.map (·.k)) []
    have h1 := h.1
    have h2 := h.2.1
    simp at this
    omega
  exact law_finds hl (fun z hz => hf ▸ find_ok c (h.below hz) k0) (fun z hz => hf ▸ rfind_ok c (h.below hz) k0) (fun z hz => latest9_ok c (h.below hz) nm) (fun z hz => latest10_ok c (h.below hz) nm)
    (fun z hz => keys_ok c (h.below hz)) (fun z hz => rkeys_ok c (h.below hz)) hA
end Go.Proofs.YtfhjhnofkaiceaaGreatDoor
