/-
  Needs.
-/
import Derived.Test.YtfhjhnofkaiceaaGreatDoorLbG
import Derived.Deep.LoopGhost
import Derived.Laws.AppendOwnNone
namespace Go.Proofs.YtfhjhnofkaiceaaGreatDoor
open Go Go.RowKit

theorem hid_of {p : Prop} (h : p) : Hid p := h
theorem grown_of_below {w w' : World} (h : Below w.heap.size w w') (row : Option Nat) : w.grownBy w' row :=
  ⟨h.os, h.tape, h.output, h.size, fun k hk _ => h.block k hk⟩
theorem grown_trans {a b c : World} {row : Option Nat} (h : a.grownBy b row) (k : b.grownBy c row) : a.grownBy c row :=
  h.andThen k fun _j e => .inr e
theorem rangeAt_grown {w w' : World} {b o B : Nat} {cs : List Value} (h : w.rangeAt b o cs) (hg : w.grownBy w' (some B)) (hne : b ≠ B) : w'.rangeAt b o cs :=
  fun j v hv => hg.cell (h j v hv) (fun e => hne (by simpa using e))
theorem SetAt.block {w : World} {B n : Nat} {S : List Ky} (h : SetAt w B n S) : ∃ es clock, w.heap[B]? = some (.map es clock) := by
  obtain ⟨_, D, ⟨es, clock, h1, _⟩, _⟩ := h
  exact ⟨es, clock, h1⟩
/-- A row of cells does not lie in a map's block. -/
theorem SetAt.ne {w : World} {B n : Nat} {S : List Ky} (h : SetAt w B n S) {b o : Nat} {v : Value} (hc : w.cell? ⟨b, o, none⟩ = some v) : b ≠ B := by
  rintro rfl
  obtain ⟨es, clock, hm⟩ := h.block
  simp [World.cell?, hm] at hc

/-- All the keys that a library's proofs use. -/
def Lb.all (U : Lb) : List Ky := U.flatMap (·.2)
theorem Lb.all_len (U : Lb) : U.all.length = (U.map (·.2.length)).sum := by
  unfold Lb.all
  rw [List.length_flatMap]
theorem Lb.mem_all {U : Lb} {i : Nat} {e : Ky × List Ky} (h : U[i]? = some e) : ∀ k ∈ e.2, k ∈ U.all := fun _k hk =>
  List.mem_flatMap.2 ⟨e, List.mem_of_getElem? h, hk⟩
/-- What an entry uses. -/
def Lb.at (U : Lb) (i : Nat) : List Ky := (U[i]?.map (·.2)).getD []
theorem Lb.at_mem {U : Lb} {i : Nat} : ∀ k ∈ U.at i, k ∈ U.all := by
  intro k hk
  unfold Lb.at at hk
  cases h : U[i]? with
  | none => rw [h] at hk; simp at hk
  | some e => rw [h] at hk; exact Lb.mem_all h k hk
theorem Lb.of_some {U : Lb} {k : Ky} {i : Nat} (h : ixK (U.map (·.1)) k = some i) : U.of k = U.at i := by
  unfold Lb.of Lb.at
  rw [h]
theorem Lb.of_none {U : Lb} {k : Ky} (h : ixK (U.map (·.1)) k = none) : U.of k = [] := by
  unfold Lb.of
  rw [h]

set_option maxRecDepth 100000 in
set_option maxHeartbeats 4000000 in
/-- reach, one level. -/
theorem reach_walk {w0 z : World} {b o n c : Nat} {L : List En} {U : Lb} (h : LibOk w0 (some ⟨b, o, none⟩) n L) (hU : LibU w0 L U) (hb : b < w0.heap.size) (hx : ∀ i e, L[i]? = some e → w0.rangeAt b (o + i * 33) e.cells)
    {B m i : Nat} {S : List Ky} (hm : m + lack U.all S ≤ 1048576) (hz : Below w0.heap.size w0 z) (hB : w0.heap.size ≤ B) (hset : SetAt z B m S) (hi : i < n)
    (ih : ∀ (S1 : List Ky) (z1 : World) (m1 j : Nat), lack U.all S1 < lack U.all S → m1 + lack U.all S1 ≤ 1048576 → Below w0.heap.size w0 z1 → SetAt z1 B m1 S1 → j < n →
      Calls Tryz.prog 40 #[.slice (some ⟨b, o, none⟩) n c, .int .i64 j, .map (some B)] z1 fun x w' => x = .returned (.tuple #[]) ∧ ∃ S' m', SetAt w' B m' S' ∧ m' + lack U.all S' ≤ m1 + lack U.all S1 ∧ Reached U (U.at j) S1 S' ∧ z1.grownBy w' (some B)) :
    Calls Tryz.prog 40 #[.slice (some ⟨b, o, none⟩) n c, .int .i64 i, .map (some B)] z fun x w' => x = .returned (.tuple #[]) ∧ ∃ S' m', SetAt w' B m' S' ∧ m' + lack U.all S' ≤ m + lack U.all S ∧ Reached U (U.at i) S S' ∧ z.grownBy w' (some B) := by
  have hL := h.1
  have hUk := hU.keys
  obtain ⟨e, he⟩ : ∃ e, L[i]? = some e := ⟨_, List.getElem?_eq_getElem (by omega)⟩
  obtain ⟨X, ⟨cl, d, hcl, hr, hX, hkw⟩, hkl, hUi⟩ := hU.2.2 i e he
  have hat : U.at i = foldK [] X.keys := by unfold Lb.at; rw [hUi]; rfl
  have hx1 : Hid (z.rangeAt b (o + i * 33 + 12) d.cells) := rangeAt_below (range_pf (hx i e he) hr hcl) hz hb
  have hbz : b < z.heap.size := Nat.lt_of_lt_of_le hb hz.size
  have hf := uses_ok (hX.below hz) hkl
  have hf : Calls Tryz.prog 34 #[.agg d.cells.toArray] z fun e w' => ∃ q c, e = .returned (.slice q (foldK [] X.keys).length c) ∧ KsOk w' q (foldK [] X.keys).length c (foldK [] X.keys) ∧ Below z.heap.size z w' := hf
  have ld : d.cells.length = 21 := rfl
  have hi0 : (0 : Int) ≤ (i : Int) := by omega
  have hi2 : (i : Int) < (n : Int) := by omega
  obtain ⟨d3, hu3, hd3⟩ := st_row
  have hH3 : Hid (Tryz.prog.underlying 53 = some d3) := hu3
  have hmem : Hid (∀ k ∈ U.at i, k ∈ U.all) := Lb.at_mem
  have hwf : Hid (∀ k ∈ foldK [] X.keys, KyOk k) := fun k hk => hkw k (by rw [mem_foldK] at hk; simpa using hk)
  have hus : (foldK [] X.keys).length ≤ 1048576 := by
    have := foldK_len X.keys []
    simp only [List.length_nil, Nat.zero_add] at this
    omega
  have hh : Hid (LibOk w0 (some ⟨b, o, none⟩) n L) := h
  have hUk' : Hid (U.map (·.1) = L.map (·.k)) := hUk
  have hset' : Hid (SetAt z B m S) := hset
  have hih := hid_of ih
  rw [hat] at hmem ⊢
  clear hat hu3 hx he hX hkw hr hcl hkl hUi hU h hUk ih
  generalize foldK [] X.keys = us at *
  generalize d.cells = ds at *
  go_enter Tryz.func40, Tryz.ntmps40
  go_wp2_with (first
    | (with_reducible refine wpList_load_mid (op := ⟨some 13, _, _, _, _, _⟩) ?_ 53 (.tmp 12) ?_ b (o + i * 33 + 12) ?_ ds d3 ?_ hH3.out hd3 ?_ ?_
       rotate_left 1
       · with_reducible rfl
       · kernel_rfl
       · exact hx1.out
       · (rw [ld]; exact st_size)
       rotate_left 1
       · rfl)
    | (go_at_call 34; refine hf.mono ?_; rintro x w1 ⟨q1, c1, rfl, hk1, hb1⟩
       have hset1 : Hid (SetAt w1 B m S) := hset'.out.below hb1 hset'.out.lt))
  have hW1 : Below w0.heap.size w0 w1 := hz.trans (hb1.mono hz.size)
  have hG1 : z.grownBy w1 (some B) := grown_of_below hb1 _
  by_cases h0 : us = []
  · subst h0
    clear hk1 hf
    simp only [List.length_nil]
    refine wp_loop_once ?_
    go_wp2_with fail
    go_end0
    exact ⟨rfl, S, m, hset1.out, Nat.le_refl _, Reached.nil U S, hG1⟩
  have hpos := List.length_pos_iff.2 h0
  obtain ⟨_, hnc, hcm, h4⟩ := hk1
  rcases h4 with ⟨_, hz4, _⟩ | ⟨g, o1, rfl, hg1, hc1⟩
  · omega
  have hgB : g ≠ B := by
    obtain ⟨a, ha⟩ : ∃ a, us[0]? = some a := ⟨_, List.getElem?_eq_getElem hpos⟩
    exact hset1.out.ne (hc1 0 a ha 0 _ rfl)
  have hc1' : Hid (∀ i k, us[i]? = some k → w1.rangeAt g (o1 + i * 2) (kcells k)) := hc1
  clear hc1 hf h0 hx1 hb1
  go_loopw [16] (fun j wr => ∃ k : Nat, k ≤ us.length ∧ j = .int .i64 k ∧ (∃ S1 m1, SetAt wr B m1 S1 ∧ m1 + lack U.all S1 ≤ m + lack U.all S ∧ Reached U (us.take k) S S1) ∧ w1.grownBy wr (some B)) (fun j _ => us.length - (intOf j).toNat)
  case atStart => exact ⟨0, Nat.zero_le _, rfl, ⟨S, m, hset1.out, Nat.le_refl _, by simpa using Reached.nil U S⟩, ⟨rfl, rfl, rfl, Nat.le_refl _, fun _ _ _ => rfl⟩⟩
  case round =>
    obtain ⟨k, hk, rfl, ⟨S1, m1, hs1, hm1, hre⟩, hgr⟩ := hrel
    have hs1' : Hid (SetAt wr B m1 S1) := hs1
    have hre' : Hid (Reached U (us.take k) S S1) := hre
    clear hs1 hre
    by_cases hlt : k < us.length
    · have hlt' : (k : Int) < (us.length : Int) := by omega
      obtain ⟨a, ha⟩ : ∃ a, us[k]? = some a := ⟨_, List.getElem?_eq_getElem hlt⟩
      have hra := rangeAt_grown (hc1'.out k a ha) hgr hgB
      have d0 := hra 0 _ rfl
      have d1 := hra 1 _ rfl
      rw [Nat.add_zero] at d0
      have hka : Hid (KyOk a) := hwf.out a (List.mem_of_getElem? ha)
      have hma : Hid (a ∈ U.all) := hmem.out a (List.mem_of_getElem? ha)
      have hta : Hid (us.take (k + 1) = us.take k ++ [a]) := by show us.take (k + 1) = _; rw [List.take_add_one, ha]; rfl
      have hsa : Hid (SetAt (wr.alloc (.cells #[.string a.1, .int .i64 a.2] 24)) B m1 S1) := hs1'.out.alloc _
      have hlook := hsa.out.look hka.out
      have hga : Hid (w1.grownBy (wr.alloc (.cells #[.string a.1, .int .i64 a.2] 24)) (some B)) := grown_trans hgr (World.grownBy_alloc wr _ _)
      have f0 : (wr.alloc (.cells #[.string a.1, .int .i64 a.2] 24)).cell? ⟨wr.heap.size, 0, none⟩ = some (.string a.1) := by simp
      have f1 : (wr.alloc (.cells #[.string a.1, .int .i64 a.2] 24)).cell? ⟨wr.heap.size, 1, none⟩ = some (.int .i64 a.2) := by simp
      have hBr := hs1'.out.lt
      clear ha hra
      by_cases hin : a ∈ S1
      · rw [decide_eq_true hin] at hlook
        have hin' : Hid (a ∈ S1) := hin
        clear hin
        go_wp2_with fail
        go_roundw
        case rel => exact ⟨k + 1, by omega, by go_num, ⟨S1, m1, hsa.out, hm1, by rw [hta.out]; exact hre'.out.skip hin'.out⟩, hga.out⟩
        case measure => simp [intOf]; omega
      · rw [decide_eq_false hin] at hlook
        have hlk := lack_cons hma.out hin
        have hin' : Hid (a ∉ S1) := hin
        have hms : m1 < 1048576 := by omega
        have hlks : Hid (lack U.all (a :: S1) < lack U.all S) := by
          have := lack_mono U.all hre'.out.old
          show lack U.all (a :: S1) < lack U.all S
          omega
        clear hin
        have hidx := fun z1 (h1 : Below w0.heap.size w0 z1) => index_ok c (hh.out.below h1) a
        unfold ixI at hidx
        have hcellB : ∀ (y y' : World), y.grownBy y' (some B) → ∀ (j : Nat) (v : Value), y.cell? ⟨wr.heap.size, j, none⟩ = some v → y'.cell? ⟨wr.heap.size, j, none⟩ = some v := fun _ _ hg _ _ hc => hg.cell hc (fun e => by simp only [Option.some.injEq] at e; omega)
        cases hix : ixK (L.map (·.k)) a with
        | none =>
          have hof : Hid (U.of a = []) := Lb.of_none (by rw [hUk'.out]; exact hix)
          rw [hix] at hidx
          simp only at hidx
          have hidx' := hid_of hidx
          have hcb := hid_of hcellB
          clear hix hidx hcellB
          go_wp2_with (first
            | (at_mapUpdate; refine wpList_put rfl _ _ _ rfl B m1 S1 rfl hsa.out (by unfold maxLen; omega) a hka.out rfl rfl ?_; intro w6 hset6 hg6
               have W6 : w1.grownBy w6 (some B) := grown_trans hga.out hg6
               have B6 : Below w0.heap.size w0 w6 := hW1.grown W6 hW1.size (fun g' e => by simp only [Option.some.injEq] at e; omega)
               have g0 : w6.cell? ⟨wr.heap.size, 0, none⟩ = some (.string a.1) := hcb.out _ _ hg6 _ _ f0
               have g1' : w6.cell? ⟨wr.heap.size, 1, none⟩ = some (.int .i64 a.2) := hcb.out _ _ hg6 _ _ f1
               have hset6' : Hid (SetAt w6 B (m1 + 1) (a :: S1)) := hset6
               clear hset6)
            | (go_at_call 26; refine (hidx'.out _ B6).mono ?_; rintro x w7 ⟨rfl, hb7⟩))
          go_roundw
          case rel =>
            exact ⟨k + 1, by omega, by go_num, ⟨a :: S1, m1 + 1, hset6'.out.below hb7 hset6'.out.lt, by omega, by rw [hta.out]; exact hre'.out.leaf hof.out⟩, grown_trans W6 (grown_of_below hb7 _)⟩
          case measure => simp [intOf]; omega
        | some i2 =>
          have hof : Hid (U.of a = U.at i2) := Lb.of_some (by rw [hUk'.out]; exact hix)
          have hi2n : i2 < n := by
            have := (List.getElem?_eq_some_iff.1 (ixK_get hix)).1
            simp at this
            omega
          have hj0 : (0 : Int) ≤ (i2 : Int) := by omega
          rw [hix] at hidx
          simp only at hidx
          have hidx' := hid_of hidx
          have hcb := hid_of hcellB
          clear hix hidx hcellB
          go_wp2_with (first
            | (at_mapUpdate; refine wpList_put rfl _ _ _ rfl B m1 S1 rfl hsa.out (by unfold maxLen; omega) a hka.out rfl rfl ?_; intro w6 hset6 hg6
               have W6 : w1.grownBy w6 (some B) := grown_trans hga.out hg6
               have B6 : Below w0.heap.size w0 w6 := hW1.grown W6 hW1.size (fun g' e => by simp only [Option.some.injEq] at e; omega)
               have g0 : w6.cell? ⟨wr.heap.size, 0, none⟩ = some (.string a.1) := hcb.out _ _ hg6 _ _ f0
               have g1' : w6.cell? ⟨wr.heap.size, 1, none⟩ = some (.int .i64 a.2) := hcb.out _ _ hg6 _ _ f1
               have hset6' : Hid (SetAt w6 B (m1 + 1) (a :: S1)) := hset6
               clear hset6)
            | (go_at_call 26; refine (hidx'.out _ B6).mono ?_; rintro x w7 ⟨rfl, hb7⟩
               have hset7 : Hid (SetAt w7 B (m1 + 1) (a :: S1)) := hset6'.out.below hb7 hset6'.out.lt
               have B7 : Below w0.heap.size w0 w7 := B6.trans (hb7.mono B6.size))
            | (go_at_call 40; refine (hih.out (a :: S1) w7 (m1 + 1) i2 hlks.out (by omega) B7 hset7.out hi2n).mono ?_; rintro x w8 ⟨rfl, S8, m8, hset8, hm8, hre8, hg8⟩))
          go_roundw
          case rel =>
            exact ⟨k + 1, by omega, by go_num, ⟨S8, m8, hset8, by omega, by rw [hta.out]; exact hre'.out.deep (hof.out ▸ hre8)⟩, grown_trans (grown_trans W6 (grown_of_below hb7 _)) hg8⟩
          case measure => simp [intOf]; omega
    · obtain rfl : k = us.length := by omega
      go_wp2_with fail
      go_end0
      exact ⟨rfl, S1, m1, hs1'.out, hm1, by have := hre'.out; rwa [List.take_of_length_le (Nat.le_refl _)] at this, grown_trans hG1 hgr⟩
end Go.Proofs.YtfhjhnofkaiceaaGreatDoor

namespace Go.Proofs.YtfhjhnofkaiceaaGreatDoor
open Go Go.RowKit

/-- reach. -/
theorem reach_ok {w0 : World} {b o n c : Nat} {L : List En} {U : Lb} (h : LibOk w0 (some ⟨b, o, none⟩) n L) (hU : LibU w0 L U) (hb : b < w0.heap.size) (hx : ∀ i e, L[i]? = some e → w0.rangeAt b (o + i * 33) e.cells)
    {B : Nat} (hB : w0.heap.size ≤ B) : ∀ (f : Nat) (S : List Ky) (z : World) (m i : Nat), lack U.all S ≤ f → m + lack U.all S ≤ 1048576 → Below w0.heap.size w0 z → SetAt z B m S → i < n →
    Calls Tryz.prog 40 #[.slice (some ⟨b, o, none⟩) n c, .int .i64 i, .map (some B)] z fun x w' => x = .returned (.tuple #[]) ∧ ∃ S' m', SetAt w' B m' S' ∧ m' + lack U.all S' ≤ m + lack U.all S ∧ Reached U (U.at i) S S' ∧ z.grownBy w' (some B) := by
  intro f
  induction f with
  | zero =>
    intro S z m i hf hm hz hs hi
    exact reach_walk h hU hb hx hm hz hB hs hi fun S1 z1 m1 j hl => by omega
  | succ f ih =>
    intro S z m i hf hm hz hs hi
    exact reach_walk h hU hb hx hm hz hB hs hi fun S1 z1 m1 j hl hm1 hz1 hs1 hj => ih S1 z1 m1 j (by omega) hm1 hz1 hs1 hj

/-- How many keys the entries use whose own keys a list lacks. -/
def wtU (U : Lb) (O : List Ky) : Nat := ((U.filter fun e => decide (e.1 ∉ O)).map (·.2.length)).sum
theorem wtU_congr (U : Lb) {O O' : List Ky} (h : ∀ x, x ∈ O ↔ x ∈ O') : wtU U O = wtU U O' := by
  unfold wtU
  congr 2
  apply List.filter_congr
  intro e _
  simp [h e.1]
theorem wtU_nil (U : Lb) : wtU U [] = (U.map (·.2.length)).sum := by
  unfold wtU
  congr 2
  rw [List.filter_eq_self]
  simp
theorem wtU_mono (U : Lb) {O O' : List Ky} (h : ∀ x ∈ O, x ∈ O') : wtU U O' ≤ wtU U O := by
  unfold wtU
  induction U with
  | nil => simp
  | cons e U ih =>
    simp only [List.filter_cons]
    by_cases h1 : e.1 ∈ O'
    · by_cases h2 : e.1 ∈ O
      · simp only [h1, h2, not_true_eq_false, decide_false, Bool.false_eq_true, if_false]
        exact ih
      · simp only [h1, h2, not_true_eq_false, not_false_eq_true, decide_false, decide_true, Bool.false_eq_true, if_false, if_true, List.map_cons, List.sum_cons]
        omega
    · have h2 : e.1 ∉ O := fun h2 => h1 (h _ h2)
      simp only [h1, h2, not_false_eq_true, decide_true, if_true, List.map_cons, List.sum_cons]
      omega
theorem wtU_cons : ∀ (U : Lb) (i : Nat) (e : Ky × List Ky) (O : List Ky), U[i]? = some e → e.1 ∉ O → wtU U (e.1 :: O) + e.2.length ≤ wtU U O
  | [], i, e, O, h, _ => by simp at h
  | a :: U, 0, e, O, h, hO => by
    simp only [List.getElem?_cons_zero, Option.some.injEq] at h
    subst h
    have hm := wtU_mono U (O := O) (O' := a.1 :: O) (fun x hx => List.mem_cons_of_mem _ hx)
    unfold wtU at hm ⊢
    simp only [List.filter_cons]
    have h3 : a.1 ∈ a.1 :: O := by simp
    simp only [h3, hO, not_true_eq_false, not_false_eq_true, decide_false, decide_true, Bool.false_eq_true, if_false, if_true, List.map_cons, List.sum_cons]
    omega
  | a :: U, i + 1, e, O, h, hO => by
    have hi := wtU_cons U i e O (by simpa using h) hO
    unfold wtU at hi ⊢
    simp only [List.filter_cons]
    by_cases h2 : a.1 ∈ O
    · have h3 : a.1 ∈ e.1 :: O := List.mem_cons_of_mem _ h2
      simp only [h3, h2, not_true_eq_false, decide_false, Bool.false_eq_true, if_false]
      exact hi
    · by_cases h4 : a.1 = e.1
      · have h3 : a.1 ∈ e.1 :: O := by simp [h4]
        simp only [h3, h2, not_true_eq_false, not_false_eq_true, decide_false, decide_true, Bool.false_eq_true, if_false, if_true, List.map_cons, List.sum_cons]
        omega
      · have h3 : a.1 ∉ e.1 :: O := by simp [h4, h2]
        simp only [h3, h2, not_false_eq_true, decide_true, if_true, List.map_cons, List.sum_cons]
        omega

/-- The worklist between two rounds. -/
structure NInv (U : Lb) (us O T : List Ky) : Prop where
  o : ∀ k ∈ O, Rch U us k
  t : ∀ k ∈ T, Rch U us k
  ou : ∀ k ∈ O, k ∈ U.all
  tu : ∀ k ∈ T, k ∈ U.all
  cl : ∀ k ∈ O, ∀ x ∈ U.of k, x ∈ O ∨ x ∈ T
  st : ∀ x ∈ us, x ∈ O ∨ x ∈ T
  asc : Asc O
  wt : T.length + wtU U O ≤ us.length + (U.map (·.2.length)).sum

theorem Lb.of_all {U : Lb} {k : Ky} : ∀ x ∈ U.of k, x ∈ U.all := by
  intro x hx
  cases h : ixK (U.map (·.1)) k with
  | none => rw [Lb.of_none h] at hx; cases hx
  | some i => rw [Lb.of_some h] at hx; exact Lb.at_mem x hx
theorem NInv.start {U : Lb} {us : List Ky} (h : ∀ k ∈ us, k ∈ U.all) : NInv U us [] us :=
  ⟨by simp, fun k hk => .base hk, by simp, h, by simp, fun x hx => .inr hx, List.Pairwise.nil, by rw [wtU_nil]; exact Nat.le_refl _⟩
theorem NInv.skip {U : Lb} {us O T : List Ky} {k : Ky} (h : NInv U us O (k :: T)) (hk : k ∈ O) : NInv U us O T := by
  have sub : ∀ x, x ∈ O ∨ x ∈ k :: T → x ∈ O ∨ x ∈ T := by
    rintro x (hx | hx)
    · exact .inl hx
    · rcases List.mem_cons.1 hx with rfl | hx
      · exact .inl hk
      · exact .inr hx
  refine ⟨h.o, fun x hx => h.t x (List.mem_cons_of_mem _ hx), h.ou, fun x hx => h.tu x (List.mem_cons_of_mem _ hx), fun y hy x hx => sub x (h.cl y hy x hx), fun x hx => sub x (h.st x hx), h.asc, ?_⟩
  have := h.wt
  simp only [List.length_cons] at this
  omega
theorem NInv.push {U : Lb} {us O T : List Ky} {k : Ky} (h : NInv U us O (k :: T)) (hk : k ∉ O) : NInv U us (insK k O) (T ++ U.of k) := by
  have hR := h.t k (by simp)
  have hA := h.tu k (by simp)
  have sub : ∀ x, x ∈ O ∨ x ∈ k :: T → x ∈ insK k O ∨ x ∈ T ++ U.of k := by
    rintro x (hx | hx)
    · exact .inl ((mem_insK k x O).2 (.inr hx))
    · rcases List.mem_cons.1 hx with rfl | hx
      · exact .inl ((mem_insK _ _ O).2 (.inl rfl))
      · exact .inr (List.mem_append_left _ hx)
  refine ⟨fun x hx => ?_, fun x hx => ?_, fun x hx => ?_, fun x hx => ?_, fun y hy x hx => ?_, fun x hx => sub x (h.st x hx), asc_insK k O h.asc, ?_⟩
  · rcases (mem_insK k x O).1 hx with rfl | hx
    · exact hR
    · exact h.o x hx
  · rcases List.mem_append.1 hx with hx | hx
    · exact h.t x (List.mem_cons_of_mem _ hx)
    · exact .step hR hx
  · rcases (mem_insK k x O).1 hx with rfl | hx
    · exact hA
    · exact h.ou x hx
  · rcases List.mem_append.1 hx with hx | hx
    · exact h.tu x (List.mem_cons_of_mem _ hx)
    · exact Lb.of_all x hx
  · rcases (mem_insK k y O).1 hy with rfl | hy
    · exact .inr (List.mem_append_right _ hx)
    · exact sub x (h.cl y hy x hx)
  · have hw := h.wt
    have hc : wtU U (insK k O) + (U.of k).length ≤ wtU U O := by
      rw [wtU_congr U (O' := k :: O) (fun x => by rw [mem_insK, List.mem_cons])]
      cases hi : ixK (U.map (·.1)) k with
      | none =>
        rw [Lb.of_none hi]
        exact wtU_mono U fun x hx => List.mem_cons_of_mem _ hx
      | some i =>
        have hg := ixK_get hi
        rw [List.getElem?_map, Option.map_eq_some_iff] at hg
        obtain ⟨e, he, rfl⟩ := hg
        have := wtU_cons U i e O he hk
        rw [Lb.of_some hi]
        unfold Lb.at
        rw [he]
        exact this
    simp only [List.length_cons] at hw
    rw [List.length_append]
    omega
theorem NInv.done {U : Lb} {us O : List Ky} (h : NInv U us O []) (k : Ky) : k ∈ O ↔ Rch U us k :=
  ⟨h.o k, fun hk => hk.within (fun x hx => (h.st x hx).resolve_right (by simp)) fun y hy x hx => (h.cl y hy x hx).resolve_right (by simp)⟩
theorem NInv.len {U : Lb} {us O T : List Ky} (h : NInv U us O T) : O.length ≤ U.all.length :=
  nodup_len O U.all (List.Pairwise.imp (fun {a b} (hab : ltK a b) => show a ≠ b by rintro rfl; exact ltK_irrefl _ hab) h.asc) h.ou

/-- The measure of the worklist. -/
def gasN (U : Lb) (O T : List Ky) : Nat := lack U.all O * (U.all.length + 1) + T.length
theorem gasN_skip (U : Lb) (O T : List Ky) (k : Ky) : gasN U O T < gasN U O (k :: T) := by
  unfold gasN
  simp
theorem gasN_push (U : Lb) (O T M : List Ky) (k : Ky) (hk : k ∉ O) (hA : k ∈ U.all) (hM : M.length ≤ U.all.length) : gasN U (insK k O) (T ++ M) < gasN U O (k :: T) := by
  unfold gasN
  have h1 := lack_cons hA hk
  have h2 : lack U.all (insK k O) = lack U.all (k :: O) := by
    apply Nat.le_antisymm
    · exact lack_mono _ fun x hx => (mem_insK k x O).2 (List.mem_cons.1 hx)
    · exact lack_mono _ fun x hx => List.mem_cons.2 ((mem_insK k x O).1 hx)
  rw [h2]
  have h3 := Nat.mul_le_mul_right (U.all.length + 1) h1
  rw [Nat.add_mul, Nat.one_mul] at h3
  simp only [List.length_append, List.length_cons]
  omega
theorem Lb.of_len (U : Lb) (k : Ky) : (U.of k).length ≤ U.all.length := by
  cases h : ixK (U.map (·.1)) k with
  | none => rw [Lb.of_none h]; simp
  | some i =>
    have hg := ixK_get h
    rw [List.getElem?_map, Option.map_eq_some_iff] at hg
    obtain ⟨e, he, rfl⟩ := hg
    have hw := wtU_cons U i e [] he (by simp)
    rw [wtU_nil] at hw
    rw [Lb.of_some h, Lb.all_len]
    unfold Lb.at
    rw [he]
    exact Nat.le_trans (Nat.le_add_left _ _) hw
end Go.Proofs.YtfhjhnofkaiceaaGreatDoor

namespace Go.Proofs.YtfhjhnofkaiceaaGreatDoor
open Go Go.RowKit

/-- The rest of a list of keys in memory. -/
theorem KsOk.tail {w : World} {g o n c : Nat} {k : Ky} {T : List Ky} (h : KsOk w (some ⟨g, o, none⟩) n c (k :: T)) (_hc : c ≠ 1) : KsOk w (some ⟨g, o + 2, none⟩) T.length (c - 1) T := by
  obtain ⟨h1, h2, h3, h4⟩ := h
  simp only [List.length_cons] at h1
  refine ⟨rfl, by omega, by omega, .inr ?_⟩
  rcases h4 with ⟨h, _⟩ | ⟨b, o', e, hlt, hx⟩
  · cases h
  · cases e
    refine ⟨g, o + 2, rfl, hlt, fun i a ha => ?_⟩
    have := hx (i + 1) a (by simpa using ha)
    rwa [show o + (i + 1) * 2 = o + 2 + i * 2 by omega] at this
/-- What lies in an own row of keys, however long. -/
theorem KsOk.of_row0 {w : World} {base : Nat} {v : Value} {L : List Ky} (h : w.ownsRow base 24 2 v L.length (L.flatMap kcells)) : ∃ q cap, v = .slice q L.length cap ∧ KsOk w q L.length cap L := by
  by_cases h0 : L = []
  · subst h0
    rcases h.2 with ⟨rfl, _⟩ | ⟨g, cap, cur, rfl, _, hg, h3, h4, _⟩
    · exact ⟨none, 0, rfl, rfl, Nat.le_refl _, Nat.zero_le _, .inl ⟨rfl, rfl, rfl⟩⟩
    · exact ⟨_, cap, rfl, rfl, Nat.zero_le _, h4, .inr ⟨g, 0, rfl, (Array.getElem?_eq_some_iff.1 hg).1, by simp⟩⟩
  · obtain ⟨g, cap, rfl, _, _, hk⟩ := KsOk.of_row h (List.length_pos_iff.2 h0)
    exact ⟨_, cap, rfl, hk⟩

theorem Lb.res_none {U : Lb} {k : Ky} (h : ixK (U.map (·.1)) k = none) : U.res k = ([], 90) := by
  unfold Lb.res
  rw [h]
theorem Lb.res_some {U : Lb} {k : Ky} {i : Nat} (h : ixK (U.map (·.1)) k = some i) : U.res k = (U.at i, 0) := by
  unfold Lb.res Lb.at
  rw [h]

theorem KsOk.cells {w : World} {q2 : Addr} {n c : Nat} {L : List Ky} (h : KsOk w (some q2) n c L) : ∀ j u, (L.flatMap kcells)[j]? = some u → w.cell? (q2.add j) = some u := by
  obtain ⟨_, _, _, h4⟩ := h
  rcases h4 with ⟨h, _⟩ | ⟨b, o, e, _, hx⟩
  · cases h
  · cases e
    exact flat_keys hx

/-- append of keys to a row of the call's own. -/
theorem wpList_append_keys {w : World} {ops : Array Oper} {rest : List Oper} {o : Oper} {a : Act} {Q : Exit → Act → World → Prop} (hgd : o.guard = none) (s x : Operand)
    (ho : o.op = .call { callee := .builtin .append, args := #[s, x], argTypes := #[29, 29] })
    (base : Nat) (v : Value) (n : Nat) (xs : List Value) (hs : a.eval s = v) (hown : w.ownsRow base 24 2 v n xs)
    (q : Option Addr) (m c : Nat) (M : List Ky) (hx : a.eval x = .slice q m c) (hk : KsOk w q m c M) (h63 : n + m ≤ 4194304) (hbase : base ≤ w.heap.size)
    (h : ∀ v' w', w'.ownsRow base 24 2 v' (n + m) (xs ++ M.flatMap kcells) → w.grownBy w' v.ownBlock → wpList Tryz.prog ops Q rest (a.put o.dst v') w') : wpList Tryz.prog ops Q (o :: rest) a w := by
  obtain ⟨j0, hj, hz0, hz1, hz2⟩ := info_parts (show (Tryz.prog.info? 24).map (fun i => (i.zero, i.size, i.bytes)) = some (some (.agg #[.string ⟨#[]⟩, .int .i64 0]), 2, 24) by kernel_rfl)
  obtain ⟨hl, hnc, hcm, h4⟩ := id hk
  rcases h4 with ⟨rfl, rfl, rfl⟩ | ⟨b, o', rfl, hlt, hc⟩
  · obtain rfl : M = [] := List.eq_nil_of_length_eq_zero hl
    exact wpList_append_own_none hgd s x 29 ho base 24 j0 2 Tryz.underlying29 hj v n xs hs hown hx (h v w (by simpa using hown) ⟨rfl, rfl, rfl, Nat.le_refl _, fun _ _ _ => rfl⟩)
  · exact wpList_append_own w hgd s x 29 ho base 24 j0 (.agg #[.string ⟨#[]⟩, .int .i64 0]) 2 24 Tryz.underlying29 hj hz0 hz1 hz2 rfl (by decide) v n xs hs hown _ m c (M.flatMap kcells) hx (by rw [flat_len2 (s := 2) kcells_len, hl]) hk.cells (one_kcells _) (by unfold maxLen; omega) (by omega) hbase fun v' w' h1 h2 _ => h v' w' h1 h2

set_option maxRecDepth 100000 in
set_option maxHeartbeats 8000000 in
/-- Needs of the reference, out of Uses. -/
theorem rneeds_walk {w : World} {q : Option Addr} {n c : Nat} {U : Lb} (hU : U.all.length ≤ 1048576) (k0 : Ky) (i0 : Nat) (hi : ixK (U.map (·.1)) k0 = some i0)
    (hR : ∀ (z : World) (k : Ky), Below w.heap.size w z → Calls Tryz.prog 22 #[.slice q n c, .agg #[.string k.1, .int .i64 k.2]] z fun x w' => ∃ q' c', x = .returned (.tuple #[.slice q' (U.res k).1.length c', .int .i64 (U.res k).2]) ∧ KsOk w' q' (U.res k).1.length c' (U.res k).1 ∧ Below z.heap.size z w') :
    Calls Tryz.prog 24 #[.slice q n c, .agg #[.string k0.1, .int .i64 k0.2]] w fun x w' => ∃ q' c' N, x = .returned (.tuple #[.slice q' N.length c', .int .i64 0]) ∧ KsOk w' q' N.length c' N ∧ Asc N ∧ (∀ y, y ∈ N ↔ Rch U (U.at i0) y) ∧ Below w.heap.size w w' := by
  obtain ⟨j0, hj, hz0, hz1, hz2⟩ := info_parts (show (Tryz.prog.info? 24).map (fun i => (i.zero, i.size, i.bytes)) = some (some (.agg #[.string ⟨#[]⟩, .int .i64 0]), 2, 24) by kernel_rfl)
  have hb0 : Below w.heap.size w (w.alloc (.cells #[.string k0.1, .int .i64 k0.2] 24)) := below_one _ _
  have hcall := hR _ k0 hb0
  rw [Lb.res_some hi] at hcall
  simp only at hcall
  have hR' := hid_of hR
  have hst : Hid (NInv U (U.at i0) [] (U.at i0)) := NInv.start fun k hk => Lb.at_mem k hk
  have hlen0 := Lb.of_len U k0
  rw [Lb.of_some hi] at hlen0
  clear hR hi
  generalize U.at i0 = us at *
  go_enter Tryz.func24, Tryz.ntmps24
  go_wp2_with (go_at_call 22; refine hcall.mono ?_; rintro x w1 ⟨q1, c1, rfl, hk1, hb1⟩)
  have W1 : Below w.heap.size w w1 := hb0.trans (hb1.mono hb0.size)
  clear hcall hb0 hb1
  go_loopg [6, 8] (gasN U [] us) (fun gg t6 t8 wr => ∃ (T O : List Ky) (qT : Option Addr) (cT : Nat) (qO : Option Addr) (cO : Nat), t6 = .slice qT T.length cT ∧ t8 = .slice qO O.length cO ∧ Hid (KsOk wr qT T.length cT T) ∧ Hid (KsOk wr qO O.length cO O) ∧ Hid (NInv U us O T) ∧ Below w.heap.size w wr ∧ Hid (gasN U O T ≤ gg))
  case atStart => exact ⟨us, [], q1, c1, none, 0, rfl, rfl, hk1, ⟨rfl, Nat.le_refl _, Nat.zero_le _, .inl ⟨rfl, rfl, rfl⟩⟩, hst, W1, Nat.le_refl _⟩
  case round =>
    clear hk1 W1 hst
    obtain ⟨T, O, qT, cT, qO, cO, rfl, rfl, hT, hO, hI, hbw, hgk⟩ := hrel
    have hOl : O.length ≤ 1048576 := Nat.le_trans hI.out.len hU
    have hws := hbw.size
    cases T with
    | nil =>
      simp only [List.length_nil]
      go_wp2_with fail
      go_ret2
      exact ⟨qO, cO, O, rfl, hO.out, hI.out.asc, hI.out.done, hbw⟩
    | cons k T =>
      obtain ⟨_, hT2, hT3, hT4⟩ := hT.out
      rcases hT4 with ⟨_, h, _⟩ | ⟨g, o, rfl, hg, hc⟩
      · simp at h
      have d0 := hc 0 k rfl 0 _ rfl
      have d1 := hc 0 k rfl 1 _ rfl
      simp only [Nat.zero_mul, Nat.add_zero] at d0 d1
      have hTlen : T.length ≤ 2097151 := by
        have h1 := hI.out.wt
        rw [← Lb.all_len] at h1
        simp only [List.length_cons] at h1
        omega
      have hka : Hid (k ∈ U.all) := hI.out.tu k (by simp)
      have wa : Below w.heap.size w (wr.alloc (.cells #[.string k.1, .int .i64 k.2] 24)) := hbw.alloc hws _
      have wb : Below wr.heap.size wr (wr.alloc (.cells #[.string k.1, .int .i64 k.2] 24)) := below_one _ _
      have f0 : (wr.alloc (.cells #[.string k.1, .int .i64 k.2] 24)).cell? ⟨wr.heap.size, 0, none⟩ = some (.string k.1) := by simp
      have f1 : (wr.alloc (.cells #[.string k.1, .int .i64 k.2] 24)).cell? ⟨wr.heap.size, 1, none⟩ = some (.int .i64 k.2) := by simp
      have fz : wr.heap.size < (wr.alloc (.cells #[.string k.1, .int .i64 k.2] 24)).heap.size := by simp
      have hin := in_ok (hO.out.below wb) (Nat.le_trans hOl (by omega)) k
      have hpos : (0 : Int) < ((T.length + 1 : Nat) : Int) := by omega
      have hcT : T.length + 1 ≤ cT := by simpa using hT2
      -- the rest of the list
      obtain ⟨q2, c2, hk2, hq2⟩ : ∃ (q2 : Addr) (c2 : Nat), Hid (KsOk wr (some q2) T.length c2 T) ∧ ((cT = 1 ∧ q2 = ⟨g, o, none⟩ ∧ c2 = 0) ∨ (cT ≠ 1 ∧ q2 = ⟨g, o + 2, none⟩ ∧ c2 = cT - 1)) := by
        by_cases h1 : cT = 1
        · obtain rfl : T = [] := List.eq_nil_of_length_eq_zero (by omega)
          exact ⟨_, _, ⟨rfl, Nat.le_refl _, Nat.zero_le _, .inr ⟨g, o, rfl, hg, by simp⟩⟩, .inl ⟨h1, rfl, rfl⟩⟩
        · exact ⟨_, _, hT.out.tail h1, .inr ⟨h1, rfl, rfl⟩⟩
      have hcT1 : ∀ h : cT = 1, T.length = 0 := fun h => by omega
      clear hc hT hT2 hT3
      by_cases hk : k ∈ O
      · rw [decide_eq_true hk] at hin
        have hk' : Hid (k ∈ O) := hk
        clear hk
        rcases hq2 with ⟨h1, rfl, rfl⟩ | ⟨h1, rfl, rfl⟩
        all_goals
          first
            | (subst h1; have hT0 : T = [] := List.eq_nil_of_length_eq_zero (hcT1 rfl))
            | (have h1' : ¬ (1 : Nat) = cT := fun e => h1 e.symm)
          go_wp2_with (go_at_call 37; refine hin.mono ?_; rintro x w3 ⟨rfl, hb3⟩)
          go_roundg (gasN U O T)
          case rel => exact ⟨T, O, _, _, qO, cO, by first | rfl | (rw [hT0]; rfl), rfl, (hk2.out.below wb).below hb3, (hO.out.below wb).below hb3, hI.out.skip hk'.out, wa.trans (hb3.mono wa.size), Nat.le_refl _⟩
          case measure => exact Nat.lt_of_lt_of_le (gasN_skip U O T k) hgk.out
      · rw [decide_eq_false hk] at hin
        have hg2 := gasN_push U O T (U.of k) k hk hka.out (Lb.of_len U k)
        have hg2' : Hid (gasN U (insK k O) (T ++ U.of k) < gk) := Nat.lt_of_lt_of_le hg2 hgk.out
        have hI2 : Hid (NInv U us (insK k O) (T ++ U.of k)) := hI.out.push hk
        have hMl : (U.of k).length ≤ 1048576 := Nat.le_trans (Lb.of_len U k) hU
        clear hk hg2
        cases hix : ixK (U.map (·.1)) k with
        | none =>
          have hof : U.of k = [] := Lb.of_none hix
          rw [hof, List.append_nil] at hg2' hI2
          have hres := Lb.res_none hix
          clear hof hix hMl
          have hRk := fun z hz => hR'.out z k hz
          rw [hres] at hRk
          simp only [List.length_nil] at hRk
          have hRk' := hid_of hRk
          clear hRk hres
          rcases hq2 with ⟨h1, rfl, rfl⟩ | ⟨h1, rfl, rfl⟩
          all_goals
            first
              | (subst h1; have hT0 : T = [] := List.eq_nil_of_length_eq_zero (hcT1 rfl))
              | (have h1' : ¬ (1 : Nat) = cT := fun e => h1 e.symm)
            go_wp2_with (first
              | (go_at_call 37; refine hin.mono ?_; rintro x w3 ⟨rfl, hb3⟩
                 have wa3 : Below wr.heap.size wr w3 := wb.trans (hb3.mono wb.size)
                 have W3 : Below w.heap.size w w3 := wa.trans (hb3.mono wa.size)
                 have f03 : w3.cell? ⟨wr.heap.size, 0, none⟩ = some (.string k.1) := (hb3.cell fz).trans f0
                 have f13 : w3.cell? ⟨wr.heap.size, 1, none⟩ = some (.int .i64 k.2) := (hb3.cell fz).trans f1
                 have fz3 : wr.heap.size < w3.heap.size := Nat.lt_of_lt_of_le fz hb3.size)
              | (go_at_call 30; refine (insert_ok k (hO.out.below wa3) hOl).mono ?_; rintro x w4 ⟨q4, c4, rfl, hk4, hb4⟩
                 have hk4' : Hid (KsOk w4 q4 (insK k O).length c4 (insK k O)) := hk4
                 clear hk4
                 have W4 : Below w.heap.size w w4 := W3.trans (hb4.mono W3.size)
                 have wa4 : Below wr.heap.size wr w4 := wa3.trans (hb4.mono wa3.size)
                 have f04 : w4.cell? ⟨wr.heap.size, 0, none⟩ = some (.string k.1) := (hb4.cell fz3).trans f03
                 have f14 : w4.cell? ⟨wr.heap.size, 1, none⟩ = some (.int .i64 k.2) := (hb4.cell fz3).trans f13)
              | (go_at_call 22; refine (hRk'.out _ W4).mono ?_; rintro x w5 ⟨q5, c5, rfl, hk5, hb5⟩))
            go_roundg (gasN U (insK k O) T)
            case rel => exact ⟨T, insK k O, _, _, q4, c4, by first | rfl | (rw [hT0]; rfl), rfl, (hk2.out.below wa4).below hb5, hk4'.out.below hb5, hI2.out, W4.trans (hb5.mono W4.size), Nat.le_refl _⟩
            case measure => exact hg2'.out
        | some i2 =>
          have hof : U.of k = U.at i2 := Lb.of_some hix
          rw [hof] at hg2' hI2 hMl
          have hres := Lb.res_some hix
          clear hof hix
          have hRk := fun z hz => hR'.out z k hz
          rw [hres] at hRk
          simp only at hRk
          have hRk' := hid_of hRk
          clear hRk hres
          generalize U.at i2 = M at *
          rcases hq2 with ⟨h1, rfl, rfl⟩ | ⟨h1, rfl, rfl⟩
          all_goals
            first
              | (subst h1; have hT0 : T = [] := List.eq_nil_of_length_eq_zero (hcT1 rfl))
              | (have h1' : ¬ (1 : Nat) = cT := fun e => h1 e.symm)
            go_wp2_with (first
              | (go_at_call 37; refine hin.mono ?_; rintro x w3 ⟨rfl, hb3⟩
                 have wa3 : Below wr.heap.size wr w3 := wb.trans (hb3.mono wb.size)
                 have W3 : Below w.heap.size w w3 := wa.trans (hb3.mono wa.size)
                 have f03 : w3.cell? ⟨wr.heap.size, 0, none⟩ = some (.string k.1) := (hb3.cell fz).trans f0
                 have f13 : w3.cell? ⟨wr.heap.size, 1, none⟩ = some (.int .i64 k.2) := (hb3.cell fz).trans f1
                 have fz3 : wr.heap.size < w3.heap.size := Nat.lt_of_lt_of_le fz hb3.size)
              | (go_at_call 30; refine (insert_ok k (hO.out.below wa3) hOl).mono ?_; rintro x w4 ⟨q4, c4, rfl, hk4, hb4⟩
                 have hk4' : Hid (KsOk w4 q4 (insK k O).length c4 (insK k O)) := hk4
                 clear hk4
                 have W4 : Below w.heap.size w w4 := W3.trans (hb4.mono W3.size)
                 have wa4 : Below wr.heap.size wr w4 := wa3.trans (hb4.mono wa3.size)
                 have f04 : w4.cell? ⟨wr.heap.size, 0, none⟩ = some (.string k.1) := (hb4.cell fz3).trans f03
                 have f14 : w4.cell? ⟨wr.heap.size, 1, none⟩ = some (.int .i64 k.2) := (hb4.cell fz3).trans f13)
              | (go_at_call 22; refine (hRk'.out _ W4).mono ?_; rintro x w5 ⟨q5, c5, rfl, hk5, hb5⟩
                 have hk5' : Hid (KsOk w5 q5 M.length c5 M) := hk5
                 clear hk5
                 have W5 : Below w.heap.size w w5 := W4.trans (hb5.mono W4.size)
                 have wa5 : Below wr.heap.size wr w5 := wa4.trans (hb5.mono wa4.size)
                 have hk45 : Hid (KsOk w5 q4 (insK k O).length c4 (insK k O)) := hk4'.out.below hb5
                 have e0 : Hid ((w5.alloc (.cells #[] 24)).ownsRow w5.heap.size 24 2 (.slice (some ⟨w5.heap.size, 0, none⟩) 0 0) 0 []) := owns_empty w5 24 2
                 have hkT := hid_of ((hk2.out.below wa5).below (below_one w5 (.cells #[] 24))))
              | (at_builtin; with_reducible refine wpList_append_keys rfl _ _ rfl w5.heap.size (.slice (some ⟨w5.heap.size, 0, none⟩) 0 0) 0 [] ?_ e0.out _ _ _ _ ?_ hkT.out (by omega) (by simp) ?_
                 · rfl
                 · first | rfl | (rw [hT0]; rfl)
                 intro v1 w6 hown6 hgrow6
                 have B6 : Below w5.heap.size w5 w6 := (below_one w5 _).grown hgrow6 (by simp) (fun g' hg' => by simp only [Value.ownBlock, Option.some.injEq] at hg'; omega)
                 have s6 := B6.size
                 have hk56 := hid_of (hk5'.out.below B6))
              | (at_builtin; with_reducible refine wpList_append_keys rfl _ _ rfl w5.heap.size v1 (0 + T.length) _ ?_ hown6 _ _ _ _ ?_ hk56.out (by omega) s6 ?_
                 · rfl
                 · rfl
                 intro v2 w7 hown7 hgrow7
                 have B7 : Below w5.heap.size w5 w7 := B6.grown hgrow7 s6 (fun g' hg' => (hown6.lt g' hg').1)))
            obtain ⟨q7, c7, rfl, hk7⟩ := KsOk.of_row0 (L := T ++ M) (by rw [List.length_append, List.flatMap_append]; simpa using hown7)
            go_roundg (gasN U (insK k O) (T ++ M))
            case rel => exact ⟨T ++ M, insK k O, q7, c7, q4, c4, rfl, rfl, hk7, hk45.out.below B7, hI2.out, W5.trans (B7.mono W5.size), Nat.le_refl _⟩
            case measure => exact hg2'.out
end Go.Proofs.YtfhjhnofkaiceaaGreatDoor

namespace Go.Proofs.YtfhjhnofkaiceaaGreatDoor
open Go Go.RowKit

set_option maxRecDepth 100000 in
set_option maxHeartbeats 1000000 in
/-- Needs of the program, where the key is there. -/
theorem needs_some {w : World} (b o n c : Nat) {L : List En} {U : Lb} (h : LibOk w (some ⟨b, o, none⟩) n L) (hU : LibU w L U) (k0 : Ky) (i0 : Nat) (hi : ixK (L.map (·.k)) k0 = some i0) (hb : b < w.heap.size) (hx : ∀ i e, L[i]? = some e → w.rangeAt b (o + i * 33) e.cells) :
    Calls Tryz.prog 23 #[.slice (some ⟨b, o, none⟩) n c, .agg #[.string k0.1, .int .i64 k0.2]] w fun x w' => ∃ q' c' N, x = .returned (.tuple #[.slice q' N.length c', .int .i64 0]) ∧ KsOk w' q' N.length c' N ∧ Asc N ∧ (∀ y, y ∈ N ↔ Rch U (U.at i0) y) ∧ Below w.heap.size w w' := by
  have hb0 : Below w.heap.size w (w.alloc (.cells #[.string k0.1, .int .i64 k0.2] 24)) := below_one _ _
  have hcall := index_ok c (h.below hb0) k0
  have hmm := @run_makeMap Tryz.prog
  unfold ixI at hcall
  rw [hi] at hcall
  simp only at hcall
  have hi0 : (0 : Int) ≤ (i0 : Int) := by omega
  have hi1 : ¬ (i0 : Int) < 0 := by omega
  have hin : i0 < n := by
    have h1 := (List.getElem?_eq_some_iff.1 (ixK_get hi)).1
    rw [List.length_map] at h1
    have := h.1
    omega
  have hl : lack U.all [] ≤ 1048576 := by
    have := hU.2.1
    rw [← Lb.all_len] at this
    exact Nat.le_trans (List.length_filter_le _ _) this
  have hreach : ∀ (z : World), Below w.heap.size w z → Calls Tryz.prog 40 #[.slice (some ⟨b, o, none⟩) n c, .int .i64 i0, .map (some z.heap.size)] (z.alloc (.map #[] 0)) fun x w' => x = .returned (.tuple #[]) ∧ ∃ S' m', SetAt w' z.heap.size m' S' ∧ m' + lack U.all S' ≤ 0 + lack U.all [] ∧ Reached U (U.at i0) [] S' ∧ (z.alloc (.map #[] 0)).grownBy w' (some z.heap.size) :=
    fun z hz => reach_ok h hU hb hx (B := z.heap.size) hz.size (lack U.all []) [] (z.alloc (.map #[] 0)) 0 i0 (Nat.le_refl _) (by omega) (hz.alloc hz.size _) (SetAt.made z) hin
  clear h hU hx hi
  go_enter Tryz.func23, Tryz.ntmps23
  go_wp2_with (first
    | (go_at_call 26; refine hcall.mono ?_; rintro x w5 ⟨rfl, hb5⟩
       have W5 : Below w.heap.size w w5 := hb0.trans (hb5.mono hb0.size))
    | (go_at_call 40; refine (hreach w5 W5).mono ?_; rintro x w6 ⟨rfl, S', m', hset, hm, hre, hg6⟩
       have hsort := sorted_ok w6 w5.heap.size m' S' hset (by omega)
       have W6 : Below w.heap.size w w6 := (W5.alloc W5.size (.map #[] 0)).grown hg6 (by have := W5.size; simp; omega) (fun g' hg' => by have := W5.size; simp only [Option.some.injEq] at hg'; omega))
    | (go_at_call 29; refine hsort.mono ?_; rintro x w7 ⟨q7, c7, K, rfl, hks, hasc, hmem, hb7⟩))
  go_ret2
  exact ⟨q7, c7, K, rfl, hks, hasc, fun y => by rw [hmem y]; exact hre.iff y, W6.trans (hb7.mono W6.size)⟩
end Go.Proofs.YtfhjhnofkaiceaaGreatDoor

namespace Go.Proofs.YtfhjhnofkaiceaaGreatDoor
open Go Go.RowKit

/-- What Needs gives. -/
noncomputable def Lb.needs (U : Lb) (us : List Ky) : List Ky := foldK [] (U.all.filter fun y => @decide (Rch U us y) (Classical.propDecidable _))
theorem needs_eq {U : Lb} {i0 : Nat} {N : List Ky} (h : Asc N) (hm : ∀ y, y ∈ N ↔ Rch U (U.at i0) y) : N = U.needs (U.at i0) := by
  refine asc_fold h fun x => ?_
  rw [hm x, List.mem_filter, @decide_eq_true_iff _ (Classical.propDecidable _)]
  refine ⟨fun hx => ⟨?_, hx⟩, fun hx => hx.2⟩
  exact hx.within (S := U.all) (fun k hk => Lb.at_mem k hk) (fun k _ x hx => Lb.of_all x hx)
theorem needs_len (U : Lb) (us : List Ky) : (U.needs us).length ≤ U.all.length := by
  unfold Lb.needs
  have h1 := foldK_len (U.all.filter fun y => @decide (Rch U us y) (Classical.propDecidable _)) []
  have h2 := List.length_filter_le (fun y => @decide (Rch U us y) (Classical.propDecidable _)) U.all
  simp only [List.length_nil, Nat.zero_add] at h1
  omega
noncomputable def Lb.nd (U : Lb) (k : Ky) : List Ky := match ixK (U.map (·.1)) k with | some i => U.needs (U.at i) | none => []
def Lb.us (U : Lb) (k : Ky) : List Ky := match ixK (U.map (·.1)) k with | some _ => foldK [] (U.users k) | none => []
theorem Lb.nd_some {U : Lb} {k : Ky} {i : Nat} (h : ixK (U.map (·.1)) k = some i) : U.nd k = U.needs (U.at i) := by
  unfold Lb.nd; rw [h]
theorem Lb.nd_none {U : Lb} {k : Ky} (h : ixK (U.map (·.1)) k = none) : U.nd k = [] := by
  unfold Lb.nd; rw [h]
theorem Lb.us_some {U : Lb} {k : Ky} {i : Nat} (h : ixK (U.map (·.1)) k = some i) : U.us k = foldK [] (U.users k) := by
  unfold Lb.us; rw [h]
theorem Lb.us_none {U : Lb} {k : Ky} (h : ixK (U.map (·.1)) k = none) : U.us k = [] := by
  unfold Lb.us; rw [h]
theorem Lb.nd_len (U : Lb) (k : Ky) : (U.nd k).length ≤ U.all.length := by
  cases h : ixK (U.map (·.1)) k with
  | none => rw [Lb.nd_none h]; simp
  | some i => rw [Lb.nd_some h]; exact needs_len _ _
theorem Lb.us_len (U : Lb) (k : Ky) : (U.us k).length ≤ U.length := by
  cases h : ixK (U.map (·.1)) k with
  | none => rw [Lb.us_none h]; simp
  | some i =>
    rw [Lb.us_some h]
    have h1 := foldK_len (U.users k) []
    have h2 : (U.users k).length ≤ U.length := by
      unfold Lb.users
      rw [List.length_map]
      exact List.length_filter_le _ _
    simp only [List.length_nil, Nat.zero_add] at h1
    omega

/-- A library with an entry has its cells in memory. -/
theorem LibOk.block {w : World} {q : Option Addr} {n : Nat} {L : List En} (h : LibOk w q n L) {k0 : Ky} {i0 : Nat} (hi : ixK (L.map (·.k)) k0 = some i0) : ∃ b o, q = some ⟨b, o, none⟩ ∧ b < w.heap.size ∧ ∀ i e, L[i]? = some e → w.rangeAt b (o + i * 33) e.cells := by
  have h1 := (List.getElem?_eq_some_iff.1 (ixK_get hi)).1
  rw [List.length_map] at h1
  have h2 := h.1
  rcases h.2.2.2 with h0 | h
  · omega
  · exact h

set_option maxRecDepth 100000 in
theorem none23 {w : World} {q : Option Addr} {n : Nat} (c : Nat) {L : List En} (h : LibOk w q n L) (k0 : Ky) (hi : ixK (L.map (·.k)) k0 = none) :
    Calls Tryz.prog 23 #[.slice q n c, .agg #[.string k0.1, .int .i64 k0.2]] w fun x w' => x = .returned (.tuple #[.slice none 0 0, .int .i64 90]) ∧ Below w.heap.size w w' := by
  have hb0 : Below w.heap.size w (w.alloc (.cells #[.string k0.1, .int .i64 k0.2] 24)) := below_one _ _
  have hcall := index_ok c (h.below hb0) k0
  unfold ixI at hcall
  rw [hi] at hcall
  simp only at hcall
  clear h hi
  go_enter Tryz.func23, Tryz.ntmps23
  go_wp2_with (go_at_call 26; refine hcall.mono ?_; rintro x w5 ⟨rfl, hb5⟩)
  go_ret2
  exact ⟨rfl, hb0.trans (hb5.mono hb0.size)⟩

set_option maxRecDepth 100000 in
theorem none20 {w : World} {q : Option Addr} {n : Nat} (c : Nat) {L : List En} (h : LibOk w q n L) (k0 : Ky) (hi : ixK (L.map (·.k)) k0 = none) :
    Calls Tryz.prog 20 #[.slice q n c, .agg #[.string k0.1, .int .i64 k0.2]] w fun x w' => x = .returned (.tuple #[.slice none 0 0, .int .i64 90]) ∧ Below w.heap.size w w' := by
  have hb0 : Below w.heap.size w (w.alloc (.cells #[.string k0.1, .int .i64 k0.2] 24)) := below_one _ _
  have hcall := index_ok c (h.below hb0) k0
  unfold ixI at hcall
  rw [hi] at hcall
  simp only at hcall
  clear h hi
  go_enter Tryz.func20, Tryz.ntmps20
  go_wp2_with (go_at_call 26; refine hcall.mono ?_; rintro x w5 ⟨rfl, hb5⟩)
  go_ret2
  exact ⟨rfl, hb0.trans (hb5.mono hb0.size)⟩

set_option maxRecDepth 100000 in
theorem none25 {w : World} {q : Option Addr} {n : Nat} (c : Nat) {L : List En} (h : LibOk w q n L) (k0 : Ky) (hi : ixK (L.map (·.k)) k0 = none) :
    Calls Tryz.prog 25 #[.slice q n c, .agg #[.string k0.1, .int .i64 k0.2]] w fun x w' => x = .returned (.tuple #[.slice none 0 0, .int .i64 90]) ∧ Below w.heap.size w w' := by
  have hb0 : Below w.heap.size w (w.alloc (.cells #[.string k0.1, .int .i64 k0.2] 24)) := below_one _ _
  have hcall := rfind_ok c (h.below hb0) k0
  unfold fndV at hcall
  rw [hi] at hcall
  simp only at hcall
  clear h hi
  go_enter Tryz.func25, Tryz.ntmps25
  go_wp2_with (go_at_call 8; refine hcall.mono ?_; rintro x w5 ⟨rfl, hb5⟩)
  go_ret2
  exact ⟨rfl, hb0.trans (hb5.mono hb0.size)⟩

set_option maxRecDepth 100000 in
theorem none24 {w : World} {q : Option Addr} {n c : Nat} (k0 : Ky)
    (hR : ∀ (z : World), Below w.heap.size w z → Calls Tryz.prog 22 #[.slice q n c, .agg #[.string k0.1, .int .i64 k0.2]] z fun x w' => ∃ q' c', x = .returned (.tuple #[.slice q' 0 c', .int .i64 90]) ∧ Below z.heap.size z w') :
    Calls Tryz.prog 24 #[.slice q n c, .agg #[.string k0.1, .int .i64 k0.2]] w fun x w' => x = .returned (.tuple #[.slice none 0 0, .int .i64 90]) ∧ Below w.heap.size w w' := by
  have hb0 : Below w.heap.size w (w.alloc (.cells #[.string k0.1, .int .i64 k0.2] 24)) := below_one _ _
  have hcall := hR _ hb0
  clear hR
  go_enter Tryz.func24, Tryz.ntmps24
  go_wp2_with (go_at_call 22; refine hcall.mono ?_; rintro x w5 ⟨q5, c5, rfl, hb5⟩)
  go_ret2
  exact ⟨rfl, hb0.trans (hb5.mono hb0.size)⟩

theorem ks_nil (w : World) : KsOk w none 0 0 [] := ⟨rfl, Nat.le_refl _, Nat.zero_le _, .inl ⟨rfl, rfl, rfl⟩⟩

/-- Needs of the program. -/
theorem needs_ok {w : World} {q : Option Addr} {n : Nat} (c : Nat) {L : List En} {U : Lb} (h : LibOk w q n L) (hU : LibU w L U) (k0 : Ky) :
    Calls Tryz.prog 23 #[.slice q n c, .agg #[.string k0.1, .int .i64 k0.2]] w fun x w' => ∃ q' c', x = .returned (.tuple #[.slice q' (U.nd k0).length c', .int .i64 (U.res k0).2]) ∧ KsOk w' q' (U.nd k0).length c' (U.nd k0) ∧ Below w.heap.size w w' := by
  cases hi : ixK (L.map (·.k)) k0 with
  | none =>
    have hi' : ixK (U.map (·.1)) k0 = none := by rw [hU.keys]; exact hi
    rw [Lb.nd_none hi', Lb.res_none hi']
    exact (none23 c h k0 hi).mono fun x w' hx => ⟨none, 0, hx.1, ks_nil _, hx.2⟩
  | some i0 =>
    have hi' : ixK (U.map (·.1)) k0 = some i0 := by rw [hU.keys]; exact hi
    obtain ⟨b, o, rfl, hb, hx⟩ := h.block hi
    rw [Lb.nd_some hi', Lb.res_some hi']
    refine (needs_some b o n c h hU k0 i0 hi hb hx).mono ?_
    rintro x w' ⟨q', c', N, rfl, hk, ha, hm, hb'⟩
    rw [← needs_eq ha hm]
    exact ⟨q', c', rfl, hk, hb'⟩
/-- Needs of the reference. -/
theorem rneeds_ok {w : World} {q : Option Addr} {n : Nat} (c : Nat) {L : List En} {U : Lb} (h : LibOk w q n L) (hU : LibU w L U) (k0 : Ky) :
    Calls Tryz.prog 24 #[.slice q n c, .agg #[.string k0.1, .int .i64 k0.2]] w fun x w' => ∃ q' c', x = .returned (.tuple #[.slice q' (U.nd k0).length c', .int .i64 (U.res k0).2]) ∧ KsOk w' q' (U.nd k0).length c' (U.nd k0) ∧ Below w.heap.size w w' := by
  cases hi : ixK (U.map (·.1)) k0 with
  | none =>
    have hres := Lb.res_none hi
    rw [Lb.nd_none hi, hres]
    refine (none24 k0 fun z hz => ?_).mono fun x w' hx => ⟨none, 0, hx.1, ks_nil _, hx.2⟩
    refine (ruses_ok c (h.below hz) (hU.below hz) k0).mono ?_
    rw [hres]
    rintro x w' ⟨q', c', rfl, _, hb'⟩
    exact ⟨q', c', rfl, hb'⟩
  | some i0 =>
    rw [Lb.nd_some hi, Lb.res_some hi]
    have hl : U.all.length ≤ 1048576 := by rw [Lb.all_len]; exact hU.2.1
    refine (rneeds_walk (c := c) hl k0 i0 hi fun z k hz => ruses_ok c (h.below hz) (hU.below hz) k).mono ?_
    rintro x w' ⟨q', c', N, rfl, hk, ha, hm, hb'⟩
    rw [← needs_eq ha hm]
    exact ⟨q', c', rfl, hk, hb'⟩
/-- Users of the program. -/
theorem users_ok {w : World} {q : Option Addr} {n : Nat} (c : Nat) {L : List En} {U : Lb} (h : LibOk w q n L) (hU : LibU w L U) (k0 : Ky) :
    Calls Tryz.prog 20 #[.slice q n c, .agg #[.string k0.1, .int .i64 k0.2]] w fun x w' => ∃ q' c', x = .returned (.tuple #[.slice q' (U.us k0).length c', .int .i64 (U.res k0).2]) ∧ KsOk w' q' (U.us k0).length c' (U.us k0) ∧ Below w.heap.size w w' := by
  cases hi : ixK (L.map (·.k)) k0 with
  | none =>
    have hi' : ixK (U.map (·.1)) k0 = none := by rw [hU.keys]; exact hi
    rw [Lb.us_none hi', Lb.res_none hi']
    exact (none20 c h k0 hi).mono fun x w' hx => ⟨none, 0, hx.1, ks_nil _, hx.2⟩
  | some i0 =>
    have hi' : ixK (U.map (·.1)) k0 = some i0 := by rw [hU.keys]; exact hi
    obtain ⟨b, o, rfl, hb, hx⟩ := h.block hi
    rw [Lb.us_some hi', Lb.res_some hi']
    exact users_some b o n c h hU k0 i0 hi hb hx
/-- Users of the reference. -/
theorem rusers_ok {w : World} {q : Option Addr} {n : Nat} (c : Nat) {L : List En} {U : Lb} (h : LibOk w q n L) (hU : LibU w L U) (k0 : Ky) :
    Calls Tryz.prog 25 #[.slice q n c, .agg #[.string k0.1, .int .i64 k0.2]] w fun x w' => ∃ q' c', x = .returned (.tuple #[.slice q' (U.us k0).length c', .int .i64 (U.res k0).2]) ∧ KsOk w' q' (U.us k0).length c' (U.us k0) ∧ Below w.heap.size w w' := by
  cases hi : ixK (L.map (·.k)) k0 with
  | none =>
    have hi' : ixK (U.map (·.1)) k0 = none := by rw [hU.keys]; exact hi
    rw [Lb.us_none hi', Lb.res_none hi']
    exact (none25 c h k0 hi).mono fun x w' hx => ⟨none, 0, hx.1, ks_nil _, hx.2⟩
  | some i0 =>
    have hi' : ixK (U.map (·.1)) k0 = some i0 := by rw [hU.keys]; exact hi
    obtain ⟨b, o, rfl, hb, hx⟩ := h.block hi
    rw [Lb.us_some hi', Lb.res_some hi']
    exact rusers_some b o n c h hU k0 i0 hi hb hx

set_option maxRecDepth 100000 in
set_option maxHeartbeats 4000000 in
/-- LibraryUses out of its callees. -/
theorem law_uses {w : World} {q : Option Addr} {n c : Nat} {kn : ByteArray} {kv e : Int} {K M N : List Ky} (hK : K.length ≤ 1048576) (hM : M.length ≤ 1048576) (hN : N.length ≤ 1048576)
    (h19 : ∀ z, Below w.heap.size w z → Calls Tryz.prog 19 #[.slice q n c, .agg #[.string kn, .int .i64 kv]] z fun x w' => ∃ q' c', x = .returned (.tuple #[.slice q' K.length c', .int .i64 e]) ∧ KsOk w' q' K.length c' K ∧ Below z.heap.size z w')
    (h22 : ∀ z, Below w.heap.size w z → Calls Tryz.prog 22 #[.slice q n c, .agg #[.string kn, .int .i64 kv]] z fun x w' => ∃ q' c', x = .returned (.tuple #[.slice q' K.length c', .int .i64 e]) ∧ KsOk w' q' K.length c' K ∧ Below z.heap.size z w')
    (h23 : ∀ z, Below w.heap.size w z → Calls Tryz.prog 23 #[.slice q n c, .agg #[.string kn, .int .i64 kv]] z fun x w' => ∃ q' c', x = .returned (.tuple #[.slice q' M.length c', .int .i64 e]) ∧ KsOk w' q' M.length c' M ∧ Below z.heap.size z w')
    (h24 : ∀ z, Below w.heap.size w z → Calls Tryz.prog 24 #[.slice q n c, .agg #[.string kn, .int .i64 kv]] z fun x w' => ∃ q' c', x = .returned (.tuple #[.slice q' M.length c', .int .i64 e]) ∧ KsOk w' q' M.length c' M ∧ Below z.heap.size z w')
    (h20 : ∀ z, Below w.heap.size w z → Calls Tryz.prog 20 #[.slice q n c, .agg #[.string kn, .int .i64 kv]] z fun x w' => ∃ q' c', x = .returned (.tuple #[.slice q' N.length c', .int .i64 e]) ∧ KsOk w' q' N.length c' N ∧ Below z.heap.size z w')
    (h25 : ∀ z, Below w.heap.size w z → Calls Tryz.prog 25 #[.slice q n c, .agg #[.string kn, .int .i64 kv]] z fun x w' => ∃ q' c', x = .returned (.tuple #[.slice q' N.length c', .int .i64 e]) ∧ KsOk w' q' N.length c' N ∧ Below z.heap.size z w')
    (hA : ∀ z, Below w.heap.size w z → Calls Tryz.prog 14 #[] z fun e w' => e = .returned (.bool true) ∧ Below z.heap.size z w') :
    Calls Tryz.prog 6 #[.slice q n c, .agg #[.string kn, .int .i64 kv]] w fun e w' => e = .returned (.bool true) ∧ Below w.heap.size w w' := by
  have W1 : Below w.heap.size w (w.alloc (.cells #[.string kn, .int .i64 kv] 24)) := below_one _ _
  have e1 : (w.alloc (.cells #[.string kn, .int .i64 kv] 24)).cell? ⟨w.heap.size, 0, none⟩ = some (.string kn) := by simp
  have e2 : (w.alloc (.cells #[.string kn, .int .i64 kv] 24)).cell? ⟨w.heap.size, 1, none⟩ = some (.int .i64 kv) := by simp
  have ez : w.heap.size < (w.alloc (.cells #[.string kn, .int .i64 kv] 24)).heap.size := by simp
  by_cases hn : 60 < n
  · have hn' : (60 : Int) < (n : Int) := by omega
    go_enter Tryz.func6, Tryz.ntmps6
    go_wp2_with (go_at_call 14; refine (hA _ W1).mono ?_; rintro x w9 ⟨rfl, hb9⟩)
    go_ret
    exact ⟨rfl, W1.trans (hb9.mono W1.size)⟩
  have hn' : ¬ (60 : Int) < (n : Int) := by omega
  go_enter Tryz.func6, Tryz.ntmps6
  go_wp2_with (first
    | (go_at_call 19; refine (h19 _ W1).mono ?_; rintro x w2 ⟨q2, c2, rfl, hk2, hb2⟩
       have W2 := W1.trans (hb2.mono W1.size)
       have d12 : w2.cell? ⟨w.heap.size, 0, none⟩ = some (.string kn) := (hb2.cell ez).trans e1
       have d22 : w2.cell? ⟨w.heap.size, 1, none⟩ = some (.int .i64 kv) := (hb2.cell ez).trans e2
       have dz2 : w.heap.size < w2.heap.size := Nat.lt_of_lt_of_le ez hb2.size
       have hk2 := hid_of hk2
       clear e1 e2 ez h19)
    | (go_at_call 22; refine (h22 _ W2).mono ?_; rintro x w3 ⟨q3, c3, rfl, hk3, hb3⟩
       have W3 := W2.trans (hb3.mono W2.size)
       have d13 : w3.cell? ⟨w.heap.size, 0, none⟩ = some (.string kn) := (hb3.cell dz2).trans d12
       have d23 : w3.cell? ⟨w.heap.size, 1, none⟩ = some (.int .i64 kv) := (hb3.cell dz2).trans d22
       have dz3 : w.heap.size < w3.heap.size := Nat.lt_of_lt_of_le dz2 hb3.size
       have hk3 := hid_of hk3
       clear d12 d22 dz2 h22)
    | (go_at_call 23; refine (h23 _ W3).mono ?_; rintro x w4 ⟨q4, c4, rfl, hk4, hb4⟩
       have W4 := W3.trans (hb4.mono W3.size)
       have d14 : w4.cell? ⟨w.heap.size, 0, none⟩ = some (.string kn) := (hb4.cell dz3).trans d13
       have d24 : w4.cell? ⟨w.heap.size, 1, none⟩ = some (.int .i64 kv) := (hb4.cell dz3).trans d23
       have dz4 : w.heap.size < w4.heap.size := Nat.lt_of_lt_of_le dz3 hb4.size
       have hk4 := hid_of hk4
       clear d13 d23 dz3 h23)
    | (go_at_call 24; refine (h24 _ W4).mono ?_; rintro x w5 ⟨q5, c5, rfl, hk5, hb5⟩
       have W5 := W4.trans (hb5.mono W4.size)
       have d15 : w5.cell? ⟨w.heap.size, 0, none⟩ = some (.string kn) := (hb5.cell dz4).trans d14
       have d25 : w5.cell? ⟨w.heap.size, 1, none⟩ = some (.int .i64 kv) := (hb5.cell dz4).trans d24
       have dz5 : w.heap.size < w5.heap.size := Nat.lt_of_lt_of_le dz4 hb5.size
       have hk5 := hid_of hk5
       clear d14 d24 dz4 h24)
    | (go_at_call 20; refine (h20 _ W5).mono ?_; rintro x w6 ⟨q6, c6, rfl, hk6, hb6⟩
       have W6 := W5.trans (hb6.mono W5.size)
       have d16 : w6.cell? ⟨w.heap.size, 0, none⟩ = some (.string kn) := (hb6.cell dz5).trans d15
       have d26 : w6.cell? ⟨w.heap.size, 1, none⟩ = some (.int .i64 kv) := (hb6.cell dz5).trans d25
       have dz6 : w.heap.size < w6.heap.size := Nat.lt_of_lt_of_le dz5 hb6.size
       have hk6 := hid_of hk6
       clear d15 d25 dz5 h20)
    | (go_at_call 25; refine (h25 _ W6).mono ?_; rintro x w7 ⟨q7, c7, rfl, hk7, hb7⟩
       have W7 := W6.trans (hb7.mono W6.size)
       have hk7 := hid_of hk7
       clear d16 d26 dz6 h25))
  have hs8 := same_ok hK ((((((hk2.out.below hb3).below hb4).below hb5).below hb6).below hb7)) ((((hk3.out.below hb4).below hb5).below hb6).below hb7)
  have hs9 := fun (z : World) (hb8 : Below w7.heap.size w7 z) => same_ok hM ((((hk4.out.below hb5).below hb6).below hb7).below hb8) (((hk5.out.below hb6).below hb7).below hb8)
  have hs10 := fun (z : World) (hb8 : Below w7.heap.size w7 z) => same_ok hN (((hk6.out.below hb7).below hb8)) ((hk7.out.below hb8))
  clear hk2 hk3 hk4 hk5 hk6 hk7 hb2 hb3 hb4 hb5 hb6 hb7 hK hM hN W1 W2 W3 W4 W5 W6
  go_wp2_with (first
    | (go_at_call 11; refine hs8.mono ?_; rintro x w8 ⟨rfl, hb8⟩
       have W8 := W7.trans (hb8.mono W7.size)
       clear hs8)
    | (go_at_call 11; refine (hs9 _ hb8).mono ?_; rintro x w9 ⟨rfl, hb9⟩
       have W9 := W8.trans (hb9.mono W8.size)
       have hb89 := hb8.trans (hb9.mono hb8.size)
       clear hs9)
    | (go_at_call 11; refine (hs10 _ hb89).mono ?_; rintro x w10 ⟨rfl, hb10⟩
       have W10 := W9.trans (hb10.mono W9.size)
       clear hs10)
    | (go_at_call 14; refine (hA _ W10).mono ?_; rintro x w11 ⟨rfl, hb11⟩))
  go_ret
  exact ⟨rfl, W10.trans (hb11.mono W10.size)⟩

/-- LibraryUses returns true. -/
theorem uses_lib_ok {w : World} {q : Option Addr} {n : Nat} (c : Nat) {L : List En} {U : Lb} (h : LibOk w q n L) (hU : LibU w L U) (k0 : Ky)
    (hA : ∀ z, Below w.heap.size w z → Calls Tryz.prog 14 #[] z fun e w' => e = .returned (.bool true) ∧ Below z.heap.size z w') :
    Calls Tryz.prog 6 #[.slice q n c, .agg #[.string k0.1, .int .i64 k0.2]] w fun e w' => e = .returned (.bool true) ∧ Below w.heap.size w w' := by
  have hl : U.all.length ≤ 1048576 := by rw [Lb.all_len]; exact hU.2.1
  have hu : List.length U ≤ 1048576 := by
    have h1 : List.length U = List.length L := hU.1
    have h2 := h.1
    have h3 := h.2.1
    omega
  exact law_uses (K := (U.res k0).1) (M := U.nd k0) (N := U.us k0) (e := (U.res k0).2) (by rw [← Lb.of_eq]; exact Nat.le_trans (Lb.of_len U k0) hl) (Nat.le_trans (U.nd_len k0) hl) (Nat.le_trans (U.us_len k0) hu)
    (fun z hz => puses_ok c (h.below hz) (hU.below hz) k0) (fun z hz => ruses_ok c (h.below hz) (hU.below hz) k0)
    (fun z hz => needs_ok c (h.below hz) (hU.below hz) k0) (fun z hz => rneeds_ok c (h.below hz) (hU.below hz) k0)
    (fun z hz => users_ok c (h.below hz) (hU.below hz) k0) (fun z hz => rusers_ok c (h.below hz) (hU.below hz) k0) hA
end Go.Proofs.YtfhjhnofkaiceaaGreatDoor
