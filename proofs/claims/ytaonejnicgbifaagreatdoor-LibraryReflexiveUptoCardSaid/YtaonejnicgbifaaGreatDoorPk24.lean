import Derived.WalkSmall
import Derived.Test.YtaonejnicgbifaaGreatDoorPk23
namespace Go.Proofs.YtaonejnicgbifaaGreatDoor
open Go Go.RowKit

theorem mkD_pos {n d : Int} (hn : 0 ≤ n) (hd : 0 < d) : 0 < mkD n d := by
  unfold mkD
  split
  · decide
  · rename_i h
    have hn0 : 0 < n := by omega
    have hg := gcdI_pos (b := d) hn0
    exact Int.ediv_pos_of_pos_of_dvd hd (Int.le_of_lt hg) (gcdI_dvd hn (Int.le_of_lt hd)).2
theorem mkN_nn {n d : Int} (hn : 0 ≤ n) (hd : 0 ≤ d) : 0 ≤ mkN n d := (mkN_le hn hd).2.2.1
theorem mkG_zero {g : Bool} {n d : Int} (hn : 0 ≤ n) (hd : 0 < d) (h : mkN n d = 0) : mkG g n d = false := by
  unfold mkG
  unfold mkN at h
  split
  · rfl
  · rename_i h1
    rw [if_neg h1] at h
    have hn0 : 0 < n := by omega
    have hg := gcdI_pos (b := d) hn0
    have hdv : gcdI n d ∣ n := (gcdI_dvd hn (Int.le_of_lt hd)).1
    have := Int.ediv_pos_of_pos_of_dvd hn0 (Int.le_of_lt hg) hdv
    omega
theorem denI_of_pos {d : Int} (h : 0 < d) : denI d = d := by
  unfold denI
  rw [if_neg (by omega)]
/-- Frac.Cmp is the sign of the difference. -/
theorem fcS_sgn {g1 g2 : Bool} {n1 d1 n2 d2 : Int} (h1 : 0 ≤ n1) (h2 : 0 < d1) (h3 : 0 ≤ n2) (h4 : 0 < d2) (e1 : n1 = 0 → g1 = false) (e2 : n2 = 0 → g2 = false) :
    fcS g1 n1 d1 g2 n2 d2 = sgnI (sg g1 * (n1 * denI d2) - sg g2 * (n2 * denI d1)) := by
  rw [denI_of_pos h2, denI_of_pos h4]
  have a0 : 0 ≤ n1 * d2 := Int.mul_nonneg h1 (Int.le_of_lt h4)
  have b0 : 0 ≤ n2 * d1 := Int.mul_nonneg h3 (Int.le_of_lt h2)
  have a1 : ¬ n1 = 0 → 0 < n1 * d2 := fun h => Int.mul_pos (by omega) h4
  have b1 : ¬ n2 = 0 → 0 < n2 * d1 := fun h => Int.mul_pos (by omega) h2
  have a2 : n1 = 0 → n1 * d2 = 0 := fun h => by rw [h]; simp
  have b2 : n2 = 0 → n2 * d1 = 0 := fun h => by rw [h]; simp
  unfold fcS sgF sgnI sg cmp3
  generalize n1 * d2 = a at *
  generalize n2 * d1 = b at *
  by_cases z1 : n1 = 0 <;> by_cases z2 : n2 = 0
  · rw [e1 z1, e2 z2, a2 z1, b2 z2]; simp [z1, z2]
  · rw [e1 z1, a2 z1]
    have := b1 z2
    cases g2 <;> simp [z1, z2] <;> (repeat' split) <;> omega
  · rw [e2 z2, b2 z2]
    have := a1 z1
    cases g1 <;> simp [z1, z2] <;> (repeat' split) <;> omega
  · have := a1 z1
    have := b1 z2
    cases g1 <;> cases g2 <;> simp [z1, z2] <;> (repeat' split) <;> omega
/-- The ends of an interval, as fractions. -/
structure IvC.Nn (c : IvC) : Prop where
  n1 : 0 ≤ c.n1
  d1 : 0 ≤ c.d1
  n2 : 0 ≤ c.n2
  d2 : 0 ≤ c.d2
theorem fcS_lohi {g g' : Bool} {n d n' d' : Int} (h1 : 0 ≤ n) (h2 : 0 ≤ d) (h3 : 0 ≤ n') (h4 : 0 ≤ d') :
    fcS (mkG g n (denI d)) (mkN n (denI d)) (mkD n (denI d)) (mkG g' n' (denI d')) (mkN n' (denI d')) (mkD n' (denI d')) =
      qS (mkG g n (denI d), mkN n (denI d), mkD n (denI d)) (mkG g' n' (denI d'), mkN n' (denI d'), mkD n' (denI d')) := by
  have p1 := denI_pos h2
  have p2 := denI_pos h4
  exact fcS_sgn (mkN_nn h1 (Int.le_of_lt p1)) (mkD_pos h1 p1) (mkN_nn h3 (Int.le_of_lt p2)) (mkD_pos h3 p2) (mkG_zero h1 p1) (mkG_zero h3 p2)
/-- What the reference's Within says by values. -/
def IvV.wi (s t : IvV) : Bool := if s.em || t.em then s.em else
  ((t.li || (!s.li && decide (qS (t.g1, t.n1, t.d1) (s.g1, s.n1, s.d1) ≤ 0))) && (t.hh || (!s.hh && decide (qS (s.g2, s.n2, s.d2) (t.g2, t.n2, t.d2) ≤ 0))))
end Go.Proofs.YtaonejnicgbifaaGreatDoor
namespace Go.Proofs.YtaonejnicgbifaaGreatDoor
open Go Go.RowKit

theorem bxOk_long {n : Nat} {bs : Nat → Si} (h : ¬ n ≤ 6) : bxOk n bs = false := by
  unfold bxOk
  rw [decide_eq_false h]
  rfl
set_option maxRecDepth 100000 in
theorem encValid_long {w : World} (q : Option Addr) (n c : Nat) (hn : ¬ n ≤ 6) : Calls Tryz.prog 25 #[.slice q n c] w fun e w' => e = .returned (.bool false) ∧ w' = w := by
  have hn' : (n : Int) > 6 := by omega
  go_enter Tryz.func25, Tryz.ntmps25
  go_wp2_with fail
  go_ret
  exact ⟨rfl, rfl⟩
set_option maxRecDepth 100000 in
theorem encValid_none {w : World} (q : Option Addr) (c : Nat) : Calls Tryz.prog 25 #[.slice q 0 c] w fun e w' => e = .returned (.bool true) ∧ w' = w := by
  go_enter Tryz.func25, Tryz.ntmps25
  go_wp2_with fail
  refine wp_loop_once ?_
  go_wp2_with fail
  go_ret
  exact ⟨rfl, rfl⟩
/-- enclose.Valid. -/
theorem encValid_ok {w : World} {q : Option Addr} {n : Nat} (c : Nat) {bs : Nat → Si} (h : SisOk w q n bs) (hT : Tb w) : Calls Tryz.prog 25 #[.slice q n c] w fun e w' => e = .returned (.bool (bxOk n bs)) ∧ Below w.heap.size w w' := by
  by_cases hn : n ≤ 6
  · rcases h with rfl | ⟨b, o, rfl, hlt, ds, hds⟩
    · refine (encValid_none q c).mono ?_
      rintro x w' ⟨rfl, rfl⟩
      exact ⟨by rw [bxOk_yes (by omega) (fun j hj => by omega)], Below.refl _ _⟩
    · exact encValid_walk b o n c bs ds hn hlt hds hT
  · refine (encValid_long q n c hn).mono ?_
    rintro x w' ⟨rfl, rfl⟩
    exact ⟨by rw [bxOk_long hn], Below.refl _ _⟩
end Go.Proofs.YtaonejnicgbifaaGreatDoor
namespace Go.Proofs.YtaonejnicgbifaaGreatDoor
open Go Go.RowKit

/-- The place of the first side with a name. -/
def sdIx (n : Nat) (bs : Nat → Si) (s : ByteArray) : Option Nat := (List.range n).find? fun i => decide ((bs i).m = s)
def ixV (o : Option Nat) : Int := match o with | some i => i | none => -1
theorem sdIx_some {n : Nat} {bs : Nat → Si} {s : ByteArray} {k : Nat} (hk : k < n) (h : (bs k).m = s) (hb : ∀ j, j < k → ¬ (bs j).m = s) : sdIx n bs s = some k := by
  unfold sdIx
  rw [List.find?_eq_some_iff_getElem]
  refine ⟨by simp [h], k, by simpa using hk, by simp, fun j hj => ?_⟩
  simpa using hb j hj
theorem sdIx_none {n : Nat} {bs : Nat → Si} {s : ByteArray} (hb : ∀ j, j < n → ¬ (bs j).m = s) : sdIx n bs s = none := by
  unfold sdIx
  rw [List.find?_eq_none]
  intro j hj
  simpa using hb j (List.mem_range.1 hj)
theorem sdIx_get {n : Nat} {bs : Nat → Si} {s : ByteArray} {k : Nat} (h : sdIx n bs s = some k) : k < n ∧ (bs k).m = s ∧ ∀ j, j < k → ¬ (bs j).m = s := by
  unfold sdIx at h
  rw [List.find?_eq_some_iff_getElem] at h
  obtain ⟨h1, i, hi, h2, h3⟩ := h
  simp only [List.getElem_range] at h2
  subst h2
  refine ⟨by simpa using hi, by simpa using h1, fun j hj => ?_⟩
  simpa using h3 j hj
theorem str_eq (a b : ByteArray) : (a.toList == b.toList) = decide (a = b) := by
  by_cases h : a = b
  · simp [h]
  · rw [decide_eq_false h]
    rw [beq_eq_false_iff_ne]
    exact fun e => h (name_inj e)
theorem si_row : ∃ d, Tryz.prog.underlying 58 = some d ∧ d.isRow = true := ⟨_, Tryz.underlying58, rfl⟩
theorem si_size : (Tryz.prog.info? 58).map (·.size) = some 9 := by kernel_rfl
theorem Si.one' (s : Si) (d : Sv) : (s.cells d).toArray.all (·.oneCell') = true := by
  rw [List.all_toArray, List.all_eq_true]
  exact Si.one s d

set_option maxRecDepth 100000 in
/-- The closure 83. -/
theorem sd83_ok {w : World} (s : Si) (d : Sv) (nm : ByteArray) (B : Nat) (hB : B < w.heap.size) (hk : w.cell? ⟨B, 0, none⟩ = some (.string nm)) :
    Calls Tryz.prog 83 #[.agg (s.cells d).toArray, .pointer (some ⟨B, 0, none⟩)] w fun e w' => e = .returned (.bool (decide (s.m = nm))) ∧ Below w.heap.size w w' := by
  have hb0 : Below w.heap.size w (w.alloc (.cells (s.cells d).toArray 58)) := below_alloc w _
  have y0 : (w.alloc (.cells (s.cells d).toArray 58)).cell? ⟨w.heap.size, 0, none⟩ = some (.string s.m) := by
    have h : BlkI (w.alloc (.cells (s.cells d).toArray 58)) w.heap.size 58 (s.cells d).toArray := heap_alloc_new _ _
    rw [h.cell]; rfl
  have hk' := (hb0.cell (p := ⟨B, 0, none⟩) hB).trans hk
  have he := str_eq s.m nm
  generalize decide (s.m = nm) = R at *
  have hone := Si.one' s d
  clear hk
  unfold Si.cells Si.iv at *
  go_enter Tryz.func83, Tryz.ntmps83
  go_wp2_with fail
  go_ret
  exact ⟨rfl, hb0⟩

set_option maxRecDepth 100000 in
/-- The closure 30. -/
theorem sd30_ok {w : World} (s : Si) (d : Sv) (nm : ByteArray) (B : Nat) (hB : B < w.heap.size) (hk : w.cell? ⟨B, 0, none⟩ = some (.string nm)) :
    Calls Tryz.prog 30 #[.agg (s.cells d).toArray, .pointer (some ⟨B, 0, none⟩)] w fun e w' => e = .returned (.bool (decide (s.m = nm))) ∧ Below w.heap.size w w' := by
  have hb0 : Below w.heap.size w (w.alloc (.cells (s.cells d).toArray 58)) := below_alloc w _
  have y0 : (w.alloc (.cells (s.cells d).toArray 58)).cell? ⟨w.heap.size, 0, none⟩ = some (.string s.m) := by
    have h : BlkI (w.alloc (.cells (s.cells d).toArray 58)) w.heap.size 58 (s.cells d).toArray := heap_alloc_new _ _
    rw [h.cell]; rfl
  have hk' := (hb0.cell (p := ⟨B, 0, none⟩) hB).trans hk
  have he := str_eq s.m nm
  generalize decide (s.m = nm) = R at *
  have hone := Si.one' s d
  clear hk
  unfold Si.cells Si.iv at *
  go_enter Tryz.func30, Tryz.ntmps30
  go_wp2_with fail
  go_ret
  exact ⟨rfl, hb0⟩

set_option maxRecDepth 100000 in
/-- slices.IndexFunc over no sides. -/
theorem idxSd_none {w : World} (q : Option Addr) (c : Nat) (f : Value) :
    Calls Tryz.prog 29 #[.slice q 0 c, f] w fun x w' => x = .returned (.int .i64 (-1)) ∧ w' = w := by
  go_enter Tryz.func29, Tryz.ntmps29
  go_wp2_with fail
  refine wp_loop_once ?_
  go_wp2_with fail
  go_ret
  exact ⟨rfl, rfl⟩

set_option maxRecDepth 100000 in
set_option maxHeartbeats 1000000 in
/-- slices.IndexFunc over sides with the closure 83. -/
theorem idx83_walk {w : World} (b o n c : Nat) (bs : Nat → Si) (ds : Nat → Sv) (hn : n ≤ 1048576) (hb : b < w.heap.size) (hx : ∀ i, i < n → w.rangeAt b (o + i * 9) ((bs i).cells (ds i)))
    (s : ByteArray) (B : Nat) (hB : B < w.heap.size) (hk : w.cell? ⟨B, 0, none⟩ = some (.string s)) :
    Calls Tryz.prog 29 #[.slice (some ⟨b, o, none⟩) n c, .func (.func 83) #[] #[.pointer (some ⟨B, 0, none⟩)]] w fun x w' => x = .returned (.int .i64 (ixV (sdIx n bs s))) ∧ Below w.heap.size w w' := by
  have hx' : Hid (∀ i, i < n → w.rangeAt b (o + i * 9) ((bs i).cells (ds i))) := hx
  obtain ⟨dd, hu, hd⟩ := si_row
  have hHu : Hid (Tryz.prog.underlying 58 = some dd) := hu
  have hk' : Hid (w.cell? ⟨B, 0, none⟩ = some (.string s)) := hk
  clear hx hu hk
  go_enter Tryz.func29, Tryz.ntmps29
  go_wp2_with fail
  go_loopw [8] (fun i wr => ∃ k : Nat, k ≤ n ∧ i = .int .i64 k ∧ (∀ j, j < k → ¬ (bs j).m = s) ∧ Below w.heap.size w wr) (fun i _ => n - (intOf i).toNat)
  case atStart => exact ⟨0, Nat.zero_le _, rfl, fun j hj => by omega, Below.refl _ _⟩
  case round =>
    obtain ⟨k, hk, rfl, hlow, hbw⟩ := hrel
    have hlow' : Hid (∀ j, j < k → ¬ (bs j).m = s) := hlow
    clear hlow
    by_cases hlt : k < n
    · have hlt' : (k : Int) < (n : Int) := by omega
      have hx := rangeAt_below (hx'.out k hlt) hbw hb
      have lx := Si.len (bs k) (ds k)
      have ox' : Hid (((bs k).cells (ds k)).toArray.all (·.oneCell') = true) := Si.one' _ _
      have hcall := sd83_ok (w := wr) (bs k) (ds k) s B (Nat.lt_of_lt_of_le hB hbw.size) ((hbw.cell (p := ⟨B, 0, none⟩) hB).trans hk'.out)
      obtain ⟨M, hM⟩ : ∃ M, Hid ((bs k).m = M) := ⟨_, rfl⟩
      rw [hM.out] at hcall
      generalize (bs k).cells (ds k) = cx at *
      by_cases hq : M = s
      · rw [decide_eq_true hq] at hcall
        have hq' : Hid (M = s) := hq
        clear hq
        go_wp2_with (first
          | (with_reducible refine wpList_load_mid (op := ⟨some 15, _, _, _, _, _⟩) ?_ 58 (.tmp 14) ?_ (b) (o + k * 9) ?_ cx dd ?_ hHu.out hd ?_ ?_
             rotate_left 1
             · with_reducible rfl
             · kernel_rfl
             · exact hx
             · (rw [lx]; exact si_size)
             rotate_left 1
             · rfl)
          | (go_at_call 83; refine hcall.mono ?_; rintro x w5 ⟨rfl, hb5⟩))
        go_ret
        refine ⟨?_, hbw.trans (hb5.mono hbw.size)⟩
        rw [sdIx_some hlt (hM.out.trans hq'.out) hlow'.out]
        rfl
      · rw [decide_eq_false hq] at hcall
        have hq' : Hid (¬ M = s) := hq
        clear hq
        go_wp2_with (first
          | (with_reducible refine wpList_load_mid (op := ⟨some 15, _, _, _, _, _⟩) ?_ 58 (.tmp 14) ?_ (b) (o + k * 9) ?_ cx dd ?_ hHu.out hd ?_ ?_
             rotate_left 1
             · with_reducible rfl
             · kernel_rfl
             · exact hx
             · (rw [lx]; exact si_size)
             rotate_left 1
             · rfl)
          | (go_at_call 83; refine hcall.mono ?_; rintro x w5 ⟨rfl, hb5⟩))
        go_roundw
        case rel =>
          refine ⟨k + 1, by omega, by go_num, fun j hj => ?_, hbw.trans (hb5.mono hbw.size)⟩
          rcases Nat.lt_or_ge j k with h | h
          · exact hlow'.out j h
          · obtain rfl : j = k := by omega
            rw [hM.out]
            exact hq'.out
        case measure => simp [intOf]; omega
    · obtain rfl : k = n := by omega
      go_wp2_with fail
      go_ret
      refine ⟨?_, hbw⟩
      rw [sdIx_none hlow'.out]
      rfl
theorem idx83_ok {w : World} {q : Option Addr} {n : Nat} (c : Nat) {bs : Nat → Si} (h : SisOk w q n bs) (hn : n ≤ 1048576) (s : ByteArray) (B : Nat) (hB : B < w.heap.size) (hk : w.cell? ⟨B, 0, none⟩ = some (.string s)) :
    Calls Tryz.prog 29 #[.slice q n c, .func (.func 83) #[] #[.pointer (some ⟨B, 0, none⟩)]] w fun x w' => x = .returned (.int .i64 (ixV (sdIx n bs s))) ∧ Below w.heap.size w w' := by
  rcases h with rfl | ⟨b, o, rfl, hlt, ds, hds⟩
  · refine (idxSd_none q c _).mono ?_
    rintro x w' ⟨rfl, rfl⟩
    exact ⟨rfl, Below.refl _ _⟩
  · exact idx83_walk b o n c bs ds hn hlt (fun i hi => (hds i hi).1) s B hB hk

set_option maxRecDepth 100000 in
set_option maxHeartbeats 1000000 in
/-- slices.IndexFunc over sides with the closure 30. -/
theorem idx30_walk {w : World} (b o n c : Nat) (bs : Nat → Si) (ds : Nat → Sv) (hn : n ≤ 1048576) (hb : b < w.heap.size) (hx : ∀ i, i < n → w.rangeAt b (o + i * 9) ((bs i).cells (ds i)))
    (s : ByteArray) (B : Nat) (hB : B < w.heap.size) (hk : w.cell? ⟨B, 0, none⟩ = some (.string s)) :
    Calls Tryz.prog 29 #[.slice (some ⟨b, o, none⟩) n c, .func (.func 30) #[] #[.pointer (some ⟨B, 0, none⟩)]] w fun x w' => x = .returned (.int .i64 (ixV (sdIx n bs s))) ∧ Below w.heap.size w w' := by
  have hx' : Hid (∀ i, i < n → w.rangeAt b (o + i * 9) ((bs i).cells (ds i))) := hx
  obtain ⟨dd, hu, hd⟩ := si_row
  have hHu : Hid (Tryz.prog.underlying 58 = some dd) := hu
  have hk' : Hid (w.cell? ⟨B, 0, none⟩ = some (.string s)) := hk
  clear hx hu hk
  go_enter Tryz.func29, Tryz.ntmps29
  go_wp2_with fail
  go_loopw [8] (fun i wr => ∃ k : Nat, k ≤ n ∧ i = .int .i64 k ∧ (∀ j, j < k → ¬ (bs j).m = s) ∧ Below w.heap.size w wr) (fun i _ => n - (intOf i).toNat)
  case atStart => exact ⟨0, Nat.zero_le _, rfl, fun j hj => by omega, Below.refl _ _⟩
  case round =>
    obtain ⟨k, hk, rfl, hlow, hbw⟩ := hrel
    have hlow' : Hid (∀ j, j < k → ¬ (bs j).m = s) := hlow
    clear hlow
    by_cases hlt : k < n
    · have hlt' : (k : Int) < (n : Int) := by omega
      have hx := rangeAt_below (hx'.out k hlt) hbw hb
      have lx := Si.len (bs k) (ds k)
      have ox' : Hid (((bs k).cells (ds k)).toArray.all (·.oneCell') = true) := Si.one' _ _
      have hcall := sd30_ok (w := wr) (bs k) (ds k) s B (Nat.lt_of_lt_of_le hB hbw.size) ((hbw.cell (p := ⟨B, 0, none⟩) hB).trans hk'.out)
      obtain ⟨M, hM⟩ : ∃ M, Hid ((bs k).m = M) := ⟨_, rfl⟩
      rw [hM.out] at hcall
      generalize (bs k).cells (ds k) = cx at *
      by_cases hq : M = s
      · rw [decide_eq_true hq] at hcall
        have hq' : Hid (M = s) := hq
        clear hq
        go_wp2_with (first
          | (with_reducible refine wpList_load_mid (op := ⟨some 15, _, _, _, _, _⟩) ?_ 58 (.tmp 14) ?_ (b) (o + k * 9) ?_ cx dd ?_ hHu.out hd ?_ ?_
             rotate_left 1
             · with_reducible rfl
             · kernel_rfl
             · exact hx
             · (rw [lx]; exact si_size)
             rotate_left 1
             · rfl)
          | (go_at_call 30; refine hcall.mono ?_; rintro x w5 ⟨rfl, hb5⟩))
        go_ret
        refine ⟨?_, hbw.trans (hb5.mono hbw.size)⟩
        rw [sdIx_some hlt (hM.out.trans hq'.out) hlow'.out]
        rfl
      · rw [decide_eq_false hq] at hcall
        have hq' : Hid (¬ M = s) := hq
        clear hq
        go_wp2_with (first
          | (with_reducible refine wpList_load_mid (op := ⟨some 15, _, _, _, _, _⟩) ?_ 58 (.tmp 14) ?_ (b) (o + k * 9) ?_ cx dd ?_ hHu.out hd ?_ ?_
             rotate_left 1
             · with_reducible rfl
             · kernel_rfl
             · exact hx
             · (rw [lx]; exact si_size)
             rotate_left 1
             · rfl)
          | (go_at_call 30; refine hcall.mono ?_; rintro x w5 ⟨rfl, hb5⟩))
        go_roundw
        case rel =>
          refine ⟨k + 1, by omega, by go_num, fun j hj => ?_, hbw.trans (hb5.mono hbw.size)⟩
          rcases Nat.lt_or_ge j k with h | h
          · exact hlow'.out j h
          · obtain rfl : j = k := by omega
            rw [hM.out]
            exact hq'.out
        case measure => simp [intOf]; omega
    · obtain rfl : k = n := by omega
      go_wp2_with fail
      go_ret
      refine ⟨?_, hbw⟩
      rw [sdIx_none hlow'.out]
      rfl
theorem idx30_ok {w : World} {q : Option Addr} {n : Nat} (c : Nat) {bs : Nat → Si} (h : SisOk w q n bs) (hn : n ≤ 1048576) (s : ByteArray) (B : Nat) (hB : B < w.heap.size) (hk : w.cell? ⟨B, 0, none⟩ = some (.string s)) :
    Calls Tryz.prog 29 #[.slice q n c, .func (.func 30) #[] #[.pointer (some ⟨B, 0, none⟩)]] w fun x w' => x = .returned (.int .i64 (ixV (sdIx n bs s))) ∧ Below w.heap.size w w' := by
  rcases h with rfl | ⟨b, o, rfl, hlt, ds, hds⟩
  · refine (idxSd_none q c _).mono ?_
    rintro x w' ⟨rfl, rfl⟩
    exact ⟨rfl, Below.refl _ _⟩
  · exact idx30_walk b o n c bs ds hn hlt (fun i hi => (hds i hi).1) s B hB hk

set_option maxRecDepth 100000 in
/-- claim.side. -/
theorem side_ok {w : World} {q : Option Addr} {n : Nat} (c : Nat) {bs : Nat → Si} (h : SisOk w q n bs) (hn : n ≤ 1048576) (s : ByteArray) :
    Calls Tryz.prog 53 #[.slice q n c, .string s] w fun x w' => x = .returned (.int .i64 (ixV (sdIx n bs s))) ∧ Below w.heap.size w w' := by
  have hb0 : Below w.heap.size w (w.alloc (.cells #[.string s] 9)) := below_one _ _
  have hcall := idx83_ok c (h.below hb0) hn s w.heap.size (by simp) (by simp)
  generalize ixV (sdIx n bs s) = r at *
  go_enter Tryz.func53, Tryz.ntmps53
  go_wp2_with (go_at_call 29; refine hcall.mono ?_; rintro x w5 ⟨rfl, hb5⟩)
  go_ret
  exact ⟨rfl, hb0.trans (hb5.mono (by simp))⟩

end Go.Proofs.YtaonejnicgbifaaGreatDoor
namespace Go.Proofs.YtaonejnicgbifaaGreatDoor
open Go Go.RowKit

/-- Every variable is the name of a side. -/
def cov (x : Ex) (n : Nat) (bs : Nat → Si) : Bool := x.nds.all fun p => !decide (p.1 = 2) || (sdIx n bs p.2).isSome
theorem cov_iff (x : Ex) (n : Nat) (bs : Nat → Si) : cov x n bs = true ↔ ∀ s, (2, s) ∈ x.nds → (sdIx n bs s).isSome = true := by
  unfold cov
  rw [List.all_eq_true]
  constructor
  · intro h s hs
    simpa using h _ hs
  · rintro h ⟨k, s⟩ hp
    by_cases hk : k = 2
    · subst hk
      simp [h s hp]
    · simp [hk]
theorem cov_false {x : Ex} {n : Nat} {bs : Nat → Si} {s : ByteArray} (h : (2, s) ∈ x.nds) (h2 : sdIx n bs s = none) : cov x n bs = false := by
  rw [Bool.eq_false_iff]
  intro hc
  have := (cov_iff x n bs).1 hc s h
  rw [h2] at this
  cases this
theorem ixV_lt (o : Option Nat) : decide (ixV o < 0) = !o.isSome := by
  cases o with
  | none => rfl
  | some i =>
    rw [decide_eq_false (show ¬ ixV (some i) < 0 from fun h => by simp only [ixV] at h; omega)]
    rfl
theorem cov_find {x : Ex} {n k : Nat} {bs : Nat → Si} {ns : Nat → ByteArray} (h : ∀ s, (∃ i, i < k ∧ ns i = s) ↔ (2, s) ∈ x.nds) : decide (ixV ((List.range k).find? fun i => !(sdIx n bs (ns i)).isSome) ≥ 0) = !cov x n bs := by
  cases hf : (List.range k).find? fun i => !(sdIx n bs (ns i)).isSome with
  | none =>
    rw [List.find?_eq_none] at hf
    have : cov x n bs = true := by
      rw [cov_iff]
      intro s hs
      obtain ⟨i, hi, rfl⟩ := (h s).2 hs
      have h1 := hf i (List.mem_range.2 hi)
      cases hq : (sdIx n bs (ns i)).isSome with
      | true => rfl
      | false => exact absurd (by rw [hq]; rfl) h1
    rw [this]
    rfl
  | some i =>
    have h1 := List.find?_some hf
    have h2 := List.mem_of_find?_eq_some hf
    rw [cov_false ((h (ns i)).1 ⟨i, List.mem_range.1 h2, rfl⟩) (by simpa using h1)]
    simp [ixV]

set_option maxRecDepth 100000 in
/-- The closure of claim.covered. -/
theorem cov52_ok {w : World} {q : Option Addr} {n : Nat} (c : Nat) {bs : Nat → Si} (h : SisOk w q n bs) (hn : n ≤ 1048576) (s : ByteArray) (B : Nat) (hB : B < w.heap.size) (hk : w.cell? ⟨B, 0, none⟩ = some (.slice q n c)) :
    Calls Tryz.prog 52 #[.string s, .pointer (some ⟨B, 0, none⟩)] w fun e w' => e = .returned (.bool (!(sdIx n bs s).isSome)) ∧ Below w.heap.size w w' := by
  have hcall := side_ok c h hn s
  rw [← ixV_lt]
  generalize ixV (sdIx n bs s) = r at *
  clear h
  go_enter Tryz.func52, Tryz.ntmps52
  go_wp2_with (go_at_call 53; with_reducible refine hcall.mono ?_; rintro x w5 ⟨rfl, hb5⟩)
  go_ret
  exact ⟨rfl, hb5⟩

set_option maxRecDepth 100000 in
set_option maxHeartbeats 1000000 in
/-- slices.IndexFunc over names with the closure of claim.covered. -/
theorem idx52_walk {w : World} (b o k ck : Nat) (ns : Nat → ByteArray) (hk0 : k ≤ 1048576) (hb : b < w.heap.size) (hx : ∀ i, i < k → w.cell? ⟨b, o + i, none⟩ = some (.string (ns i)))
    {q : Option Addr} {n c : Nat} {bs : Nat → Si} (h : SisOk w q n bs) (hn : n ≤ 1048576) (B : Nat) (hB : B < w.heap.size) (hk : w.cell? ⟨B, 0, none⟩ = some (.slice q n c)) :
    Calls Tryz.prog 82 #[.slice (some ⟨b, o, none⟩) k ck, .func (.func 52) #[] #[.pointer (some ⟨B, 0, none⟩)]] w fun x w' => x = .returned (.int .i64 (ixV ((List.range k).find? fun i => !(sdIx n bs (ns i)).isSome))) ∧ Below w.heap.size w w' := by
  have hx' : Hid (∀ i, i < k → w.cell? ⟨b, o + i, none⟩ = some (.string (ns i))) := hx
  have hk' : Hid (w.cell? ⟨B, 0, none⟩ = some (.slice q n c)) := hk
  have h' : Hid (SisOk w q n bs) := h
  clear hx hk h
  go_enter Tryz.func82, Tryz.ntmps82
  go_wp2_with fail
  go_loopw [8] (fun i wr => ∃ j : Nat, j ≤ k ∧ i = .int .i64 j ∧ Hid (∀ i, i < j → (sdIx n bs (ns i)).isSome = true) ∧ Below w.heap.size w wr) (fun i _ => k - (intOf i).toNat)
  case atStart => exact ⟨0, Nat.zero_le _, rfl, fun j hj => by omega, Below.refl _ _⟩
  case round =>
    obtain ⟨j, hj, rfl, hlow, hbw⟩ := hrel
    by_cases hlt : j < k
    · have hlt' : (j : Int) < (k : Int) := by omega
      have x0 := (hbw.cell (p := ⟨b, o + j, none⟩) hb).trans (hx'.out j hlt)
      have hcall := cov52_ok c (h'.out.below hbw) hn (ns j) B (Nat.lt_of_lt_of_le hB hbw.size) ((hbw.cell (p := ⟨B, 0, none⟩) hB).trans hk'.out)
      obtain ⟨R, hR⟩ : ∃ R, Hid ((sdIx n bs (ns j)).isSome = R) := ⟨_, rfl⟩
      rw [hR.out] at hcall
      cases R with
      | false =>
        go_wp2_with (go_at_call 52; with_reducible refine hcall.mono ?_; rintro x w5 ⟨rfl, hb5⟩)
        go_ret
        have hs : ((List.range k).find? fun i => !(sdIx n bs (ns i)).isSome) = some j := by
          rw [List.find?_eq_some_iff_getElem]
          refine ⟨by rw [hR.out]; rfl, j, by simpa using hlt, by simp, fun i hi => ?_⟩
          have := hlow.out i hi
          simp [this]
        exact ⟨by rw [hs]; rfl, hbw.trans (hb5.mono hbw.size)⟩
      | true =>
        go_wp2_with (go_at_call 52; with_reducible refine hcall.mono ?_; rintro x w5 ⟨rfl, hb5⟩)
        go_roundw
        case rel =>
          refine ⟨j + 1, by omega, by go_num, fun i hi => ?_, hbw.trans (hb5.mono hbw.size)⟩
          rcases Nat.lt_or_ge i j with h | h
          · exact hlow.out i h
          · obtain rfl : i = j := by omega
            exact hR.out
        case measure => simp [intOf]; omega
    · obtain rfl : j = k := by omega
      go_wp2_with fail
      go_ret
      have hs : ((List.range j).find? fun i => !(sdIx n bs (ns i)).isSome) = none := by
        rw [List.find?_eq_none]
        intro i hi
        simp [hlow.out i (List.mem_range.1 hi)]
      exact ⟨by rw [hs]; rfl, hbw⟩
set_option maxRecDepth 100000 in
theorem idx52_none {w : World} (q : Option Addr) (c : Nat) (f : Value) : Calls Tryz.prog 82 #[.slice q 0 c, f] w fun x w' => x = .returned (.int .i64 (-1)) ∧ w' = w := by
  go_enter Tryz.func82, Tryz.ntmps82
  go_wp2_with fail
  refine wp_loop_once ?_
  go_wp2_with fail
  go_ret
  exact ⟨rfl, rfl⟩
set_option maxRecDepth 100000 in
/-- slices.ContainsFunc over names with the closure of claim.covered. -/
theorem has52_ok {w : World} {q0 : Option Addr} {k ck : Nat} {ns : Nat → ByteArray} (hs : StrsOk w q0 k ns) (hk0 : k ≤ 1048576) {q : Option Addr} {n c : Nat} {bs : Nat → Si} (h : SisOk w q n bs) (hn : n ≤ 1048576) (B : Nat) (hB : B < w.heap.size) (hk : w.cell? ⟨B, 0, none⟩ = some (.slice q n c)) :
    Calls Tryz.prog 51 #[.slice q0 k ck, .func (.func 52) #[] #[.pointer (some ⟨B, 0, none⟩)]] w fun x w' => x = .returned (.bool (decide (ixV ((List.range k).find? fun i => !(sdIx n bs (ns i)).isSome) ≥ 0))) ∧ Below w.heap.size w w' := by
  have hcall : Calls Tryz.prog 82 #[.slice q0 k ck, .func (.func 52) #[] #[.pointer (some ⟨B, 0, none⟩)]] w fun x w' => x = .returned (.int .i64 (ixV ((List.range k).find? fun i => !(sdIx n bs (ns i)).isSome))) ∧ Below w.heap.size w w' := by
    rcases hs with rfl | ⟨b, o, rfl, hlt, hc⟩
    · refine (idx52_none q0 ck _).mono ?_
      rintro x w' ⟨rfl, rfl⟩
      exact ⟨rfl, Below.refl _ _⟩
    · exact idx52_walk b o k ck ns hk0 hlt hc h hn B hB hk
  generalize ixV _ = r at *
  clear hs h hk
  go_enter Tryz.func51, Tryz.ntmps51
  go_wp2_with (go_at_call 82; with_reducible refine hcall.mono ?_; rintro x w5 ⟨rfl, hb5⟩)
  go_ret
  exact ⟨rfl, hb5⟩

set_option maxRecDepth 100000 in
set_option maxHeartbeats 1000000 in
/-- claim.covered of a valid expression. -/
theorem covered_ok {w : World} {x : Ex} {d : Nd} {a : Nat} (hx : ExOk w x d) (hT : Tb w) (hv : x.cnt 1 0 = some a) {q : Option Addr} {n : Nat} (c : Nat) {bs : Nat → Si} (h : SisOk w q n bs) (hn : n ≤ 1048576) :
    Calls Tryz.prog 27 #[d.val, .slice q n c] w fun e w' => e = .returned (.bool (cov x n bs)) ∧ Below w.heap.size w w' := by
  have hb0 : Below w.heap.size w ((w.alloc (.cells #[.int .i64 d.k, .int .i64 d.f, .bool d.neg, .slice d.aq d.an d.ac, .slice d.cq d.cn d.cc, .string d.m, .slice d.sq d.sn d.sc] 30)).alloc (.cells #[.slice q n c] 31)) := below_two w _ _
  have hva := vars_valid (hx.below hb0) (hT.below hb0) hv
  simp only [Nd.val] at hva ⊢
  have hb0' : Hid (Below w.heap.size w ((w.alloc (.cells #[.int .i64 d.k, .int .i64 d.f, .bool d.neg, .slice d.aq d.an d.ac, .slice d.cq d.cn d.cc, .string d.m, .slice d.sq d.sn d.sc] 30)).alloc (.cells #[.slice q n c] 31))) := hb0
  have hh := fun z (hz : Below w.heap.size w z) q0 k ck ns (hs : StrsOk z q0 k ns) (hk : k ≤ 300) (hk1 : ∀ s, (∃ i, i < k ∧ ns i = s) ↔ (2, s) ∈ x.nds) (B : Nat) (hB : B < z.heap.size) (hk2 : z.cell? ⟨B, 0, none⟩ = some (.slice q n c)) =>
    (has52_ok (ck := ck) hs (by omega) (h.below hz) hn B hB hk2).mono (R' := fun e w' => e = .returned (.bool (!cov x n bs)) ∧ Below z.heap.size z w') fun e w' he => by rw [cov_find hk1] at he; exact he
  have hh' : Hid (∀ z, Below w.heap.size w z → ∀ q0 k ck ns, StrsOk z q0 k ns → k ≤ 300 → (∀ s, (∃ i, i < k ∧ ns i = s) ↔ (2, s) ∈ x.nds) → ∀ B, B < z.heap.size → z.cell? ⟨B, 0, none⟩ = some (.slice q n c) → Calls Tryz.prog 51 #[.slice q0 k ck, .func (.func 52) #[] #[.pointer (some ⟨B, 0, none⟩)]] z fun e w' => e = .returned (.bool (!cov x n bs)) ∧ Below z.heap.size z w') := hh
  generalize cov x n bs = R at *
  clear hh hb0 h hx
  go_enter Tryz.func27, Tryz.ntmps27
  go_wp2_with (first
    | (go_at_call 50; with_reducible refine hva.mono ?_; rintro e w3 ⟨⟨q0, k, ck, ns, rfl, g1, g2, g3⟩, hb3⟩
       have y0 : w3.cell? ⟨w.heap.size + 1, 0, none⟩ = some (.slice q n c) := (hb3.cell (p := ⟨w.heap.size + 1, 0, none⟩) (by show w.heap.size + 1 < _; simp)).trans (by simp)
       have hlt3 : w.heap.size + 1 < w3.heap.size := Nat.lt_of_lt_of_le (by simp) hb3.size
       have hw3 : Hid (Below w.heap.size w w3) := hb0'.out.trans (hb3.mono hb0'.out.size)
       have hc3 := hh'.out w3 hw3.out q0 k ck ns g1 g2 g3 (w.heap.size + 1) hlt3 y0
       clear hva hb3 g1 g2 g3)
    | (go_at_call 51; with_reducible refine hc3.mono ?_; rintro e w4 ⟨rfl, hb4⟩))
  go_ret
  exact ⟨by simp, hw3.out.trans (hb4.mono hw3.out.size)⟩

end Go.Proofs.YtaonejnicgbifaaGreatDoor
