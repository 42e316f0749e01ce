import Derived.Test.YtaonejnicgbifaaGreatDoorPk06
namespace Go.Proofs.YtaonejnicgbifaaGreatDoor
open Go Go.RowKit

theorem made_sl {w : World} {g : Nat} {os : List Int} (hb : Blk w g os) (hd : Dig os) (hl : os.length ≤ 549755813888) : Sl w (.slice (some ⟨g, 0, none⟩) os.length os.length) os := by
  refine ⟨hd, hl, some ⟨g, 0, none⟩, os.length, rfl, Nat.le_refl _, .inr ⟨g, 0, rfl, ?_, fun i hi => by simpa using hb.cell hi⟩⟩
  unfold Blk at hb
  exact (Array.getElem?_eq_some_iff.1 hb).1
/-- word.Of at a row. -/
theorem of32_at {w : World} {v : Value} {xs : List Int} (h : Sl w v xs) : ∃ r, (Calls Tryz.prog 108 #[v] w fun e w' => e = .returned r ∧ w' = w) ∧ Sl w r (trim xs) := by
  obtain ⟨u, h1, h2⟩ := of32_ok h
  exact ⟨u, h2 w (Below.refl _ _), h1⟩

set_option maxRecDepth 100000 in
theorem shl32_nil (q : Option Addr) (cap : Nat) (s : Int) (w : World) : Calls Tryz.prog 195 #[.slice q 0 cap, .int .i64 s] w fun e w' => e = .returned (.slice none 0 0) ∧ w' = w := by
  go_enter Tryz.func195, Tryz.ntmps195
  go_wp2
  go_ret
  exact ⟨rfl, rfl⟩

set_option maxRecDepth 100000 in
set_option maxHeartbeats 4000000 in
theorem shl32_walk {w : World} {b o cap : Nat} {xs : List Int} (s : Nat) (hs1 : s ≤ 31) (hne : ((xs.length : Int) == 0) = false) (dx : Dig xs) (lx : xs.length ≤ 274877906944) (hb : b < w.heap.size)
    (hcx : ∀ i, i < xs.length → w.cell? ⟨b, o + i, none⟩ = some (.int .u32 (xs.getD i 0))) :
    Calls Tryz.prog 195 #[.slice (some ⟨b, o, none⟩) xs.length cap, .int .i64 s] w fun e w' => ∃ r out cy, e = .returned r ∧ Shb xs s xs.length out cy ∧ Sl w' r (trim (out ++ [cy])) ∧ Below w.heap.size w w' := by
  obtain ⟨i0, hi, hz0, hz1, hz2⟩ := info_parts (show (Tryz.prog.info? 150).map (fun i => (i.zero, i.size, i.bytes)) = some (some (.int .u32 0), 1, 4) by kernel_rfl)
  have hq : (s : Int).tdiv 32 = 0 := by rw [Int.tdiv_eq_ediv_of_nonneg (by omega)]; omega
  have hr : (s : Int).tmod 32 = s := by rw [Int.tmod_eq_emod_of_nonneg (by omega)]; omega
  have cx' : Hid (∀ i, i < xs.length → w.cell? ⟨b, o + i, none⟩ = some (.int .u32 (xs.getD i 0))) := hcx
  have dx' : Hid (Dig xs) := dx
  clear hcx dx
  go_enter Tryz.func195, Tryz.ntmps195
  go_wp2_with (at_make; refine wpList_make_full _ rfl _ _ 25 rfl w.heap.size 150 i0 (.int .u32 0) 1 Tryz.underlying25 hi hz0 hz1 _ _ _ _ (xs.length + 1) rfl rfl (by omega) (by omega) (by rw [hz2]; omega) (by unfold maxLen; omega) (Nat.le_refl _) ?_)
  intro w1 hown hgrow
  have hblk : Blk w1 w.heap.size (List.replicate (xs.length + 1) 0) := made_blk hown
  have hbel : Below w.heap.size w w1 := (Below.refl _ _).grown hgrow (Nat.le_refl _) (fun _ h => by cases h)
  clear hown hgrow hi hz0 hz1 hz2
  go_wp2
  go_loopw [27] (fun i wr => ∃ (k : Nat) (out : List Int) (cy : Int), k ≤ xs.length ∧ i = .int .i64 k ∧ Hid (Shb xs s k out cy) ∧ Blk wr w.heap.size (out ++ cy :: List.replicate (xs.length - k) 0) ∧ Below w.heap.size w wr) (fun i _ => xs.length - (intOf i).toNat)
  case atStart => exact ⟨0, [], 0, Nat.zero_le _, rfl, Shb.zero xs s, by simpa [List.replicate_succ] using hblk, hbel⟩
  case round =>
    clear hblk hbel
    obtain ⟨k, out, cy, hk, rfl, hsh, hbk, hbw⟩ := hrel
    have hlen := hsh.out.len
    have hcy := hsh.out.c
    have h31 := pow_le31 hs1
    by_cases hlt : k < xs.length
    · have hlt' : (k : Int) < (xs.length : Int) := by omega
      obtain ⟨m, hm⟩ : ∃ m, xs.length - k = m + 1 := ⟨xs.length - k - 1, by omega⟩
      rw [hm] at hbk
      have cc : wr.cell? ⟨b, o + k, none⟩ = some (.int .u32 (xs.getD k 0)) := (hbw.cell (by exact hb)).trans (cx'.out k hlt)
      have c2 := hbk.cell (j := k) (by simp; omega)
      rw [← hlen, getD_two, hlen] at c2
      have c3 := hbk.cell (j := k + 1) (by simp; omega)
      have hfr := hbk.frozen k
      have hfr1 := hbk.frozen (k + 1)
      generalize (out ++ cy :: List.replicate (m + 1) 0).getD (k + 1) 0 = Z3 at c3
      have hxk := dx'.out k
      obtain ⟨X, hX⟩ : ∃ X, Hid (xs.getD k 0 = X) := ⟨_, rfl⟩
      rw [hX.out] at cc hxk
      have hor := or_lo hxk hs1 hcy
      have hml := mul_le31 hs1 hxk
      have hstep := hsh.out.step dx'.out (S := X * 2 ^ s + cy) (by rw [hX.out])
      obtain ⟨P, hP⟩ : ∃ P, X * 2 ^ s = P := ⟨_, rfl⟩
      rw [hP] at hor hstep hml
      obtain ⟨o1, o2, o3, o4⟩ := hor
      rw [← o2] at hstep
      obtain ⟨D, hD⟩ : ∃ D, (P + cy) % 4294967296 = D := ⟨_, rfl⟩
      rw [hD] at o1 hstep
      obtain ⟨C, hC⟩ : ∃ C, P / 4294967296 = C := ⟨_, rfl⟩
      rw [hC] at o3 o4 hstep
      have hset := set_two out cy D C m
      rw [hlen] at hset
      have hB2 := (hbk.set k D).set (k + 1) C
      rw [hset] at hB2
      have hB3 : Hid (Blk ((wr.setCell ⟨w.heap.size, k, none⟩ (.int .u32 D)).setCell ⟨w.heap.size, k + 1, none⟩ (.int .u32 C)) w.heap.size (out ++ [D] ++ C :: List.replicate m 0)) := hB2
      have hstep' : Hid (Shb xs s (k + 1) (out ++ [D]) C) := hstep
      have hC1 : C ≤ 2147483647 := by omega
      have hD' : Hid ((P + cy) % 4294967296 = D) := hD
      clear hset hB2 hstep o2 hD o4 hcy h31
      go_wp2
      go_roundw
      case rel =>
        refine ⟨k + 1, out ++ [D], C, by omega, by go_num, hstep', ?_, (hbw.setCell (Nat.le_refl _) _).setCell (Nat.le_refl _) _⟩
        rw [show xs.length - (k + 1) = m by omega]
        exact hB3.out
      case measure => simp [intOf]; omega
    · obtain rfl : k = xs.length := by omega
      rw [Nat.sub_self, List.replicate_zero] at hbk
      have hd : Dig (out ++ [cy]) := dig_snocb hsh.out.dig (by omega)
      have hsl := made_sl hbk hd (by simp; omega)
      obtain ⟨r, hcall, hr⟩ := of32_at hsl
      rw [show (out ++ [cy]).length = xs.length + 1 by simp [hlen]] at hcall
      go_wp2_with (go_at_call 108; refine hcall.mono ?_; rintro e w9 ⟨rfl, rfl⟩)
      go_ret
      exact ⟨r, out, cy, rfl, hsh.out, hr, hbw⟩
theorem Shb.done {xs out : List Int} {s : Nat} {cy : Int} (h : Shb xs s xs.length out cy) : val (trim (out ++ [cy])) = val xs * 2 ^ s := by
  have := h.eq
  rw [List.take_length] at this
  rw [val_trim, val_snocb, h.len, this]
/-- word.Nat.Shl by less than one word. -/
theorem shl32_ok {w : World} {v : Value} {xs : List Int} (hx : Sl w v xs) (lx : xs.length ≤ 274877906944) (s : Nat) (hs : s ≤ 31) :
    Calls Tryz.prog 195 #[v, .int .i64 s] w fun e w' => ∃ r zs, e = .returned r ∧ Sl w' r zs ∧ Canon zs ∧ val zs = val xs * 2 ^ s ∧ zs.length ≤ xs.length + 1 ∧ Below w.heap.size w w' := by
  obtain ⟨dx, _, q, cap, rfl, hcap, hxx⟩ := hx
  rcases hxx with rfl | ⟨b, o, rfl, hb, hc⟩
  · refine (shl32_nil q cap s w).mono ?_
    rintro e w' ⟨rfl, rfl⟩
    exact ⟨_, [], rfl, Sl.nil _, canon_nil, by simp [val], by simp, Below.refl _ _⟩
  · by_cases h0 : xs = []
    · subst h0
      refine (shl32_nil _ cap s w).mono ?_
      rintro e w' ⟨rfl, rfl⟩
      exact ⟨_, [], rfl, Sl.nil _, canon_nil, by simp [val], by simp, Below.refl _ _⟩
    · have hne : ((xs.length : Int) == 0) = false := by
        have : xs.length ≠ 0 := fun h => h0 (List.eq_nil_of_length_eq_zero h)
        simp; omega
      refine (shl32_walk s hs hne dx lx hb hc).mono ?_
      rintro e w' ⟨r, out, cy, rfl, hsh, hr, hbw⟩
      refine ⟨r, trim (out ++ [cy]), rfl, hr, canon_trim _, hsh.done, ?_, hbw⟩
      rw [trim_length]
      have := trimTo_le (out ++ [cy]) (out ++ [cy]).length
      have h2 := hsh.len
      simp at this
      simp
      omega
end Go.Proofs.YtaonejnicgbifaaGreatDoor
namespace Go.Proofs.YtaonejnicgbifaaGreatDoor
open Go Go.RowKit

theorem set_one (out : List Int) (x : Int) (m : Nat) : (out ++ List.replicate (m + 1) 0).set out.length x = (out ++ [x]) ++ List.replicate m 0 := by
  induction out with
  | nil => simp [List.replicate_succ]
  | cons a l ih => simpa using ih
theorem val_drop_div {xs : List Int} (dx : Dig xs) (k : Nat) (hk : k ≤ xs.length) : val (xs.drop k) = val xs / 4294967296 ^ k := by
  have h : val xs = val (xs.take k) + 4294967296 ^ k * val (xs.drop k) := by
    conv => lhs; rw [← List.take_append_drop k xs]
    rw [val_append, List.length_take, Nat.min_eq_left hk]
  have h0 := val_nonneg (dig_takeb dx k)
  have h1 := val_ltb (dig_takeb dx k)
  rw [List.length_take, Nat.min_eq_left hk] at h1
  have hp := pow32_pos k
  rw [h, Int.add_mul_ediv_left _ _ (by omega), Int.ediv_eq_zero_of_lt h0 h1, Int.zero_add]
theorem getD_drop {xs : List Int} (k i : Nat) : (xs.drop k).getD i 0 = xs.getD (k + i) 0 := by
  simp [List.getD, List.getElem?_drop]

set_option maxRecDepth 100000 in
theorem shr32_short {w : World} {q : Option Addr} {n cap : Nat} (wd r : Nat) (hr : r ≤ 31) (hw : n ≤ wd) (hwd : wd ≤ 274877906944) (hn : n ≤ 274877906944) :
    Calls Tryz.prog 168 #[.slice q n cap, .int .i64 (32 * wd + r)] w fun e w' => e = .returned (.slice none 0 0) ∧ w' = w := by
  have hq : (32 * (wd : Int) + r).tdiv 32 = wd := by rw [Int.tdiv_eq_ediv_of_nonneg (by omega)]; omega
  have hr2 : (32 * (wd : Int) + r).tmod 32 = r := by rw [Int.tmod_eq_emod_of_nonneg (by omega)]; omega
  have hle : (n : Int) ≤ (wd : Int) := by omega
  go_enter Tryz.func168, Tryz.ntmps168
  go_wp2
  go_ret
  exact ⟨rfl, rfl⟩

set_option maxRecDepth 100000 in
set_option maxHeartbeats 4000000 in
theorem shr32_walk {w : World} {b o cap : Nat} {xs : List Int} (wd r : Nat) (hr : r ≤ 31) (hw : wd < xs.length) (hcap : xs.length ≤ cap) (dx : Dig xs) (lx : xs.length ≤ 274877906944) (hb : b < w.heap.size)
    (hcx : ∀ i, i < xs.length → w.cell? ⟨b, o + i, none⟩ = some (.int .u32 (xs.getD i 0))) :
    Calls Tryz.prog 168 #[.slice (some ⟨b, o, none⟩) xs.length cap, .int .i64 (32 * wd + r)] w fun e w' => ∃ u out, e = .returned u ∧ Srb (xs.drop wd) r (xs.drop wd).length out ∧ Sl w' u (trim out) ∧ Below w.heap.size w w' := by
  obtain ⟨i0, hi, hz0, hz1, hz2⟩ := info_parts (show (Tryz.prog.info? 150).map (fun i => (i.zero, i.size, i.bytes)) = some (some (.int .u32 0), 1, 4) by kernel_rfl)
  have hq : (32 * (wd : Int) + r).tdiv 32 = wd := by rw [Int.tdiv_eq_ediv_of_nonneg (by omega)]; omega
  have hr2 : (32 * (wd : Int) + r).tmod 32 = r := by rw [Int.tmod_eq_emod_of_nonneg (by omega)]; omega
  have hwl : (wd : Int) < (xs.length : Int) := by omega
  have hnl : ¬ (xs.length : Int) ≤ (wd : Int) := by omega
  obtain ⟨L, hL⟩ : ∃ L, xs.length = wd + L := ⟨xs.length - wd, by omega⟩
  have hL' : Hid (xs.length = wd + L) := hL
  have hsub : (xs.length : Int) - (wd : Int) = (L : Int) := by omega
  have hdl : Hid ((xs.drop wd).length = L) := by
    show (xs.drop wd).length = L
    rw [List.length_drop]
    omega
  have dy' : Hid (Dig (xs.drop wd)) := dig_dropb dx wd
  have cx' : Hid (∀ i, i < L → w.cell? ⟨b, o + (wd + i), none⟩ = some (.int .u32 ((xs.drop wd).getD i 0))) := by
    intro i hi
    rw [getD_drop]
    exact hcx (wd + i) (by omega)
  clear hcx dx hL
  rw [hdl.out]
  generalize xs.drop wd = ys at *
  go_enter Tryz.func168, Tryz.ntmps168
  go_wp2_with (at_make; refine wpList_make_full _ rfl _ _ 25 rfl w.heap.size 150 i0 (.int .u32 0) 1 Tryz.underlying25 hi hz0 hz1 _ _ _ _ L rfl rfl (by omega) (by omega) (by rw [hz2]; omega) (by unfold maxLen; omega) (Nat.le_refl _) ?_)
  intro w1 hown hgrow
  have hblk : Blk w1 w.heap.size (List.replicate L 0) := made_blk hown
  have hbel : Below w.heap.size w w1 := (Below.refl _ _).grown hgrow (Nat.le_refl _) (fun _ h => by cases h)
  clear hown hgrow hi hz0 hz1 hz2
  go_wp2
  go_loopw [26] (fun i wr => ∃ (k : Nat) (out : List Int), k ≤ L ∧ i = .int .i64 k ∧ Hid (Srb ys r k out) ∧ Blk wr w.heap.size (out ++ List.replicate (L - k) 0) ∧ Below w.heap.size w wr) (fun i _ => L - (intOf i).toNat)
  case atStart => exact ⟨0, [], Nat.zero_le _, rfl, Srb.zero ys r, by simpa using hblk, hbel⟩
  case round =>
    clear hblk hbel
    obtain ⟨k, out, hk, rfl, hsh, hbk, hbw⟩ := hrel
    have hlen := hsh.out.len
    by_cases hlt : k < L
    · have hlt' : (k : Int) < (L : Int) := by omega
      obtain ⟨m, hm⟩ : ∃ m, L - k = m + 1 := ⟨L - k - 1, by omega⟩
      rw [hm] at hbk
      have hxl := hL'.out
      have hkw : (wd : Int) + (k : Int) < (xs.length : Int) := by omega
      have cc : wr.cell? ⟨b, o + (wd + k), none⟩ = some (.int .u32 (ys.getD k 0)) := (hbw.cell (by exact hb)).trans (cx'.out k hlt)
      have c2 := hbk.cell (j := k) (by simp; omega)
      have hfr := hbk.frozen k
      generalize (out ++ List.replicate (m + 1) 0).getD k 0 = Z3 at c2
      have hxk := dy'.out k
      have hxk1 := dy'.out (k + 1)
      have hstep := hsh.out.step dy'.out hr
      have hset := fun d => set_one out d m
      rw [hlen] at hset
      have hset' : Hid (∀ d, (out ++ List.replicate (m + 1) 0).set k d = (out ++ [d]) ++ List.replicate m 0) := hset
      clear hset hlen
      have hp := two_pos r
      have hp31 := pow_le31 hr
      by_cases hlast : k + 1 < L
      · have cc1 : wr.cell? ⟨b, o + (wd + k + 1), none⟩ = some (.int .u32 (ys.getD (k + 1) 0)) := (hbw.cell (by exact hb)).trans (cx'.out (k + 1) hlast)
        have hkw1 : (wd : Int) + (k : Int) + 1 < (xs.length : Int) := by omega
        generalize ys.getD k 0 = X at *
        generalize ys.getD (k + 1) 0 = Y at *
        have hor := (or_hi hxk1 hxk).2
        unfold srdb at hstep
        obtain ⟨S, hS⟩ : ∃ S, X + Y * 4294967296 = S := ⟨_, rfl⟩
        rw [hS] at hor hstep
        have hS0 : 0 ≤ S ∧ S ≤ 18446744073709551615 := by omega
        have hq0 : 0 ≤ S / 2 ^ r := Int.ediv_nonneg hS0.1 (by omega)
        have hq1 : S / 2 ^ r ≤ 18446744073709551615 := Int.le_trans (Int.ediv_le_self _ hS0.1) hS0.2
        have hstep' : Hid (Srb ys r (k + 1) (out ++ [S / 2 ^ r % 4294967296])) := hstep
        clear hstep hS
        go_wp2
        go_roundw
        case rel =>
          refine ⟨k + 1, _, by omega, by go_num, hstep'.out, ?_, hbw.setCell (Nat.le_refl _) _⟩
          rw [show L - (k + 1) = m by omega, ← hset'.out]
          exact hbk.set k _
        case measure => simp [intOf]; omega
      · have hkw1 : ¬ (wd : Int) + (k : Int) + 1 < (xs.length : Int) := by omega
        have hY : ys.getD (k + 1) 0 = 0 := by
          have := hdl.out
          simp [List.getD, List.getElem?_eq_none (by omega : ys.length ≤ k + 1)]
        rw [hY] at hstep
        generalize ys.getD k 0 = X at *
        unfold srdb at hstep
        rw [Int.zero_mul, Int.add_zero] at hstep
        have hq0 : 0 ≤ X / 2 ^ r := Int.ediv_nonneg hxk.1 (by omega)
        have hq1 : X / 2 ^ r ≤ 4294967295 := Int.le_trans (Int.ediv_le_self _ hxk.1) hxk.2
        have hstep' : Hid (Srb ys r (k + 1) (out ++ [X / 2 ^ r % 4294967296])) := hstep
        clear hstep hY
        go_wp2
        go_roundw
        case rel =>
          have hm' : X / 2 ^ r % 4294967296 = X / 2 ^ r := by omega
          refine ⟨k + 1, _, by omega, by go_num, hstep'.out, ?_, hbw.setCell (Nat.le_refl _) _⟩
          rw [show L - (k + 1) = m by omega, ← hset'.out]
          first | exact hbk.set k _ | (rw [hm']; exact hbk.set k _)
        case measure => simp [intOf]; omega
    · obtain rfl : k = L := by omega
      rw [Nat.sub_self, List.replicate_zero, List.append_nil] at hbk
      have hxl := hL'.out
      have hsl := made_sl hbk hsh.out.dig (by omega)
      obtain ⟨u, hcall, hr⟩ := of32_at hsl
      rw [hlen] at hcall
      go_wp2_with (go_at_call 108; refine hcall.mono ?_; rintro e w9 ⟨rfl, rfl⟩)
      go_ret
      exact ⟨u, out, rfl, hsh.out, hr, hbw⟩
/-- word.Nat.Shr. -/
theorem shr32_ok {w : World} {v : Value} {xs : List Int} (hx : Sl w v xs) (lx : xs.length ≤ 274877906944) (t : Nat) (ht : t ≤ 8796093022208) :
    Calls Tryz.prog 168 #[v, .int .i64 t] w fun e w' => ∃ r zs, e = .returned r ∧ Sl w' r zs ∧ Canon zs ∧ val zs = val xs / 2 ^ t ∧ zs.length ≤ xs.length ∧ Below w.heap.size w w' := by
  obtain ⟨dx, _, q, cap, rfl, hcap, hxx⟩ := hx
  have ht2 : (t : Int) = 32 * ((t / 32 : Nat) : Int) + ((t % 32 : Nat) : Int) := by omega
  have ep : (2 : Int) ^ t = 4294967296 ^ (t / 32) * 2 ^ (t % 32) := by
    conv => lhs; rw [← Nat.div_add_mod t 32]
    rw [Int.pow_add, Int.pow_mul]
    rfl
  rw [ht2]
  by_cases hw : t / 32 < xs.length
  · rcases hxx with rfl | ⟨b, o, rfl, hb, hc⟩
    · simp at hw
    · refine (shr32_walk (t / 32) (t % 32) (by omega) hw hcap dx lx hb hc).mono ?_
      rintro e w' ⟨u, out, rfl, hsh, hu, hbw⟩
      refine ⟨u, trim out, rfl, hu, canon_trim _, ?_, ?_, hbw⟩
      · rw [val_trim, hsh.done (dig_dropb dx _) (by omega), val_drop_div dx _ (by omega), ep, Int.ediv_ediv_of_nonneg (by have := pow32_pos (t / 32); omega)]
      · rw [trim_length]
        have := trimTo_le out out.length
        have h2 := hsh.len
        rw [List.length_drop] at h2
        omega
  · refine (shr32_short (t / 32) (t % 32) (by omega) (by omega) (by omega) lx).mono ?_
    rintro e w' ⟨rfl, rfl⟩
    refine ⟨_, [], rfl, Sl.nil _, canon_nil, ?_, by simp, Below.refl _ _⟩
    have h1 := val_ltb dx
    have h0 := val_nonneg dx
    have h2 := pow32_mono (by omega : xs.length ≤ t / 32)
    have hp := two_pos (t % 32)
    have h3 : (4294967296 : Int) ^ (t / 32) * 1 ≤ 4294967296 ^ (t / 32) * 2 ^ (t % 32) := Int.mul_le_mul_of_nonneg_left (by omega) (by have := pow32_pos (t / 32); omega)
    rw [ep, Int.ediv_eq_zero_of_lt h0 (by omega)]
    rfl
end Go.Proofs.YtaonejnicgbifaaGreatDoor
namespace Go.Proofs.YtaonejnicgbifaaGreatDoor
open Go Go.RowKit

set_option maxRecDepth 100000 in
set_option maxHeartbeats 4000000 in
theorem small32_walk {w : World} {b o cap : Nat} {xs : List Int} (B : Int) (hB0 : 1 ≤ B) (hB1 : B ≤ 4294967295) (dx : Dig xs) (lx : xs.length ≤ 274877906944) (hb : b < w.heap.size)
    (hcx : ∀ i, i < xs.length → w.cell? ⟨b, o + i, none⟩ = some (.int .u32 (xs.getD i 0))) :
    Calls Tryz.prog 193 #[.slice (some ⟨b, o, none⟩) xs.length cap, .int .u32 B] w fun e w' => ∃ r os rest, e = .returned (.tuple #[r, .int .u32 rest]) ∧ Smb xs B 0 os rest ∧ Sl w' r (trim os) ∧ Below w.heap.size w w' := by
  obtain ⟨i0, hi, hz0, hz1, hz2⟩ := info_parts (show (Tryz.prog.info? 150).map (fun i => (i.zero, i.size, i.bytes)) = some (some (.int .u32 0), 1, 4) by kernel_rfl)
  have cx' : Hid (∀ i, i < xs.length → w.cell? ⟨b, o + i, none⟩ = some (.int .u32 (xs.getD i 0))) := hcx
  have dx' : Hid (Dig xs) := dx
  clear hcx dx
  go_enter Tryz.func193, Tryz.ntmps193
  go_wp2_with (at_make; refine wpList_make_full _ rfl _ _ 25 rfl w.heap.size 150 i0 (.int .u32 0) 1 Tryz.underlying25 hi hz0 hz1 _ _ _ _ xs.length rfl rfl (by omega) (by omega) (by rw [hz2]; omega) (by unfold maxLen; omega) (Nat.le_refl _) ?_)
  intro w1 hown hgrow
  have hblk : Blk w1 w.heap.size (List.replicate xs.length 0) := made_blk hown
  have hbel : Below w.heap.size w w1 := (Below.refl _ _).grown hgrow (Nat.le_refl _) (fun _ h => by cases h)
  clear hown hgrow hi hz0 hz1 hz2
  go_wp2
  go_loopw [7, 8] (fun t7 i wr => ∃ (k : Nat) (os : List Int) (r : Int), k ≤ xs.length ∧ i = .int .i64 ((k : Int) - 1) ∧ t7 = .int .u64 r ∧ 0 ≤ r ∧ r < B ∧ Hid (Smb xs B k os r) ∧ Blk wr w.heap.size os ∧ Below w.heap.size w wr) (fun _ i _ => (intOf i + 1).toNat)
  case atStart => exact ⟨xs.length, _, 0, Nat.le_refl _, rfl, rfl, by omega, by omega, Smb.zero xs (by omega), hblk, hbel⟩
  case round =>
    clear hblk hbel
    obtain ⟨k, os, r, hk, rfl, rfl, r0, r1, hsm, hbk, hbw⟩ := hrel
    match k, hk, hsm with
    | 0, hk, hsm =>
      have hlen := hsm.out.len
      obtain ⟨u, hcall, hr⟩ := of32_at (made_sl hbk hsm.out.dig (by omega))
      rw [hlen] at hcall
      clear hlen
      go_wp2_with (go_at_call 108; refine hcall.mono ?_; rintro e w9 ⟨rfl, rfl⟩)
      go_ret2
      exact ⟨_, os, r, rfl, hsm.out, hr, hbw⟩
    | k + 1, hk, hsm =>
      have e1 : ((k + 1 : Nat) : Int) - 1 = (k : Int) := by omega
      rw [e1]
      have hlen := hsm.out.len
      have c1 : wr.cell? ⟨b, o + k, none⟩ = some (.int .u32 (xs.getD k 0)) := (hbw.cell (by exact hb)).trans (cx'.out k (by omega))
      have hfr := hbk.frozen k
      have c2 : wr.cell? ⟨w.heap.size, k, none⟩ = some (.int .u32 (os.getD k 0)) := hbk.cell (by rw [hlen]; omega)
      generalize os.getD k 0 = OK at c2
      have hxk := dx'.out k
      have hstep := hsm.out.step (S := r * 4294967296 + xs.getD k 0) (by omega) dx'.out rfl
      generalize hX : xs.getD k 0 = X at c1 hxk hstep
      have hor := (or_hi ⟨r0, by omega⟩ hxk).1
      have hkl : (k : Int) < (xs.length : Int) := by omega
      obtain ⟨S, hS⟩ : ∃ S, r * 4294967296 + X = S := ⟨_, rfl⟩
      rw [hS] at hor hstep
      have hS0 : 0 ≤ S := by omega
      have hS1 : S ≤ 18446744073709551615 := by omega
      have hd0 := Int.ediv_nonneg hS0 (by omega : 0 ≤ B)
      have hd1 : S / B < 4294967296 := Int.ediv_lt_of_lt_mul (by omega) (by omega)
      have hm0 := Int.emod_nonneg S (by omega : B ≠ 0)
      have hm1 := Int.emod_lt_of_pos S (by omega : 0 < B)
      have hstep' : Hid (Smb xs B k (os.set k (S / B)) (S % B)) := hstep
      clear hstep hlen hX e1 hS
      go_wp2
      go_roundw
      case rel =>
        exact ⟨k, _, _, by omega, by go_num, rfl, hm0, hm1, hstep', hbk.set _ _, hbw.setCell (p := ⟨w.heap.size, k, none⟩) (Nat.le_refl _) _⟩
      case measure => simp [intOf]
/-- word.Nat.DivSmall. -/
theorem divSmall_ok {w : World} {v : Value} {xs : List Int} (hx : Sl w v xs) (hne : xs ≠ []) (lx : xs.length ≤ 274877906944) (B : Int) (hB0 : 1 ≤ B) (hB1 : B ≤ 4294967295) :
    Calls Tryz.prog 193 #[v, .int .u32 B] w fun e w' => ∃ r zs, e = .returned (.tuple #[r, .int .u32 (val xs % B)]) ∧ Sl w' r zs ∧ Canon zs ∧ val zs = val xs / B ∧ Below w.heap.size w w' := by
  obtain ⟨dx, _, q, cap, rfl, hcap, hxx⟩ := hx
  rcases hxx with h | ⟨b, o, rfl, hb, hc⟩
  · exact absurd h hne
  · refine (small32_walk B hB0 hB1 dx lx hb hc).mono ?_
    rintro e w' ⟨r, os, rest, rfl, hsm, hr, hbw⟩
    have he := hsm.eq
    have hr0 := hsm.r0
    simp only [List.drop_zero] at he
    have h1 : val xs / B = val os := by
      rw [he, Int.add_comm, Int.add_mul_ediv_left _ _ (by omega), Int.ediv_eq_zero_of_lt hr0.1 hr0.2, Int.zero_add]
    have h2 : val xs % B = rest := by
      rw [he, Int.add_comm, Int.add_mul_emod_self_left, Int.emod_eq_of_lt hr0.1 hr0.2]
    exact ⟨r, trim os, by rw [h2], hr, canon_trim _, by rw [val_trim, h1], hbw⟩
end Go.Proofs.YtaonejnicgbifaaGreatDoor
