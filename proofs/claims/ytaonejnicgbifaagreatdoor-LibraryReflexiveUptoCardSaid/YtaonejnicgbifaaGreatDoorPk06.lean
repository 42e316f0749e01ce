import Derived.Test.YtaonejnicgbifaaGreatDoorPk05
namespace Go.Proofs.YtaonejnicgbifaaGreatDoor
open Go Go.RowKit

/-! ### word.Of, Zero, One, Small -/
def lenOf (v : Value) : Nat := match v with | .slice _ n _ => n | _ => 0

set_option maxRecDepth 100000 in
theorem of32_walk (b o len cap : Nat) (xs : List Int) (w : World) (hc : ∀ i, i < len → w.cell? ⟨b, o + i, none⟩ = some (.int .u32 (xs.getD i 0))) (hm : len ≤ cap) (hm2 : len ≤ 1099511627776) :
    Calls Tryz.prog 108 #[.slice (some ⟨b, o, none⟩) len cap] w fun e w' => e = .returned (.slice (some ⟨b, o, none⟩) (trimTo xs len) cap) ∧ w' = w := by
  go_enter Tryz.func108, Tryz.ntmps108
  go_wp2
  go_loop [0] (fun l => ∃ k : Nat, k ≤ len ∧ l = .slice (some ⟨b, o, none⟩) k cap ∧ trimTo xs k = trimTo xs len) (fun l => lenOf l)
  case atStart => exact ⟨len, Nat.le_refl _, rfl, rfl⟩
  case round =>
    obtain ⟨k, hk, rfl, ht⟩ := hrel
    have hHid : Hid (trimTo xs k = trimTo xs len) := ht
    clear ht
    match k, hk, hHid with
    | 0, hk, hHid =>
      go_wp2
      go_ret
      have h0 : trimTo xs len = 0 := hHid.out.symm
      refine ⟨?_, rfl⟩
      simp [h0]
    | k + 1, hk, hHid =>
      have hck : w.cell? ⟨b, o + k, none⟩ = some (.int .u32 (xs.getD k 0)) := hc k (by omega)
      generalize hX : xs.getD k 0 = X at hck
      go_wp2
      · go_round
        case rel =>
          have h0' : (X == 0) = true := by assumption
          have h0 : X = 0 := by simpa using h0'
          refine ⟨k, by omega, by go_num, ?_⟩
          rw [← hHid.out]
          simp only [trimTo, hX, h0, if_true]
        case measure => simp [lenOf]
      · go_ret
        have h0' : (X == 0) = false := by assumption
        have h0 : ¬ X = 0 := by simpa using h0'
        refine ⟨?_, rfl⟩
        rw [← hHid.out]
        simp only [trimTo, hX, if_neg h0]
        rfl
set_option maxRecDepth 100000 in
theorem of32_none (q : Option Addr) (cap : Nat) (w : World) : Calls Tryz.prog 108 #[.slice q 0 cap] w fun e w' => e = .returned (.slice q 0 cap) ∧ w' = w := by
  go_enter Tryz.func108, Tryz.ntmps108
  go_wp2
  refine wp_loop_once ?_
  go_wp2
  go_ret
  exact ⟨rfl, rfl⟩
/-- word.Of. -/
theorem of32_ok {w : World} {v : Value} {xs : List Int} (h : Sl w v xs) : ∃ u, Sl w u (trim xs) ∧ ∀ w1, Below w.heap.size w w1 → Calls Tryz.prog 108 #[v] w1 fun e w' => e = .returned u ∧ w' = w1 := by
  obtain ⟨h1, h2, q, cap, rfl, h4, h5⟩ := h
  have hl := trimTo_le xs xs.length
  rcases h5 with rfl | ⟨b, o, rfl, hlt, hc⟩
  · exact ⟨.slice q 0 cap, ⟨h1, by simp [trim], q, cap, rfl, by simp [trim], .inl rfl⟩, fun w1 _ => of32_none q cap w1⟩
  · refine ⟨.slice (some ⟨b, o, none⟩) (trimTo xs xs.length) cap, ⟨dig_trim h1, by rw [trim_length]; omega, _, cap, by rw [trim_length], by rw [trim_length]; omega, .inr ⟨b, o, rfl, hlt, fun i hi => ?_⟩⟩,
      fun w1 hb => of32_walk b o xs.length cap xs w1 (fun i hi => (hb.cell (by exact hlt)).trans (hc i hi)) h4 (by omega)⟩
    rw [trim_getD xs i hi]
    exact hc i (by rw [trim_length] at hi; omega)
theorem Sl.form {w : World} {v : Value} {xs : List Int} (h : Sl w v xs) : ∃ q cap, v = .slice q xs.length cap := by
  obtain ⟨_, _, q, cap, rfl, _⟩ := h
  exact ⟨q, cap, rfl⟩
theorem Sl.nil (w : World) : Sl w (.slice none 0 0) [] := ⟨fun j => by simp [List.getD], by simp, none, 0, rfl, Nat.le_refl _, .inl rfl⟩
theorem canon_nil : Canon [] := fun m hm => by simp at hm

set_option maxRecDepth 100000 in
/-- word.Nat.Zero. -/
theorem zero32_ok (q : Option Addr) (n cap : Nat) (w : World) : Calls Tryz.prog 109 #[.slice q n cap] w fun e w' => e = .returned (.bool (decide (n = 0))) ∧ w' = w := by
  go_enter Tryz.func109, Tryz.ntmps109
  go_wp2
  go_ret
  refine ⟨?_, rfl⟩
  congr 2
  by_cases h : n = 0
  · subst h; rfl
  · simp [h]
/-- The words of a number below 2^64. -/
def smallW (x : Int) : List Int := trim [x % 4294967296, x / 4294967296]
theorem smallW_ok {x : Int} (h0 : 0 ≤ x) (h1 : x ≤ 18446744073709551615) : Dig (smallW x) ∧ Canon (smallW x) ∧ val (smallW x) = x ∧ (smallW x).length ≤ 2 := by
  have hd : Dig [x % 4294967296, x / 4294967296] := fun j => by
    match j with
    | 0 => simp; omega
    | 1 => simp; omega
    | j + 2 => simp
  refine ⟨dig_trim hd, canon_trim _, ?_, ?_⟩
  · unfold smallW
    rw [val_trim]
    simp [val]
    omega
  · unfold smallW
    rw [trim_length]
    exact trimTo_le _ _
set_option maxRecDepth 100000 in
/-- word.Small. -/
theorem small32_ok (w : World) (x : Int) (h0 : 0 ≤ x) (h1 : x ≤ 18446744073709551615) :
    Calls Tryz.prog 144 #[.int .u64 x] w fun e w' => ∃ r, e = .returned r ∧ Sl w' r (smallW x) ∧ Below w.heap.size w w' := by
  have hd : Dig [x % 4294967296, x / 4294967296] := fun j => by
    match j with
    | 0 => simp; omega
    | 1 => simp; omega
    | j + 2 => simp
  have hsl : Sl (w.alloc (.cells #[.int .u32 (x % 4294967296), .int .u32 (x / 4294967296)] 150)) (.slice (some ⟨w.heap.size, 0, none⟩) 2 2) [x % 4294967296, x / 4294967296] := by
    refine ⟨hd, by simp, _, 2, rfl, by simp, .inr ⟨w.heap.size, 0, rfl, by show w.heap.size < (w.heap.push _).size; simp, fun i hi => ?_⟩⟩
    match i, hi with
    | 0, _ => show World.cell? _ _ = _; simp
    | 1, _ => show World.cell? _ _ = _; simp
  obtain ⟨u, hu, hcall⟩ := of32_ok hsl
  have hcall' := hcall _ (Below.refl _ _)
  go_enter Tryz.func144, Tryz.ntmps144
  go_wp2_with (go_at_call 108; refine hcall'.mono ?_; rintro e w2 ⟨rfl, rfl⟩)
  go_ret
  exact ⟨u, rfl, hu, below_alloc w _⟩
end Go.Proofs.YtaonejnicgbifaaGreatDoor
namespace Go.Proofs.YtaonejnicgbifaaGreatDoor
open Go Go.RowKit

set_option maxRecDepth 100000 in
theorem cmp32_none (q q' : Option Addr) (cap cap' : Nat) (w : World) : Calls Tryz.prog 89 #[.slice q 0 cap, .slice q' 0 cap'] w fun e w' => e = .returned (.int .i64 0) ∧ w' = w := by
  go_enter Tryz.func89, Tryz.ntmps89
  go_wp2
  refine wp_loop_once ?_
  go_wp2
  go_ret
  exact ⟨rfl, rfl⟩
set_option maxRecDepth 100000 in
set_option maxHeartbeats 2000000 in
theorem cmp32_sgn (b o cap b2 o2 cap2 : Nat) (xs ys : List Int) (w : World) (hl : xs.length = ys.length) (dx : Dig xs) (dy : Dig ys) (hn : xs.length ≤ 1099511627776)
    (hcx : ∀ i, i < xs.length → w.cell? ⟨b, o + i, none⟩ = some (.int .u32 (xs.getD i 0))) (hcy : ∀ i, i < ys.length → w.cell? ⟨b2, o2 + i, none⟩ = some (.int .u32 (ys.getD i 0))) (hb1 : b < w.heap.size) (hb2 : b2 < w.heap.size) :
    Calls Tryz.prog 89 #[.slice (some ⟨b, o, none⟩) xs.length cap, .slice (some ⟨b2, o2, none⟩) xs.length cap2] w fun e w' => ∃ c : Int, e = .returned (.int .i64 c) ∧ (c < 0 ↔ val xs < val ys) ∧ (c = 0 ↔ xs = ys) ∧ Below w.heap.size w w' := by
  have dx' : Hid (Dig xs) := dx
  have dy' : Hid (Dig ys) := dy
  clear dx dy
  go_enter Tryz.func89, Tryz.ntmps89
  go_wp2
  go_loopw [5] (fun i wr => ∃ k : Nat, k ≤ xs.length ∧ i = .int .i64 ((k : Int) - 1) ∧ (∀ j, k ≤ j → j < xs.length → xs.getD j 0 = ys.getD j 0) ∧ Below w.heap.size w wr) (fun i _ => (intOf i + 1).toNat)
  case atStart => exact ⟨xs.length, Nat.le_refl _, by simp [hl], fun j h1 h2 => by omega, Below.refl _ _⟩
  case round =>
    obtain ⟨k, hk, rfl, hag, hbw⟩ := hrel
    have hHid : Hid (∀ j, k ≤ j → j < xs.length → xs.getD j 0 = ys.getD j 0) := hag
    clear hag
    match k, hk, hHid with
    | 0, hk, hHid =>
      go_wp2
      go_ret
      have e := eq_of_agree hl (fun j hj => hHid.out j (Nat.zero_le _) hj)
      exact ⟨0, rfl, by simp [e], by simp [e], hbw⟩
    | k + 1, hk, hHid =>
      have e1 : ((k + 1 : Nat) : Int) - 1 = (k : Int) := by omega
      rw [e1]
      have c1 : wr.cell? ⟨b, o + k, none⟩ = some (.int .u32 (xs.getD k 0)) := (hbw.cell (by exact hb1)).trans (hcx k (by omega))
      have c2 : wr.cell? ⟨b2, o2 + k, none⟩ = some (.int .u32 (ys.getD k 0)) := (hbw.cell (by exact hb2)).trans (hcy k (by omega))
      generalize hX : xs.getD k 0 = X at c1
      generalize hY : ys.getD k 0 = Y at c2
      have hkl : (k : Int) < (xs.length : Int) := by omega
      go_wp2
      go_quiet (fail)
      have hB : Below w.heap.size w (wr.drewN nq) := below_draws hbw _
      have c1' : (wr.drewN nq).cell? ⟨b, o + k, none⟩ = some (.int .u32 X) := c1
      have c2' : (wr.drewN nq).cell? ⟨b2, o2 + k, none⟩ = some (.int .u32 Y) := c2
      generalize wr.drewN nq = wz at hB c1' c2' ⊢
      clear c1 c2
      go_wp2
      · go_ret
        have hlt : X < Y := by assumption
        have e := not_eq_at (xs := xs) (ys := ys) (j := k) (by omega)
        exact ⟨-1, rfl, ⟨fun _ => val_lt_ofb hl dx'.out dy'.out (by omega) (by rw [hX, hY]; exact hlt) hHid.out, fun _ => by decide⟩, by simp [e], hB⟩
      · go_quiet (fail)
        have hB2 : Below w.heap.size w (wz.drewN nq) := below_draws hB _
        go_wp2
        · go_ret
          have hlt : X > Y := by assumption
          have e := not_eq_at (xs := xs) (ys := ys) (j := k) (by omega)
          have hv := val_lt_ofb hl.symm dy'.out dx'.out (k := k) (by omega) (by rw [hX, hY]; exact hlt) (fun j h1 h2 => (hHid.out j h1 (by omega)).symm)
          exact ⟨1, rfl, ⟨fun h => absurd h (by decide), fun h => by omega⟩, by simp [e], hB2⟩
        · go_roundw
          case rel =>
            refine ⟨k, by omega, by go_num, fun j h1 h2 => ?_, hB2⟩
            rcases Nat.lt_or_ge k j with h | h
            · exact hHid.out j h h2
            · have : j = k := by omega
              subst this; omega
          case measure => simp [intOf]

set_option maxRecDepth 100000 in
theorem cmp32_short (q q' : Option Addr) (m n cap cap' : Nat) (w : World) (h : m < n) : Calls Tryz.prog 89 #[.slice q m cap, .slice q' n cap'] w fun e w' => e = .returned (.int .i64 (-1)) ∧ w' = w := by
  have h' : ¬ (m : Int) = (n : Int) := by omega
  have h2 : (m : Int) < (n : Int) := by omega
  clear h
  go_enter Tryz.func89, Tryz.ntmps89
  go_wp2
  go_ret
  exact ⟨rfl, rfl⟩
set_option maxRecDepth 100000 in
theorem cmp32_long (q q' : Option Addr) (m n cap cap' : Nat) (w : World) (h : n < m) : Calls Tryz.prog 89 #[.slice q m cap, .slice q' n cap'] w fun e w' => e = .returned (.int .i64 1) ∧ w' = w := by
  have h' : ¬ (m : Int) = (n : Int) := by omega
  have h2 : ¬ (m : Int) < (n : Int) := by omega
  clear h
  go_enter Tryz.func89, Tryz.ntmps89
  go_wp2
  go_ret
  exact ⟨rfl, rfl⟩

/-- NatCmp of canonical numbers: its sign. -/
theorem cmp32_sg {w : World} {v u : Value} {xs ys : List Int} (hx : Sl w v xs) (hy : Sl w u ys) (cx : Canon xs) (cy : Canon ys) :
    Calls Tryz.prog 89 #[v, u] w fun e w' => ∃ c : Int, e = .returned (.int .i64 c) ∧ (c < 0 ↔ val xs < val ys) ∧ (c = 0 ↔ xs = ys) ∧ Below w.heap.size w w' := by
  obtain ⟨x1, x2, q, cap, rfl, x4, x5⟩ := hx
  obtain ⟨y1, y2, q', cap', rfl, y4, y5⟩ := hy
  rcases Nat.lt_trichotomy xs.length ys.length with hl | hl | hl
  · refine (cmp32_short q q' xs.length ys.length cap cap' w hl).mono ?_
    rintro e w' ⟨rfl, rfl⟩
    exact ⟨-1, rfl, ⟨fun _ => val_len_ltb x1 y1 cy hl, fun _ => by decide⟩, ⟨fun h => absurd h (by decide), fun h => by rw [h] at hl; omega⟩, Below.refl _ _⟩
  · by_cases hx0 : xs = []
    · subst hx0
      have hy0 : ys = [] := List.eq_nil_of_length_eq_zero hl.symm
      subst hy0
      refine (cmp32_none q q' cap cap' w).mono ?_
      rintro e w' ⟨rfl, rfl⟩
      exact ⟨0, rfl, by simp, by simp, Below.refl _ _⟩
    · have hy0 : ys ≠ [] := fun h => hx0 (List.eq_nil_of_length_eq_zero (by rw [hl, h]; rfl))
      rcases x5 with h | ⟨b, o, rfl, hlt, hc⟩
      · exact absurd h hx0
      rcases y5 with h | ⟨b', o', rfl, hlt', hc'⟩
      · exact absurd h hy0
      rw [← hl]
      exact cmp32_sgn b o cap b' o' cap' xs ys w hl x1 y1 (by omega) hc hc' hlt hlt'
  · refine (cmp32_long q q' xs.length ys.length cap cap' w hl).mono ?_
    rintro e w' ⟨rfl, rfl⟩
    have := val_len_ltb y1 x1 cx hl
    exact ⟨1, rfl, ⟨fun h => absurd h (by decide), fun h => by omega⟩, ⟨fun h => absurd h (by decide), fun h => by rw [h] at hl; omega⟩, Below.refl _ _⟩
set_option maxRecDepth 100000 in
/-- word.Nat.One. -/
theorem one32_ok {w : World} {v : Value} {xs : List Int} (h : Sl w v xs) : Calls Tryz.prog 171 #[v] w fun e w' => e = .returned (.bool (decide (xs = [1]))) ∧ Below w.heap.size w w' := by
  obtain ⟨h1, h2, q, cap, rfl, h4, h5⟩ := h
  by_cases hl : xs.length = 1
  · obtain ⟨x, rfl⟩ := List.length_eq_one_iff.1 hl
    rcases h5 with h | ⟨b, o, rfl, hlt, hc⟩
    · cases h
    · have c0 : w.cell? ⟨b, o, none⟩ = some (.int .u32 x) := by simpa using hc 0 (by simp)
      clear hc h1
      go_enter Tryz.func171, Tryz.ntmps171
      go_wp2
      all_goals
        go_ret
        refine ⟨?_, Below.refl _ _⟩
        simp_all
        try rfl
  · have hne : ((xs.length : Int) == 1) = false := by simp; omega
    have hx : ¬ xs = [1] := fun e => hl (by rw [e]; rfl)
    clear h5
    go_enter Tryz.func171, Tryz.ntmps171
    go_wp2
    go_ret
    exact ⟨by simp [hx], Below.refl _ _⟩
set_option maxRecDepth 100000 in
/-- word.Nat.Bits. -/
theorem bits32_ok {w : World} {v : Value} {xs : List Int} (h : Sl w v xs) (cx : Canon xs) (hne : xs ≠ []) (lx : xs.length ≤ 274877906944) :
    Calls Tryz.prog 169 #[v] w fun e w' => ∃ n : Nat, e = .returned (.int .i64 (n + 1)) ∧ 2 ^ n ≤ val xs ∧ val xs < 2 ^ (n + 1) ∧ n ≤ 8796093022208 ∧ w' = w := by
  obtain ⟨h1, h2, q, cap, rfl, h4, h5⟩ := h
  obtain ⟨m, hm⟩ : ∃ m, xs.length = m + 1 := ⟨xs.length - 1, by have := List.length_pos_iff.2 hne; omega⟩
  rcases h5 with h | ⟨b, o, rfl, hlt, hc⟩
  · exact absurd h hne
  have c0 := hc m (by omega)
  have d0 := h1 m
  have z0 := cx m hm
  have hv := val_top1b hm
  have t0 := val_nonneg (dig_takeb h1 m)
  have t1 := val_ltb (dig_takeb h1 m)
  rw [List.length_take, Nat.min_eq_left (by omega)] at t1
  generalize xs.getD m 0 = X at *
  have hb := len32_ok X w d0.1 d0.2
  obtain ⟨s1, s2, s3⟩ := bitLen_spec X.toNat (by omega) (by omega)
  have s4 := bitLen_le32 X d0.1 d0.2
  generalize Lib.bitLen X.toNat = L at *
  obtain ⟨l, rfl⟩ : ∃ l, L = l + 1 := ⟨L - 1, by omega⟩
  have e1 : (2 : Int) ^ l ≤ X := by
    rw [show ((2 : Int) ^ l) = ((2 ^ l : Nat) : Int) by simp]
    rw [Nat.add_sub_cancel] at s1
    omega
  have e2 : X + 1 ≤ (2 : Int) ^ (l + 1) := by
    rw [show ((2 : Int) ^ (l + 1)) = ((2 ^ (l + 1) : Nat) : Int) by simp]
    omega
  have ep : (4294967296 : Int) ^ m = 2 ^ (32 * m) := by
    rw [Int.pow_mul]
    rfl
  have hp := pow32_pos m
  have f1 : 2 ^ (32 * m + l) ≤ val xs := by
    rw [Int.pow_add, ← ep, hv, Int.mul_comm]
    have := Int.mul_le_mul_of_nonneg_right e1 (by omega : (0 : Int) ≤ 4294967296 ^ m)
    omega
  have f2 : val xs < 2 ^ (32 * m + l + 1) := by
    rw [Nat.add_assoc, Int.pow_add, ← ep, hv]
    have := Int.mul_le_mul_of_nonneg_left e2 (by omega : (0 : Int) ≤ 4294967296 ^ m)
    rw [Int.mul_add, Int.mul_one, Int.mul_comm _ X] at this
    omega
  rw [hm]
  rw [hm] at h4 lx
  have hF : Hid (2 ^ (32 * m + l) ≤ val xs ∧ val xs < 2 ^ (32 * m + l + 1)) := ⟨f1, f2⟩
  clear f1 f2 hv hc h1 h2 cx hne t0 t1 e1 e2 ep hp s1 s2 s3 z0 hm
  go_enter Tryz.func169, Tryz.ntmps169
  go_wp2_with (go_at_call 182; refine hb.mono ?_; rintro e w2 ⟨rfl, rfl⟩)
  go_ret
  exact ⟨32 * m + l, by go_num, hF.out.1, hF.out.2, by omega, rfl⟩

theorem val_zeros {xs : List Int} : ∀ k, k ≤ xs.length → (∀ j, j < k → xs.getD j 0 = 0) → val xs = 4294967296 ^ k * val (xs.drop k)
  | 0, _, _ => by simp
  | k + 1, hk, h => by
    rw [val_zeros k (by omega) (fun j hj => h j (by omega)), val_dropb xs k (by omega), h k (by omega), Int.pow_succ, Int.mul_assoc]
    simp
set_option maxRecDepth 100000 in
set_option maxHeartbeats 1000000 in
/-- word.Nat.Twos. -/
theorem twos32_ok {w : World} {v : Value} {xs : List Int} (h : Sl w v xs) (hne : 0 < val xs) (lx : xs.length ≤ 274877906944) (hT : Tb w) :
    Calls Tryz.prog 167 #[v] w fun e w' => ∃ t : Nat, e = .returned (.int .i64 t) ∧ TwosIs (val xs) t ∧ t ≤ 8796093022208 ∧ w' = w := by
  obtain ⟨h1, h2, q, cap, rfl, h4, h5⟩ := h
  rcases h5 with h | ⟨b, o, rfl, hlt, hc⟩
  · subst h; simp [val] at hne
  have hne' : Hid (0 < val xs) := hne
  have h1' : Hid (Dig xs) := h1
  have hc' : Hid (∀ i, i < xs.length → w.cell? ⟨b, o + i, none⟩ = some (.int .u32 (xs.getD i 0))) := hc
  clear hne h1 hc
  go_enter Tryz.func167, Tryz.ntmps167
  go_wp2
  go_loop [7] (fun i => ∃ k : Nat, k ≤ xs.length ∧ i = .int .i64 k ∧ ∀ j, j < k → xs.getD j 0 = 0) (fun i => xs.length - (intOf i).toNat)
  case atStart => exact ⟨0, Nat.zero_le _, rfl, fun j hj => by omega⟩
  case round =>
    obtain ⟨k, hk, rfl, hz⟩ := hrel
    have hz' : Hid (∀ j, j < k → xs.getD j 0 = 0) := hz
    clear hz
    by_cases hk2 : k < xs.length
    · have c0 := hc'.out k hk2
      have d0 := h1'.out k
      have hkl : (k : Int) < (xs.length : Int) := by omega
      generalize hX : xs.getD k 0 = X at *
      have hX' : Hid (xs.getD k 0 = X) := hX
      clear hX
      by_cases h0 : X = 0
      · subst h0
        go_wp2
        go_round
        case rel =>
          refine ⟨k + 1, by omega, by go_num, fun j hj => ?_⟩
          rcases Nat.lt_or_ge j k with h | h
          · exact hz'.out j h
          · have : j = k := by omega
            subst this; exact hX'.out
        case measure => simp [intOf]; omega
      · have htz := tz32_ok X w (by omega) d0.2 hT
        go_wp2_with (go_at_call 192; refine htz.mono ?_; rintro e w2 ⟨t, rfl, ht, ht2, rfl⟩)
        go_ret
        refine ⟨32 * k + t, by go_num, ?_, by omega, rfl⟩
        obtain ⟨m, hm⟩ := ht
        have hv := val_zeros k (by omega) hz'.out
        rw [val_dropb xs k hk2, hX'.out] at hv
        have ep : (4294967296 : Int) ^ k = 2 ^ (32 * k) := by
          rw [Int.pow_mul]
          rfl
        obtain ⟨d, hd⟩ : ∃ d, 32 = t + (d + 1) := ⟨31 - t, by omega⟩
        have e32 : (4294967296 : Int) = 2 ^ t * (2 ^ d * 2) := by
          rw [← Int.pow_succ, ← Int.pow_add, ← hd]
          rfl
        obtain ⟨V, hV⟩ := Int.eq_ofNat_of_zero_le (val_nonneg (dig_dropb h1'.out (k + 1)))
        refine ⟨m + 2 ^ d * V, ?_⟩
        rw [hv, hV, hm, Int.pow_add, ← ep, Int.mul_assoc]
        congr 1
        rw [e32, Int.mul_assoc (2 ^ t), ← Int.mul_add]
        congr 1
        rw [Int.mul_assoc, Int.natCast_add, Int.natCast_mul, Int.mul_add, Int.mul_left_comm]
        simp
        omega
    · exfalso
      have : k = xs.length := by omega
      subst this
      have hv := val_zeros xs.length (Nat.le_refl _) hz'.out
      rw [List.drop_length] at hv
      have := hne'.out
      simp [val] at hv
      omega
end Go.Proofs.YtaonejnicgbifaaGreatDoor
namespace Go.Proofs.YtaonejnicgbifaaGreatDoor
open Go Go.RowKit

/-! ### Shl, Shr, DivSmall -/
theorem or_nat32 (a b : Nat) (ha : a < 4294967296) (hb : b < 4294967296) : Go.bits .or .u32 (a : Int) (b : Int) = ((a ||| b : Nat) : Int) := by
  have hx : a ||| b < 2 ^ 32 := Nat.or_lt_two_pow (by omega) (by omega)
  have h1 : (BitVec.ofInt 32 (a : Int)).toNat = a := by
    rw [BitVec.ofInt_natCast, BitVec.toNat_ofNat]; exact Nat.mod_eq_of_lt (by omega)
  have h2 : (BitVec.ofInt 32 (b : Int)).toNat = b := by
    rw [BitVec.ofInt_natCast, BitVec.toNat_ofNat]; exact Nat.mod_eq_of_lt (by omega)
  show IntKind.u32.wrap ((BitVec.ofInt 32 (a : Int) ||| BitVec.ofInt 32 (b : Int)).toNat : Int) = _
  rw [BitVec.toNat_or, h1, h2, IntKind.wrap_u32]
  omega
theorem or_nat64 (a b : Nat) (ha : a < 18446744073709551616) (hb : b < 18446744073709551616) : Go.bits .or .u64 (a : Int) (b : Int) = ((a ||| b : Nat) : Int) := by
  have hx : a ||| b < 2 ^ 64 := Nat.or_lt_two_pow (by omega) (by omega)
  have h1 : (BitVec.ofInt 64 (a : Int)).toNat = a := by
    rw [BitVec.ofInt_natCast, BitVec.toNat_ofNat]; exact Nat.mod_eq_of_lt (by omega)
  have h2 : (BitVec.ofInt 64 (b : Int)).toNat = b := by
    rw [BitVec.ofInt_natCast, BitVec.toNat_ofNat]; exact Nat.mod_eq_of_lt (by omega)
  show IntKind.u64.wrap ((BitVec.ofInt 64 (a : Int) ||| BitVec.ofInt 64 (b : Int)).toNat : Int) = _
  rw [BitVec.toNat_or, h1, h2, IntKind.wrap_u64]
  omega
/-- A word joined to a shifted one. -/
theorem or_hi {x y : Int} (hx : 0 ≤ x ∧ x ≤ 4294967295) (hy : 0 ≤ y ∧ y ≤ 4294967295) : Go.bits .or .u64 (x * 4294967296) y = x * 4294967296 + y ∧ Go.bits .or .u64 y (x * 4294967296) = y + x * 4294967296 := by
  obtain ⟨X, rfl⟩ := Int.eq_ofNat_of_zero_le hx.1
  obtain ⟨Y, rfl⟩ := Int.eq_ofNat_of_zero_le hy.1
  have e : (X : Int) * 4294967296 = ((2 ^ 32 * X : Nat) : Int) := by omega
  have h := Nat.two_pow_add_eq_or_of_lt (i := 32) (b := Y) (by omega) X
  rw [e, or_nat64 _ _ (by omega) (by omega), or_nat64 _ _ (by omega) (by omega), Nat.or_comm Y, ← h]
  omega
/-- The carry joined to a shifted word. -/
theorem or_lo {x c : Int} {s : Nat} (hx : 0 ≤ x ∧ x ≤ 4294967295) (hs : s ≤ 31) (hc : 0 ≤ c ∧ c < 2 ^ s) :
    Go.bits .or .u32 c (x * 2 ^ s % 4294967296) = (x * 2 ^ s + c) % 4294967296 ∧ x * 2 ^ s / 4294967296 = (x * 2 ^ s + c) / 4294967296 ∧ 0 ≤ x * 2 ^ s / 4294967296 ∧ x * 2 ^ s / 4294967296 < 2 ^ s := by
  obtain ⟨X, rfl⟩ := Int.eq_ofNat_of_zero_le hx.1
  obtain ⟨C, rfl⟩ := Int.eq_ofNat_of_zero_le hc.1
  obtain ⟨d, hd⟩ : ∃ d, 32 = s + d := ⟨32 - s, by omega⟩
  have hp : 0 < 2 ^ s := Nat.pow_pos (by decide)
  have hpd : 0 < 2 ^ d := Nat.pow_pos (by decide)
  have e32 : 4294967296 = 2 ^ s * 2 ^ d := by rw [← Nat.pow_add, ← hd]
  have hC : C < 2 ^ s := by
    have := hc.2
    rw [show ((2 : Int) ^ s) = ((2 ^ s : Nat) : Int) by simp] at this
    omega
  have hX : X < 2 ^ s * 2 ^ d := by omega
  rw [show ((2 : Int) ^ s) = ((2 ^ s : Nat) : Int) by simp, show (X : Int) * ((2 ^ s : Nat) : Int) = ((2 ^ s * X : Nat) : Int) by rw [Int.natCast_mul, Int.mul_comm]]
  have m1 : 2 ^ s * X % 4294967296 = 2 ^ s * (X % 2 ^ d) := by rw [e32, Nat.mul_mod_mul_left]
  have q1 : 2 ^ s * X / 4294967296 = X / 2 ^ d := by rw [e32, Nat.mul_div_mul_left _ _ hp]
  have hm := Nat.mod_lt X hpd
  have hle : 2 ^ s * (X % 2 ^ d) + 2 ^ s ≤ 4294967296 := by
    rw [e32, ← Nat.mul_succ]
    exact Nat.mul_le_mul_left _ hm
  have hq : X / 2 ^ d < 2 ^ s := Nat.div_lt_of_lt_mul (by rwa [Nat.mul_comm])
  have h := Nat.two_pow_add_eq_or_of_lt (i := s) hC (X % 2 ^ d)
  have hdm := Nat.div_add_mod (2 ^ s * X) 4294967296
  rw [m1, q1] at hdm
  have s1 : (2 ^ s * X + C) % 4294967296 = 2 ^ s * (X % 2 ^ d) + C := by omega
  have s2 : (2 ^ s * X + C) / 4294967296 = X / 2 ^ d := by omega
  refine ⟨?_, ?_, ?_, ?_⟩
  · rw [show ((2 ^ s * X : Nat) : Int) % 4294967296 = ((2 ^ s * X % 4294967296 : Nat) : Int) by omega, show (((2 ^ s * X : Nat) : Int) + (C : Int)) % 4294967296 = (((2 ^ s * X + C) % 4294967296 : Nat) : Int) by omega, m1, s1]
    rw [or_nat32 _ _ (by omega) (by omega), Nat.or_comm, ← h]
  · rw [show ((2 ^ s * X : Nat) : Int) / 4294967296 = ((2 ^ s * X / 4294967296 : Nat) : Int) by omega, show (((2 ^ s * X : Nat) : Int) + (C : Int)) / 4294967296 = (((2 ^ s * X + C) / 4294967296 : Nat) : Int) by omega, q1, s2]
  · omega
  · rw [show ((2 ^ s * X : Nat) : Int) / 4294967296 = ((2 ^ s * X / 4294967296 : Nat) : Int) by omega, q1]
    omega

theorem set_two (out : List Int) (c x y : Int) (m : Nat) : ((out ++ c :: List.replicate (m + 1) 0).set out.length x).set (out.length + 1) y = (out ++ [x]) ++ y :: List.replicate m 0 := by
  induction out with
  | nil => simp [List.replicate_succ]
  | cons a l ih => simpa using ih
theorem getD_two (out : List Int) (c : Int) (m : Nat) : (out ++ c :: List.replicate (m + 1) 0).getD out.length 0 = c := by
  simp [List.getD]
theorem pow_le31 {s : Nat} (hs : s ≤ 31) : (2 : Int) ^ s ≤ 2147483648 := by
  have : 2 ^ s ≤ 2 ^ 31 := Nat.pow_le_pow_right (by decide) hs
  rw [show ((2 : Int) ^ s) = ((2 ^ s : Nat) : Int) by simp]
  omega
theorem mul_le31 {x : Int} {s : Nat} (hs : s ≤ 31) (hx : 0 ≤ x ∧ x ≤ 4294967295) : 0 ≤ x * 2 ^ s ∧ x * 2 ^ s ≤ 9223372034707292160 := by
  have hp := two_pos s
  have h1 := pow_le31 hs
  have h2 := Int.mul_le_mul hx.2 h1 (by omega) (by omega)
  exact ⟨Int.mul_nonneg hx.1 (by omega), by omega⟩
end Go.Proofs.YtaonejnicgbifaaGreatDoor
