/-
  The reference's NatSub, NatAdd, NatOf, NatCmp, NatMul, less.
-/
import Derived.Test.YtgmbeedbeahblaaGreatDoorDvB
import Derived.Test.YtgmbeedbeahblaaGreatDoorDvI
import Derived.Deep.AppendLies
import Derived.Deep.WholeRow
namespace Go.Proofs.YtgmbeedbeahblaaGreatDoor
open Go Go.RowKit

theorem val_take16' (l : List Int) (k : Nat) : val16 (l.take (k + 1)) = val16 (l.take k) + l.getD k 0 * 65536 ^ k := by
  by_cases h : k < l.length
  · exact val_take16 l k h
  · have h0 : l.getD k 0 = 0 := by simp [List.getD, List.getElem?_eq_none (by omega : l.length ≤ k)]
    rw [List.take_of_length_le (by omega), List.take_of_length_le (by omega), h0]
    omega
theorem val_lt16 : ∀ {xs : List Int}, Dig16 xs → val16 xs < 65536 ^ xs.length
  | [], _ => by simp [val16]
  | x :: xs, h => by
    have h0 := h 0
    have h1 := val_lt16 (dig_tail16 h)
    have h2 : val16 (x :: xs) = x + 65536 * val16 xs := rfl
    rw [h2, List.length_cons, Int.pow_succ]
    simp only [List.getD_cons_zero] at h0
    omega

/-- NatSub between two rounds. -/
structure Sb (xs ys : List Int) (k : Nat) (out : List Int) (owed : Int) : Prop where
  len : out.length = k
  dig : Dig16 out
  ow : owed = 0 ∨ owed = 1
  eq : val16 out = val16 (xs.take k) - val16 (ys.take k) + owed * 65536 ^ k
theorem dig_snoc16 {l : List Int} (h : Dig16 l) {d : Int} (hd : 0 ≤ d ∧ d ≤ 65535) : Dig16 (l ++ [d]) := fun j => by
  by_cases hj : j < l.length
  · have := h j
    rwa [show (l ++ [d]).getD j 0 = l.getD j 0 by simp [List.getD, List.getElem?_append_left hj]]
  · by_cases hj2 : j = l.length
    · subst hj2
      simpa [List.getD] using hd
    · have : (l ++ [d]).getD j 0 = 0 := by
        simp only [List.getD]
        rw [List.getElem?_eq_none (by simp; omega)]
        rfl
      rw [this]
      omega
theorem val_snoc16 (l : List Int) (d : Int) : val16 (l ++ [d]) = val16 l + d * 65536 ^ l.length := by
  rw [val_append16]
  have : val16 [d] = d := by simp [val16]
  rw [this, Int.mul_comm]
theorem Sb.zero (xs ys : List Int) : Sb xs ys 0 [] 0 := ⟨rfl, fun j => by simp [List.getD], .inl rfl, by simp [val16]⟩
/-- A round, without and with a loan. -/
theorem Sb.free {xs ys out : List Int} {k : Nat} {owed : Int} (h : Sb xs ys k out owed) (ha : Dig16 xs) (hb : Dig16 ys) (hs : ¬ xs.getD k 0 < owed + ys.getD k 0) : Sb xs ys (k + 1) (out ++ [xs.getD k 0 - (owed + ys.getD k 0)]) 0 := by
  have h1 := ha k
  have h2 := hb k
  have h3 := h.ow
  refine ⟨by simp [h.len], dig_snoc16 h.dig (by omega), .inl rfl, ?_⟩
  rw [val_snoc16, h.eq, val_take16', val_take16', h.len, Int.sub_mul, Int.add_mul]
  omega
theorem Sb.loan {xs ys out : List Int} {k : Nat} {owed : Int} (h : Sb xs ys k out owed) (ha : Dig16 xs) (hb : Dig16 ys) (hs : xs.getD k 0 < owed + ys.getD k 0) : Sb xs ys (k + 1) (out ++ [xs.getD k 0 + 65536 - (owed + ys.getD k 0)]) 1 := by
  have h1 := ha k
  have h2 := hb k
  have h3 := h.ow
  refine ⟨by simp [h.len], dig_snoc16 h.dig (by omega), .inr rfl, ?_⟩
  rw [val_snoc16, h.eq, val_take16', val_take16', h.len, Int.sub_mul, Int.add_mul, Int.add_mul, Int.pow_succ]
  omega
/-- At the end. -/
theorem Sb.done {xs ys out : List Int} {owed : Int} (h : Sb xs ys xs.length out owed) (ha : Dig16 xs) (hl : ys.length ≤ xs.length) (hle : val16 ys ≤ val16 xs) : val16 out = val16 xs - val16 ys := by
  have h1 := h.eq
  rw [List.take_length, List.take_of_length_le hl] at h1
  have h2 := val_lt16 h.dig
  rw [h.len] at h2
  rcases h.ow with rfl | rfl
  · omega
  · omega

/-- A guess out of the greatest words is not less than the quotient. -/
theorem guess_ge (u v vt p : Nat) (hp : 0 < p) (hvt : 0 < vt) (hv : vt * p ≤ v) : u / v ≤ (u / p) / vt := by
  rw [Nat.div_div_eq_div_mul, Nat.mul_comm p vt]
  exact Nat.div_le_div_left hv (Nat.mul_pos hvt hp)
/-- Going down from there xs long xs the product is too great ends at the quotient. -/
theorem guess_end {u v g : Nat} (hv : 0 < v) (hg : u / v ≤ g) (hle : v * g ≤ u) : g = u / v :=
  Nat.le_antisymm ((Nat.le_div_iff_mul_le hv).2 (by rwa [Nat.mul_comm])) hg
theorem guess_down {u v g : Nat} (hv : 0 < v) (hg : u / v ≤ g) (hgt : u < v * g) : u / v ≤ g - 1 := by
  have : u / v < g := (Nat.div_lt_iff_lt_mul hv).2 (by rwa [Nat.mul_comm] at hgt)
  omega
end Go.Proofs.YtgmbeedbeahblaaGreatDoor

namespace Go.Proofs.YtgmbeedbeahblaaGreatDoor
open Go Go.RowKit

/-- The reference's trim of a row of the call's own. -/
theorem trim_row {W : World} {base n : Nat} {v : Value} {zs : List Int} (hn : zs.length = n) (hrow : W.ownsRow base 103 1 v n (zs.map (Value.int .u32))) (hd : Dig16 zs) (hl : n ≤ 549755813888) :
    ∃ r, (Calls Tryz.prog 143 #[v] W fun e w' => e = .returned r ∧ w' = W) ∧ Sl16 W r (trim zs) := by
  subst hn
  have htl : (trim zs).length = trimTo zs zs.length := trim_length zs
  have htt := trimTo_le zs zs.length
  have hrow' := hrow
  obtain ⟨_, ⟨rfl, h0⟩ | ⟨g, cp, cur, rfl, hg, hheap, h4, h5, h6, h7⟩⟩ := hrow
  · have hz : zs = [] := List.eq_nil_of_length_eq_zero h0
    subst hz
    exact ⟨_, trim16_none none 0 W, dig_trim16 hd, by rw [htl]; simp [trimTo], none, 0, rfl, Nat.le_refl _, .inl rfl⟩
  · have hgl : g < W.heap.size := (Array.getElem?_eq_some_iff.1 hheap).1
    have hcells : ∀ i, i < zs.length → W.cell? ⟨g, 0 + i, none⟩ = some (.int .u32 (zs.getD i 0)) := by
      intro i hi
      have h := hrow'.cells (g := g) rfl i (.int .u32 (zs.getD i 0)) (by simp [hi])
      by_cases h0 : i = 0
      · subst h0
        simpa [Addr.add] using h
      · simpa [Addr.add, h0] using h
    refine ⟨_, trim16_walk g 0 zs.length cp zs W hcells h4 (by omega), dig_trim16 hd, by omega, some ⟨g, 0, none⟩, cp, by rw [htl], by omega, .inr ⟨g, 0, rfl, hgl, fun i hi => ?_⟩⟩
    rw [trim_getD _ _ hi]
    exact hcells i (by omega)

end Go.Proofs.YtgmbeedbeahblaaGreatDoor

namespace Go.Proofs.YtgmbeedbeahblaaGreatDoor
open Go Go.RowKit

/-- NatAdd between two rounds. -/
structure Ad (xs ys : List Int) (k : Nat) (out : List Int) (cy : Int) : Prop where
  len : out.length = k
  dig : Dig16 out
  eq : val16 out + cy * 65536 ^ k = val16 (xs.take k) + val16 (ys.take k)
theorem Ad.zero (xs ys : List Int) : Ad xs ys 0 [] 0 := ⟨rfl, fun j => by simp [List.getD], by simp [val16]⟩
theorem Ad.step {xs ys out : List Int} {k : Nat} {cy s : Int} (h : Ad xs ys k out cy) (hs : s = xs.getD k 0 + cy + ys.getD k 0) : Ad xs ys (k + 1) (out ++ [s % 65536]) (s / 65536) := by
  refine ⟨by simp [h.len], dig_snoc16 h.dig (by omega), ?_⟩
  have he := h.eq
  rw [val_snoc16, val_take16', val_take16', h.len, Int.pow_succ]
  generalize (65536 : Int) ^ k = p at *
  have e : s * p = s % 65536 * p + s / 65536 * (p * 65536) := by
    have h1 : s = s % 65536 + 65536 * (s / 65536) := by omega
    calc s * p = (s % 65536 + 65536 * (s / 65536)) * p := by rw [← h1]
      _ = _ := by rw [Int.add_mul, Int.mul_comm 65536, Int.mul_assoc, Int.mul_comm 65536 p]
  rw [hs, Int.add_mul, Int.add_mul, ← hs] at e
  omega
theorem row_sl16 {W : World} {base n : Nat} {v : Value} {zs : List Int} (hn : zs.length = n) (hrow : W.ownsRow base 103 1 v n (zs.map (Value.int .u32))) (hd : Dig16 zs) (hl : n ≤ 549755813888) : Sl16 W v zs := by
  subst hn
  have hrow' := hrow
  obtain ⟨_, ⟨rfl, h0⟩ | ⟨g, cp, cur, rfl, hg, hheap, h4, h5, h6, h7⟩⟩ := hrow
  · have hz : zs = [] := List.eq_nil_of_length_eq_zero h0
    subst hz
    exact ⟨hd, by simp, none, 0, rfl, Nat.le_refl _, .inl rfl⟩
  · have hgl : g < W.heap.size := (Array.getElem?_eq_some_iff.1 hheap).1
    refine ⟨hd, hl, some ⟨g, 0, none⟩, cp, rfl, h4, .inr ⟨g, 0, rfl, hgl, fun i hi => ?_⟩⟩
    have h := hrow'.cells (g := g) rfl i (.int .u32 (zs.getD i 0)) (by simp [hi])
    by_cases h0 : i = 0
    · subst h0
      simpa [Addr.add] using h
    · simpa [Addr.add, h0] using h

end Go.Proofs.YtgmbeedbeahblaaGreatDoor

namespace Go.Proofs.YtgmbeedbeahblaaGreatDoor
open Go Go.RowKit

/-- NatOf between two rounds. -/
structure No (x X : Int) (out : List Int) : Prop where
  dig : Dig16 out
  eq : val16 out + X * 65536 ^ out.length = x
  can : X = 0 → Canon out
theorem No.zero (x : Int) : No x x [] := ⟨fun j => by simp [List.getD], by simp [val16], fun _ m hm => by simp at hm⟩
theorem No.step {x X : Int} {out : List Int} (h : No x X out) (h0 : 0 < X) : No x (X / 65536) (out ++ [X % 65536]) := by
  refine ⟨dig_snoc16 h.dig (by omega), ?_, fun hz m hm => ?_⟩
  · have he := h.eq
    rw [val_snoc16, List.length_append, List.length_singleton, Int.pow_succ]
    generalize (65536 : Int) ^ out.length = p at *
    have e : X * p = X % 65536 * p + X / 65536 * (p * 65536) := by
      have h1 : X = X % 65536 + 65536 * (X / 65536) := by omega
      calc X * p = (X % 65536 + 65536 * (X / 65536)) * p := by rw [← h1]
        _ = _ := by rw [Int.add_mul, Int.mul_comm 65536, Int.mul_assoc, Int.mul_comm 65536 p]
    omega
  · simp at hm
    subst hm
    simp [List.getD]
    omega
theorem No.len {x X : Int} {out : List Int} (h : No x X out) (h0 : 0 < X) (hx : x ≤ 18446744073709551615) : out.length < 4 := by
  rcases Nat.lt_or_ge out.length 4 with hl | hl
  · exact hl
  · have h1 := h.eq
    have h2 := val_nonneg16 h.dig
    obtain ⟨m, hm⟩ := Nat.exists_eq_add_of_le hl
    rw [hm, Int.pow_add] at h1
    have h5 : (65536 : Int) ^ 4 = 18446744073709551616 := by decide
    rw [h5] at h1
    have h3 : (0 : Int) < 65536 ^ m := Int.pow_pos (by decide)
    generalize (65536 : Int) ^ m = p at *
    have h4 := Int.mul_le_mul_of_nonneg_right (by omega : (1 : Int) ≤ X) (by omega : (0 : Int) ≤ 18446744073709551616 * p)
    rw [Int.one_mul] at h4
    omega

set_option maxRecDepth 100000 in
set_option maxHeartbeats 2000000 in
/-- The reference's NatOf. -/
theorem natOf_ok (w : World) (x : Int) (hx0 : 0 ≤ x) (hx1 : x ≤ 18446744073709551615) : Calls Tryz.prog 45 #[.int .u64 x] w fun e w' => ∃ r zs, e = .returned r ∧ Sl16 w' r zs ∧ Canon zs ∧ val16 zs = x ∧ zs.length ≤ 4 ∧ Below w.heap.size w w' := by
  obtain ⟨i0, hi, hz0, hz1, hz2⟩ := info_parts (show (Tryz.prog.info? 103).map (fun i => (i.zero, i.size, i.bytes)) = some (some (.int .u32 0), 1, 4) by kernel_rfl)
  go_enter Tryz.func45, Tryz.ntmps45
  go_wp2_with fail
  go_loopw [0, 3] (fun t0 t3 wr => ∃ (X : Int) (out : List Int) (k : Nat), t0 = .int .u64 X ∧ 0 ≤ X ∧ X ≤ 18446744073709551615 ∧ k = out.length ∧ k ≤ 4 ∧ wr.ownsRow w.heap.size 103 1 t3 k (out.map (Value.int .u32)) ∧ Hid (No x X out) ∧ Below w.heap.size w wr) (fun i _ _ => (intOf i).toNat)
  case atStart => exact ⟨x, [], 0, rfl, hx0, hx1, rfl, by omega, World.ownsRow_nil _ _ _ _, No.zero x, Below.refl _ _⟩
  case round =>
    obtain ⟨X, out, k, rfl, X0, X1, hk, hk4, hrow, hno, hbw⟩ := hrel
    have hws := hbw.size
    by_cases hp : 0 < X
    · have hk3 : k < 4 := by rw [hk]; exact hno.out.len hp hx1
      have hk' : Hid (k = out.length) := hk
      clear hk
      go_wp2_with (at_builtin; refine wpList_append_own _ rfl _ _ 68 rfl w.heap.size 103 i0 (.int .u32 0) 1 4 Tryz.underlying68 hi hz0 hz1 hz2 rfl (by decide) _ _ _ rfl (hrow.alloc _) ⟨wr.heap.size, 0, none⟩ 1 1 [.int .u32 (X % 65536)] rfl rfl (World.news_of_block (heap_alloc_last wr (.cells #[.int .u32 (X % 65536)] 103))) (ints_oneCell .u32 [X % 65536]) (by unfold maxLen; omega) (by omega) (by simp; omega) ?_; intro v' w2 hown2 hgrow2 _)
      go_roundw
      case rel =>
        refine ⟨X / 65536, out ++ [X % 65536], k + 1, rfl, by omega, by omega, by rw [hk'.out]; simp, by omega, by rw [List.map_append]; exact hown2, ?_, (hbw.alloc hws _).grown hgrow2 (by simp; omega) (fun g hg => (hrow.lt g hg).1)⟩
        exact hno.out.step hp
      case measure => simp [intOf]; omega
    · obtain rfl : X = 0 := by omega
      have hr := row_sl16 hk.symm hrow hno.out.dig (by omega)
      have he := hno.out.eq
      have hc := hno.out.can rfl
      go_wp2_with fail
      go_ret
      exact ⟨_, rfl, out, hr, hc, by omega, by omega, hbw⟩
end Go.Proofs.YtgmbeedbeahblaaGreatDoor

namespace Go.Proofs.YtgmbeedbeahblaaGreatDoor
open Go Go.RowKit

theorem val_lt_of {xs ys : List Int} {k : Nat} (hl : xs.length = ys.length) (dx : Dig16 xs) (dy : Dig16 ys) (hk : k < xs.length) (h : xs.getD k 0 < ys.getD k 0) (hag : ∀ j, k + 1 ≤ j → j < xs.length → xs.getD j 0 = ys.getD j 0) : val16 xs < val16 ys := by
  have key : ∀ m, k + 1 + m ≤ xs.length → val16 (xs.take (k + 1 + m)) < val16 (ys.take (k + 1 + m)) := by
    intro m
    induction m with
    | zero =>
      intro _
      have dt : ∀ l : List Int, Dig16 l → Dig16 (l.take k) := fun l hd j => by
        have := hd j
        simp only [List.getD, List.getElem?_take]
        split
        · exact this
        · simp
      have h1 := val_lt16 (dt xs dx)
      have h2 := val_nonneg16 (dt ys dy)
      rw [Nat.add_zero, val_take16', val_take16']
      rw [List.length_take, Nat.min_eq_left (by omega)] at h1
      generalize (65536 : Int) ^ k = p at *
      have h3 : (xs.getD k 0 + 1) * p ≤ ys.getD k 0 * p := Int.mul_le_mul_of_nonneg_right (by omega) (by have := val_nonneg16 (dt xs dx); omega)
      rw [Int.add_mul, Int.one_mul] at h3
      omega
    | succ m ih =>
      intro hm
      have h1 := ih (by omega)
      rw [← Nat.add_assoc, val_take16', val_take16', hag (k + 1 + m) (by omega) (by omega)]
      omega
  have := key (xs.length - (k + 1)) (by omega)
  rwa [show k + 1 + (xs.length - (k + 1)) = xs.length by omega, List.take_length, hl, List.take_length] at this

set_option maxRecDepth 100000 in
set_option maxHeartbeats 2000000 in
theorem natCmp_sgn (b o cap b2 o2 cap2 : Nat) (xs ys : List Int) (w : World) (hl : xs.length = ys.length) (dx : Dig16 xs) (dy : Dig16 ys) (hn : xs.length ≤ 1099511627776)
    (hcx : ∀ i, i < xs.length → w.cell? ⟨b, o + i, none⟩ = some (.int .u32 (xs.getD i 0))) (hcy : ∀ i, i < ys.length → w.cell? ⟨b2, o2 + i, none⟩ = some (.int .u32 (ys.getD i 0))) (hb1 : b < w.heap.size) (hb2 : b2 < w.heap.size) :
    Calls Tryz.prog 157 #[.slice (some ⟨b, o, none⟩) xs.length cap, .slice (some ⟨b2, o2, none⟩) xs.length cap2] w fun e w' => ∃ c : Int, e = .returned (.int .i64 c) ∧ (c < 0 ↔ val16 xs < val16 ys) ∧ (c = 0 ↔ xs = ys) ∧ Below w.heap.size w w' := by
  have dx' : Hid (Dig16 xs) := dx
  have dy' : Hid (Dig16 ys) := dy
  clear dx dy
  go_enter Tryz.func157, Tryz.ntmps157
  go_wp2
  go_loopw [5] (fun i wr => ∃ k : Nat, k ≤ xs.length ∧ i = .int .i64 ((k : Int) - 1) ∧ (∀ j, k ≤ j → j < xs.length → xs.getD j 0 = ys.getD j 0) ∧ Below w.heap.size w wr) (fun i _ => (intOf i + 1).toNat)
  case atStart => exact ⟨xs.length, Nat.le_refl _, by simp [hl], fun j h1 h2 => by omega, Below.refl _ _⟩
  case round =>
    obtain ⟨k, hk, rfl, hag, hbw⟩ := hrel
    have hHid : Hid (∀ j, k ≤ j → j < xs.length → xs.getD j 0 = ys.getD j 0) := hag
    clear hag
    match k, hk, hHid with
    | 0, hk, hHid =>
      go_wp2
      go_ret
      have e := eq_of_agree hl (fun j hj => hHid.out j (Nat.zero_le _) hj)
      exact ⟨0, rfl, by simp [e], by simp [e], hbw⟩
    | k + 1, hk, hHid =>
      have e1 : ((k + 1 : Nat) : Int) - 1 = (k : Int) := by omega
      rw [e1]
      have c1 : wr.cell? ⟨b, o + k, none⟩ = some (.int .u32 (xs.getD k 0)) := (hbw.cell (by exact hb1)).trans (hcx k (by omega))
      have c2 : wr.cell? ⟨b2, o2 + k, none⟩ = some (.int .u32 (ys.getD k 0)) := (hbw.cell (by exact hb2)).trans (hcy k (by omega))
      generalize hX : xs.getD k 0 = X at c1
      generalize hY : ys.getD k 0 = Y at c2
      have hkl : (k : Int) < (xs.length : Int) := by omega
      go_wp2
      go_quiet (fail)
      have hB : Below w.heap.size w (wr.drewN nq) := below_draws hbw _
      have c1' : (wr.drewN nq).cell? ⟨b, o + k, none⟩ = some (.int .u32 X) := c1
      have c2' : (wr.drewN nq).cell? ⟨b2, o2 + k, none⟩ = some (.int .u32 Y) := c2
      generalize wr.drewN nq = wz at hB c1' c2' ⊢
      clear c1 c2
      go_wp2
      · go_ret
        have hlt : X < Y := by assumption
        have e := not_eq_at (xs := xs) (ys := ys) (j := k) (by omega)
        exact ⟨-1, rfl, ⟨fun _ => val_lt_of hl dx'.out dy'.out (by omega) (by rw [hX, hY]; exact hlt) hHid.out, fun _ => by decide⟩, by simp [e], hB⟩
      · go_quiet (fail)
        have hB2 : Below w.heap.size w (wz.drewN nq) := below_draws hB _
        go_wp2
        · go_ret
          have hlt : X > Y := by assumption
          have e := not_eq_at (xs := xs) (ys := ys) (j := k) (by omega)
          have hv := val_lt_of hl.symm dy'.out dx'.out (k := k) (by omega) (by rw [hX, hY]; exact hlt) (fun j h1 h2 => (hHid.out j h1 (by omega)).symm)
          exact ⟨1, rfl, ⟨fun h => absurd h (by decide), fun h => by omega⟩, by simp [e], hB2⟩
        · go_roundw
          case rel =>
            refine ⟨k, by omega, by go_num, fun j h1 h2 => ?_, hB2⟩
            rcases Nat.lt_or_ge k j with h | h
            · exact hHid.out j h h2
            · have : j = k := by omega
              subst this; omega
          case measure => simp [intOf]

end Go.Proofs.YtgmbeedbeahblaaGreatDoor

namespace Go.Proofs.YtgmbeedbeahblaaGreatDoor
open Go Go.RowKit

/-- The longer canonical number is the greater. -/
theorem val_len_lt {xs ys : List Int} (dx : Dig16 xs) (dy : Dig16 ys) (cy : Canon ys) (hl : xs.length < ys.length) : val16 xs < val16 ys := by
  obtain ⟨m, hm⟩ : ∃ m, ys.length = m + 1 := ⟨ys.length - 1, by omega⟩
  have h0 := cy m hm
  have h1 := dy m
  have hv := val_take16' ys m
  rw [← hm, List.take_length] at hv
  have dt : Dig16 (ys.take m) := fun j => by
    have := dy j
    simp only [List.getD, List.getElem?_take]
    split
    · exact this
    · simp
  have h2 := val_nonneg16 dt
  have h3 := val_lt16 dx
  obtain ⟨d, hd⟩ : ∃ d, m = xs.length + d := ⟨m - xs.length, by omega⟩
  have h4 : (65536 : Int) ^ xs.length ≤ 65536 ^ m := by
    rw [hd, Int.pow_add]
    have a1 : (0 : Int) < 65536 ^ d := Int.pow_pos (by decide)
    have a2 : (0 : Int) < 65536 ^ xs.length := Int.pow_pos (by decide)
    have := Int.mul_le_mul_of_nonneg_left (by omega : (1 : Int) ≤ 65536 ^ d) (by omega : (0 : Int) ≤ 65536 ^ xs.length)
    rwa [Int.mul_one] at this
  have h5 : (1 : Int) * 65536 ^ m ≤ ys.getD m 0 * 65536 ^ m := Int.mul_le_mul_of_nonneg_right (by omega) (by have : (0 : Int) < 65536 ^ m := Int.pow_pos (by decide); omega)
  rw [Int.one_mul] at h5
  omega

set_option maxRecDepth 100000 in
theorem natCmp_short (q q' : Option Addr) (m n cap cap' : Nat) (w : World) (h : m < n) : Calls Tryz.prog 157 #[.slice q m cap, .slice q' n cap'] w fun e w' => e = .returned (.int .i64 (-1)) ∧ w' = w := by
  have h' : ¬ (m : Int) = (n : Int) := by omega
  have h2 : (m : Int) < (n : Int) := by omega
  clear h
  go_enter Tryz.func157, Tryz.ntmps157
  go_wp2
  go_ret
  exact ⟨rfl, rfl⟩
set_option maxRecDepth 100000 in
theorem natCmp_long (q q' : Option Addr) (m n cap cap' : Nat) (w : World) (h : n < m) : Calls Tryz.prog 157 #[.slice q m cap, .slice q' n cap'] w fun e w' => e = .returned (.int .i64 1) ∧ w' = w := by
  have h' : ¬ (m : Int) = (n : Int) := by omega
  have h2 : ¬ (m : Int) < (n : Int) := by omega
  clear h
  go_enter Tryz.func157, Tryz.ntmps157
  go_wp2
  go_ret
  exact ⟨rfl, rfl⟩

/-- NatCmp of canonical numbers: its sign. -/
theorem natCmp_sg {w : World} {v u : Value} {xs ys : List Int} (hx : Sl16 w v xs) (hy : Sl16 w u ys) (cx : Canon xs) (cy : Canon ys) :
    Calls Tryz.prog 157 #[v, u] w fun e w' => ∃ c : Int, e = .returned (.int .i64 c) ∧ (c < 0 ↔ val16 xs < val16 ys) ∧ (c = 0 ↔ xs = ys) ∧ Below w.heap.size w w' := by
  obtain ⟨x1, x2, q, cap, rfl, x4, x5⟩ := hx
  obtain ⟨y1, y2, q', cap', rfl, y4, y5⟩ := hy
  rcases Nat.lt_trichotomy xs.length ys.length with hl | hl | hl
  · refine (natCmp_short q q' xs.length ys.length cap cap' w hl).mono ?_
    rintro e w' ⟨rfl, rfl⟩
    exact ⟨-1, rfl, ⟨fun _ => val_len_lt x1 y1 cy hl, fun _ => by decide⟩, ⟨fun h => absurd h (by decide), fun h => by rw [h] at hl; omega⟩, Below.refl _ _⟩
  · by_cases hx0 : xs = []
    · subst hx0
      have hy0 : ys = [] := List.eq_nil_of_length_eq_zero hl.symm
      subst hy0
      refine (natCmp_none q q' cap cap' w).mono ?_
      rintro e w' ⟨rfl, rfl⟩
      exact ⟨0, rfl, by simp, by simp, Below.refl _ _⟩
    · have hy0 : ys ≠ [] := fun h => hx0 (List.eq_nil_of_length_eq_zero (by rw [hl, h]; rfl))
      rcases x5 with h | ⟨b, o, rfl, hlt, hc⟩
      · exact absurd h hx0
      rcases y5 with h | ⟨b', o', rfl, hlt', hc'⟩
      · exact absurd h hy0
      rw [← hl]
      exact natCmp_sgn b o cap b' o' cap' xs ys w hl x1 y1 (by omega) hc hc' hlt hlt'
  · refine (natCmp_long q q' xs.length ys.length cap cap' w hl).mono ?_
    rintro e w' ⟨rfl, rfl⟩
    have := val_len_lt y1 x1 cx hl
    exact ⟨1, rfl, ⟨fun h => absurd h (by decide), fun h => by omega⟩, ⟨fun h => absurd h (by decide), fun h => by rw [h] at hl; omega⟩, Below.refl _ _⟩
end Go.Proofs.YtgmbeedbeahblaaGreatDoor

namespace Go.Proofs.YtgmbeedbeahblaaGreatDoor
open Go Go.RowKit

theorem trim_sl {w : World} {u : Value} {us : List Int} (hu : Sl16 w u us) : ∃ r, Calls Tryz.prog 143 #[u] w (fun e w' => e = .returned r ∧ w' = w) ∧ Sl16 w r (trim us) := by
  obtain ⟨d, l, q, cap, rfl, hc, hx⟩ := hu
  have htl : (trim us).length = trimTo us us.length := trim_length us
  have htt := trimTo_le us us.length
  rcases hx with rfl | ⟨b, o, rfl, hb, hcs⟩
  · exact ⟨_, trim16_none q cap w, dig_trim16 d, by rw [htl]; simp [trimTo], q, cap, rfl, Nat.zero_le _, .inl rfl⟩
  · refine ⟨_, trim16_walk b o us.length cap us w hcs hc (by omega), dig_trim16 d, by omega, some ⟨b, o, none⟩, cap, by rw [htl], by omega, .inr ⟨b, o, rfl, hb, fun i hi => ?_⟩⟩
    rw [trim_getD _ _ hi]
    exact hcs i (by omega)

set_option maxRecDepth 100000 in
theorem natMul_zero_right (q q' : Option Addr) (m cap cap' : Nat) (w : World) : Calls Tryz.prog 340 #[.slice q m cap, .slice q' 0 cap'] w fun e w' => e = .returned (.slice none 0 0) ∧ w' = w := by
  by_cases h : m = 0
  · subst h
    go_enter Tryz.func340, Tryz.ntmps340
    go_wp2
    go_ret
    exact ⟨rfl, rfl⟩
  · have h' : ¬ (m : Int) = 0 := by omega
    have hb : ((m : Int) == 0) = false := by simp; omega
    clear h
    go_enter Tryz.func340, Tryz.ntmps340
    go_wp2
    go_ret
    exact ⟨rfl, rfl⟩

/-- NatMul of whatever. -/
theorem natMul_all {w : World} {v u : Value} {xs ys : List Int} (hx : Sl16 w v xs) (hy : Sl16 w u ys) (nx : xs ≠ []) (hn : xs.length + ys.length ≤ 549755813888) :
    Calls Tryz.prog 340 #[v, u] w fun e w' => ∃ r zs, e = .returned r ∧ Sl16 w' r zs ∧ Canon zs ∧ val16 zs = val16 xs * val16 ys ∧ Below w.heap.size w w' := by
  by_cases ny : ys = []
  · subst ny
    obtain ⟨x1, x2, q, cap, rfl, x4, x5⟩ := hx
    obtain ⟨y1, y2, q', cap', rfl, y4, y5⟩ := hy
    refine (natMul_zero_right q q' xs.length cap cap' w).mono ?_
    rintro e w' ⟨rfl, rfl⟩
    exact ⟨_, [], rfl, ⟨y1, by simp, none, 0, rfl, Nat.le_refl _, .inl rfl⟩, fun m hm => by simp at hm, by simp [val16], Below.refl _ _⟩
  · exact natMul_ok hx hy nx ny hn

set_option maxRecDepth 100000 in
set_option maxHeartbeats 2000000 in
/-- less: whether a rest is less than a multiple. -/
theorem less_ok {w : World} {u v : Value} {us vs : List Int} {g : Int} (hu : Sl16 w u us) (hv : Sl16 w v vs) (nv : vs ≠ []) (hg0 : 0 ≤ g) (hg1 : g ≤ 18446744073709551615) (hn : vs.length + 4 ≤ 549755813888) :
    Calls Tryz.prog 263 #[u, v, .int .u64 g] w fun e w' => e = .returned (.bool (decide (val16 us < val16 vs * g))) ∧ Below w.heap.size w w' := by
  have hof := natOf_ok w g hg0 hg1
  go_enter Tryz.func263, Tryz.ntmps263
  go_wp2_with (first
    | (go_at_call 45; refine hof.mono ?_; rintro e w1 ⟨r1, zs, rfl, hz, hzc, hzv, hzl, hb1⟩
       have hmul := natMul_all (hv.below hb1) hz nv (by omega))
    | (go_at_call 340; refine hmul.mono ?_; rintro e w2 ⟨r2, ms, rfl, hm, hmc, hmv, hb2⟩
       obtain ⟨r3, ht, hts⟩ := trim_sl ((hu.below hb1).below hb2))
    | (go_at_call 143; refine ht.mono ?_; rintro e w3 ⟨rfl, rfl⟩
       have hcmp := natCmp_sg hts hm (canon_trim us) hmc)
    | (go_at_call 157; refine hcmp.mono ?_; rintro e w4 ⟨cc, rfl, hc1, hc2, hb4⟩))
  go_ret
  rw [val_trim16, hmv, hzv] at hc1
  refine ⟨?_, ?_⟩
  · simp [val_trim16]
  · exact hb1.trans ((hb2.trans (hb4.mono hb2.size)).mono hb1.size)
end Go.Proofs.YtgmbeedbeahblaaGreatDoor
