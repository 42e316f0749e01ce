/-
  The reference's numbers: their values.
-/
import Derived.Test.YtgmbeedbeahblaaGreatDoorDvA
import Derived.Maps.AppendAt
import Derived.Deep.RegionWith
namespace Go.Proofs.YtgmbeedbeahblaaGreatDoor
open Go Go.RowKit

/-! ### Words to the base 2^32 -/
def val16 : List Int → Int
  | [] => 0
  | d :: r => d + 65536 * val16 r

def Dig16 (l : List Int) : Prop := ∀ j : Nat, 0 ≤ l.getD j 0 ∧ l.getD j 0 ≤ 65535

theorem val_set16 : ∀ (l : List Int) (j : Nat) (d : Int), j < l.length → val16 (l.set j d) = val16 l + (d - l.getD j 0) * 65536 ^ j
  | [], j, d, h => by simp at h
  | x :: l, 0, d, h => by simp [val16]; omega
  | x :: l, j + 1, d, h => by
    have := val_set16 l j d (by simpa using h)
    simp only [List.set_cons_succ, val16, this, List.getD_cons_succ]
    rw [Int.pow_succ]
    generalize (65536 : Int) ^ j = p
    generalize d - l.getD j 0 = q
    rw [Int.mul_add, ← Int.mul_assoc, ← Int.mul_assoc, Int.mul_comm 65536 q, Int.mul_assoc q 65536 p, Int.mul_comm 65536 p, ← Int.mul_assoc q p]
    omega

theorem val_take16 : ∀ (l : List Int) (k : Nat), k < l.length → val16 (l.take (k + 1)) = val16 (l.take k) + l.getD k 0 * 65536 ^ k
  | [], k, h => by simp at h
  | x :: l, 0, h => by simp [val16]
  | x :: l, k + 1, h => by
    have := val_take16 l k (by simpa using h)
    simp only [List.take_succ_cons, val16, this, List.getD_cons_succ]
    rw [Int.pow_succ]
    generalize (65536 : Int) ^ k = p
    generalize l.getD k 0 = q
    rw [Int.mul_add, Int.mul_comm 65536 (q * p), Int.mul_assoc q p 65536]
    omega

theorem dig_set16 {l : List Int} (h : Dig16 l) {j : Nat} {d : Int} (hd : 0 ≤ d ∧ d ≤ 65535) : Dig16 (l.set j d) := by
  intro i
  have := h i
  simp only [List.getD_eq_getElem?_getD, List.getElem?_set] at this ⊢
  split
  · split
    · simpa using hd
    · simp
  · exact this

theorem mul_bound16 {a b : Int} (ha : 0 ≤ a ∧ a ≤ 65535) (hb : 0 ≤ b ∧ b ≤ 65535) : 0 ≤ a * b ∧ a * b ≤ 4294836225 := by
  refine ⟨Int.mul_nonneg ha.1 hb.1, ?_⟩
  have h := Int.mul_le_mul ha.2 hb.2 hb.1 (by omega)
  exact Int.le_trans h (by decide)

structure In16 (x : Int) (ys os0 : List Int) (i k n : Nat) (os : List Int) (c : Int) : Prop where
  len : os.length = n
  dig : Dig16 os
  c0 : 0 ≤ c ∧ c ≤ 65535
  eq : val16 os + c * 65536 ^ (i + k) = val16 os0 + x * val16 (ys.take k) * 65536 ^ i
  rest : ∀ j, i + k ≤ j → os.getD j 0 = os0.getD j 0

theorem sum_bound16 {x y d c : Int} (hx : 0 ≤ x ∧ x ≤ 65535) (hy : 0 ≤ y ∧ y ≤ 65535) (hd : 0 ≤ d ∧ d ≤ 65535) (hc : 0 ≤ c ∧ c ≤ 65535) : 0 ≤ x * y + d + c ∧ x * y + d + c ≤ 4294967295 := by
  have := mul_bound16 hx hy
  omega

theorem In16.step {x : Int} {ys os0 os : List Int} {i k n : Nat} {c : Int} (h : In16 x ys os0 i k n os c) (hx : 0 ≤ x ∧ x ≤ 65535) (hy : Dig16 ys) (hk : k < ys.length) (hn : i + ys.length ≤ n) :
    In16 x ys os0 i (k + 1) n (os.set (i + k) ((x * ys.getD k 0 + os.getD (i + k) 0 + c) % 65536)) ((x * ys.getD k 0 + os.getD (i + k) 0 + c) / 65536) := by
  have hs := sum_bound16 hx (hy k) (h.dig (i + k)) h.c0
  have hv := val_set16 os (i + k) ((x * ys.getD k 0 + os.getD (i + k) 0 + c) % 65536) (by rw [h.len]; omega)
  have ht := val_take16 ys k hk
  refine ⟨by simp [h.len], dig_set16 h.dig ?_, ?_, ?_, fun j hj => ?_⟩
  · generalize x * ys.getD k 0 + os.getD (i + k) 0 + c = s at hs
    omega
  · generalize x * ys.getD k 0 + os.getD (i + k) 0 + c = s at hs
    omega
  · have e := h.eq
    rw [hv, ht]
    have hp : (65536 : Int) ^ (i + (k + 1)) = 65536 ^ (i + k) * 65536 := by rw [← Nat.add_assoc, Int.pow_succ]
    have hq : (65536 : Int) ^ (i + k) = 65536 ^ k * 65536 ^ i := by rw [Int.pow_add, Int.mul_comm]
    have hdm := Int.emod_add_mul_ediv (x * ys.getD k 0 + os.getD (i + k) 0 + c) 65536
    rw [hp]
    generalize hS : x * ys.getD k 0 + os.getD (i + k) 0 + c = S at hdm ⊢
    generalize hD : os.getD (i + k) 0 = D at hS ⊢
    have lhs : val16 os + (S % 65536 - D) * 65536 ^ (i + k) + S / 65536 * (65536 ^ (i + k) * 65536) = val16 os + c * 65536 ^ (i + k) + x * ys.getD k 0 * 65536 ^ (i + k) := by
      have e1 : S / 65536 * (65536 ^ (i + k) * 65536) = (65536 * (S / 65536)) * 65536 ^ (i + k) := by
        rw [Int.mul_comm (65536 ^ (i + k)) 65536, ← Int.mul_assoc, Int.mul_comm (S / 65536) 65536]
      rw [e1, Int.add_assoc, ← Int.add_mul, Int.add_assoc (val16 os), ← Int.add_mul]
      congr 2
      omega
    rw [lhs, e, hq, Int.mul_add, Int.add_mul, ← Int.mul_assoc, ← Int.mul_assoc, Int.add_assoc]
  · have := h.rest j (by omega)
    rw [← this]
    simp only [List.getD_eq_getElem?_getD, List.getElem?_set]
    rw [if_neg (by omega)]

structure Out16 (xs ys : List Int) (n i : Nat) (os : List Int) : Prop where
  len : os.length = n
  dig : Dig16 os
  eq : val16 os = val16 (xs.take i) * val16 ys
  rest : ∀ j, i + ys.length ≤ j → os.getD j 0 = 0

theorem Out16.start {xs ys os : List Int} {n i : Nat} (h : Out16 xs ys n i os) : In16 (xs.getD i 0) ys os i 0 n os 0 :=
  ⟨h.len, h.dig, by decide, by simp [val16], fun _ _ => rfl⟩

theorem Out16.row {xs ys os0 os : List Int} {n i : Nat} {c : Int} (h0 : Out16 xs ys n i os0) (hi : i < xs.length) (hn : xs.length + ys.length = n) (h : In16 (xs.getD i 0) ys os0 i ys.length n os c) :
    Out16 xs ys n (i + 1) (os.set (i + ys.length) c) := by
  have hz : os.getD (i + ys.length) 0 = 0 := by rw [h.rest _ (Nat.le_refl _)]; exact h0.rest _ (Nat.le_refl _)
  have hv := val_set16 os (i + ys.length) c (by rw [h.len]; omega)
  refine ⟨by simp [h.len], dig_set16 h.dig h.c0, ?_, fun j hj => ?_⟩
  · rw [hv, hz, Int.sub_zero, h.eq, h0.eq, val_take16 xs i hi, List.take_length, Int.add_mul]
    rw [Int.mul_assoc (xs.getD i 0), Int.mul_comm (val16 ys), ← Int.mul_assoc]
  · have := h.rest j (by omega)
    have h1 := h0.rest j (by omega)
    simp only [List.getD_eq_getElem?_getD, List.getElem?_set] at this h1 ⊢
    rw [if_neg (by omega), this, h1]

theorem Out16.zero (xs ys : List Int) (n : Nat) : Out16 xs ys n 0 (List.replicate n 0) := by
  have hg : ∀ j, (List.replicate n (0 : Int)).getD j 0 = 0 := by
    intro j
    simp only [List.getD_eq_getElem?_getD, List.getElem?_replicate]
    split <;> rfl
  have hv : ∀ n : Nat, val16 (List.replicate n 0) = 0 := by
    intro n
    induction n with
    | zero => rfl
    | succ n ih => simp [List.replicate_succ, val16, ih]
  exact ⟨by simp, fun j => by rw [hg j]; decide, by simp [hv, val16], fun j _ => hg j⟩
theorem val_append16 : ∀ (a b : List Int), val16 (a ++ b) = val16 a + 65536 ^ a.length * val16 b
  | [], b => by simp [val16]
  | x :: a, b => by
    simp only [List.cons_append, val16, val_append16 a b, List.length_cons, Int.pow_succ]
    rw [Int.mul_add, ← Int.mul_assoc, Int.mul_comm 65536 (65536 ^ a.length)]
    omega

theorem val_take_trim16 (xs : List Int) : ∀ n, n ≤ xs.length → val16 (xs.take (trimTo xs n)) = val16 (xs.take n)
  | 0, _ => rfl
  | n + 1, h => by
    unfold trimTo
    split
    · rename_i h0
      rw [val_take_trim16 xs n (by omega), val_take16 xs n (by omega), h0]; simp
    · rfl

theorem val_trim16 (xs : List Int) : val16 (trim xs) = val16 xs := by
  unfold trim
  rw [val_take_trim16 xs xs.length (Nat.le_refl _), List.take_length]


theorem dig_trim16 {xs : List Int} (h : Dig16 xs) : Dig16 (trim xs) := by
  intro j
  have := h j
  simp only [trim, List.getD_eq_getElem?_getD, List.getElem?_take] at this ⊢
  split
  · exact this
  · simp

theorem dig_tail16 {x : Int} {xs : List Int} (h : Dig16 (x :: xs)) : Dig16 xs := fun j => by simpa using h (j + 1)

theorem val_nonneg16 : ∀ {xs : List Int}, Dig16 xs → 0 ≤ val16 xs
  | [], _ => Int.le_refl _
  | x :: xs, h => by
    have h0 := (h 0).1
    have := val_nonneg16 (dig_tail16 h)
    simp only [List.getD_cons_zero] at h0
    simp only [val16]; omega

theorem val_pos16 : ∀ {xs : List Int}, Dig16 xs → Canon xs → xs ≠ [] → 0 < val16 xs
  | [], _, _, h => absurd rfl h
  | [x], hd, hc, _ => by
    have h1 := hc 0 rfl
    have h0 := (hd 0).1
    simp at h1 h0
    simp [val16]; omega
  | x :: y :: xs, hd, hc, _ => by
    have := val_pos16 (dig_tail16 hd) (canon_tail hc) (by simp)
    have h0 := (hd 0).1
    simp only [List.getD_cons_zero] at h0
    rw [val16]; omega

theorem val_inj16 : ∀ {xs ys : List Int}, Dig16 xs → Dig16 ys → Canon xs → Canon ys → val16 xs = val16 ys → xs = ys
  | [], [], _, _, _, _, _ => rfl
  | [], y :: ys, _, hd, _, hc, h => by have := val_pos16 hd hc (by simp); rw [← h] at this; simp [val16] at this
  | x :: xs, [], hd, _, hc, _, h => by have := val_pos16 hd hc (by simp); rw [h] at this; simp [val16] at this
  | x :: xs, y :: ys, hx, hy, cx, cy, h => by
    have h1 := hx 0
    have h2 := hy 0
    simp only [List.getD_cons_zero] at h1 h2
    simp only [val16] at h
    have e1 : x = y := by omega
    have e2 : val16 xs = val16 ys := by omega
    rw [e1, val_inj16 (dig_tail16 hx) (dig_tail16 hy) (canon_tail cx) (canon_tail cy) e2]

/-- Equality of the words of two products is equality of the products. -/
theorem trim_eq_iff16 {xs ys : List Int} (hx : Dig16 xs) (hy : Dig16 ys) : trim xs = trim ys ↔ val16 xs = val16 ys := by
  constructor
  · intro h; rw [← val_trim16 xs, ← val_trim16 ys, h]
  · intro h; exact val_inj16 (dig_trim16 hx) (dig_trim16 hy) (canon_trim xs) (canon_trim ys) (by rw [val_trim16, val_trim16, h])
theorem trim_nil16 {xs : List Int} (h : Dig16 xs) : trim xs = [] ↔ val16 xs = 0 := by
  rw [show ([] : List Int) = trim [] from rfl, trim_eq_iff16 h (fun j => by simp)]
  simp [val16]

end Go.Proofs.YtgmbeedbeahblaaGreatDoor

namespace Go.Proofs.YtgmbeedbeahblaaGreatDoor
open Go Go.RowKit

theorem trim16_walk (b o len cap : Nat) (xs : List Int) (w : World) (hc : ∀ i, i < len → w.cell? ⟨b, o + i, none⟩ = some (.int .u32 (xs.getD i 0))) (hm : len ≤ cap) (hm2 : len ≤ 1099511627776) :
    Calls Tryz.prog 143 #[.slice (some ⟨b, o, none⟩) len cap] w fun e w' => e = .returned (.slice (some ⟨b, o, none⟩) (trimTo xs len) cap) ∧ w' = w := by
  go_enter Tryz.func143, Tryz.ntmps143
  go_wp2
  go_loop [3] (fun i => ∃ k : Nat, k ≤ len ∧ i = .int .i64 k ∧ trimTo xs k = trimTo xs len) (fun i => (intOf i).toNat)
  case atStart => exact ⟨len, Nat.le_refl _, rfl, rfl⟩
  case round =>
    obtain ⟨k, hk, rfl, ht⟩ := hrel
    have hHid : Hid (trimTo xs k = trimTo xs len) := ht
    clear ht
    match k, hk, hHid with
    | 0, hk, hHid =>
      go_wp2
      go_ret
      have h0 : trimTo xs len = 0 := hHid.out.symm
      refine ⟨?_, rfl⟩
      simp [h0]
    | k + 1, hk, hHid =>
      have hck : w.cell? ⟨b, o + k, none⟩ = some (.int .u32 (xs.getD k 0)) := hc k (by omega)
      go_wp2
      · go_round
        case rel =>
          have h0' : (xs[k]?.getD 0 == 0) = true := by assumption
          have h0 : xs[k]?.getD 0 = 0 := by simpa using h0'
          refine ⟨k, by omega, by go_num, ?_⟩
          rw [← hHid.out]
          simp [trimTo, h0]
        case measure => simp [intOf]
      · go_ret
        have h0' : (xs[k]?.getD 0 == 0) = false := by assumption
        have h0 : ¬ xs[k]?.getD 0 = 0 := by simpa using h0'
        refine ⟨?_, rfl⟩
        rw [← hHid.out]
        simp [trimTo, h0]
set_option maxRecDepth 100000 in
theorem trim16_none (q : Option Addr) (cap : Nat) (w : World) : Calls Tryz.prog 143 #[.slice q 0 cap] w fun e w' => e = .returned (.slice q 0 cap) ∧ w' = w := by
  go_enter Tryz.func143, Tryz.ntmps143
  go_wp2
  refine wp_loop_once ?_
  go_wp2
  go_ret
  exact ⟨rfl, rfl⟩

set_option maxRecDepth 100000 in
theorem natMul_walk (b o cap b2 o2 cap2 n : Nat) (xs ys : List Int) (w : World) (hlen : xs.length + ys.length = n) (hn : n ≤ 1099511627776) (hdx : Dig16 xs) (hdy : Dig16 ys)
    (hcx : ∀ i, i < xs.length → w.cell? ⟨b, o + i, none⟩ = some (.int .u32 (xs.getD i 0))) (hcy : ∀ i, i < ys.length → w.cell? ⟨b2, o2 + i, none⟩ = some (.int .u32 (ys.getD i 0))) (hb1 : b < w.heap.size) (hb2 : b2 < w.heap.size) (nx : ((xs.length : Int) == 0) = false) (ny : ((ys.length : Int) == 0) = false) :
    Calls Tryz.prog 340 #[.slice (some ⟨b, o, none⟩) xs.length cap, .slice (some ⟨b2, o2, none⟩) ys.length cap2] w fun e w' => ∃ os, Out16 xs ys n xs.length os ∧ e = .returned (.slice (some ⟨w.heap.size, 0, none⟩) (trimTo os n) n) ∧ Blk w' w.heap.size os ∧ Below w.heap.size w w' := by
  obtain ⟨i0, hi, hz0, hz1, hz2⟩ := info_parts (show (Tryz.prog.info? 103).map (fun i => (i.zero, i.size, i.bytes)) = some (some (.int .u32 0), 1, 4) by kernel_rfl)
  go_enter Tryz.func340, Tryz.ntmps340
  go_wp2_with (at_make; refine wpList_make_full _ rfl _ _ 68 rfl w.heap.size 103 i0 (.int .u32 0) 1 Tryz.underlying68 hi hz0 hz1 _ _ _ _ n rfl rfl (by omega) (by omega) (by rw [hz2]; omega) (by unfold maxLen; omega) (Nat.le_refl _) ?_)
  intro w1 hown hgrow
  have hblk : Blk w1 w.heap.size (List.replicate n 0) := made_blk hown
  have hbel : Below w.heap.size w w1 := (Below.refl _ _).grown hgrow (Nat.le_refl _) (fun _ h => by cases h)
  clear hown hgrow hi hz0 hz1 hz2
  go_wp2
  go_loopw [28] (fun i wr => ∃ (k : Nat) (os : List Int), k ≤ xs.length ∧ i = .int .i64 k ∧ Out16 xs ys n k os ∧ Blk wr w.heap.size os ∧ Below w.heap.size w wr) (fun i _ => xs.length - (intOf i).toNat)
  case atStart => exact ⟨0, _, Nat.zero_le _, rfl, Out16.zero xs ys n, hblk, hbel⟩
  case round =>
    obtain ⟨k, os, hk, rfl, hout, hb, hbw⟩ := hrel
    have hcxk : k < xs.length → wr.cell? ⟨b, o + k, none⟩ = some (.int .u32 (xs.getD k 0)) := fun h => (hbw.cell (by exact hb1)).trans (hcx k h)
    have htrim := trim16_walk w.heap.size 0 n n os wr (fun i hi => by simpa using hb.cell (by rw [hout.len]; exact hi)) (Nat.le_refl _) hn
    go_wp2_with (go_at_call 143; refine htrim.mono ?_; rintro e w9 ⟨rfl, rfl⟩)
    · have hlt : k < xs.length := by assumption
      clear htrim hcxk
      have hxk : xs.getD k 0 = xs[k] := by simp [hlt]
      have hx0 := hdx k
      rw [hxk] at hx0
      have hst := hout.start
      rw [hxk] at hst
      have hrow := fun os1 cc => Out16.row (os := os1) (c := cc) hout hlt hlen
      rw [hxk] at hrow
      generalize xs[k] = x at hx0 hst hrow ⊢
      have hd : decide (k < xs.length) = true := by simp [hlt]
      rw [hd]
      clear hd
      go_loopw [35, 8] (fun i c wq => ∃ (m : Nat) (os1 : List Int) (cc : Int), m ≤ ys.length ∧ i = .int .i64 m ∧ c = .int .u64 cc ∧ In16 x ys os k m n os1 cc ∧ Blk wq w.heap.size os1 ∧ Below w.heap.size w wq) (fun i _ _ => ys.length - (intOf i).toNat)
      case atStart => exact ⟨0, os, 0, Nat.zero_le _, rfl, rfl, hst, hb, hbw⟩
      case round =>
        obtain ⟨m, os1, cc, hm, rfl, rfl, hin, hb1', hbw1⟩ := hrel
        have hcym : m < ys.length → wr.cell? ⟨b2, o2 + m, none⟩ = some (.int .u32 (ys.getD m 0)) := fun h => (hbw1.cell (by exact hb2)).trans (hcy m h)
        have hcom : m < ys.length → wr.cell? ⟨w.heap.size, k + m, none⟩ = some (.int .u32 (os1.getD (k + m) 0)) := fun h => hb1'.cell (by rw [hin.len]; omega)
        have hfr := hb1'.frozen (k + m)
        have hcend : wr.cell? ⟨w.heap.size, k + ys.length, none⟩ = some (.int .u32 (os1.getD (k + ys.length) 0)) := hb1'.cell (by rw [hin.len]; omega)
        have hfr2 := hb1'.frozen (k + ys.length)
        have hym := hdy m
        have hom := hin.dig (k + m)
        have hcc := hin.c0
        go_wp2
        · have hml : m < ys.length := by assumption
          go_roundw
          case rel =>
            have hyg : ys.getD m 0 = ys[m] := by simp [hml]
            have hstep := hin.step hx0 hdy hml (by omega)
            rw [hyg] at hstep hym
            have hp := mul_bound16 hx0 hym
            have hs := sum_bound16 hx0 hym hom hcc
            have hog : os1[k + m]?.getD 0 = os1.getD (k + m) 0 := by simp
            rw [hog]
            have hsum : IntKind.u64.wrap (IntKind.u64.wrap (IntKind.u64.wrap (os1.getD (k + m) 0) + IntKind.u64.wrap (x * IntKind.u64.wrap ys[m])) + cc) = x * ys[m] + os1.getD (k + m) 0 + cc := by
              have hy1 : IntKind.u64.wrap ys[m] = ys[m] := by
                rw [IntKind.wrap_u64]
                omega
              rw [hy1]
              generalize x * ys[m] = p at hp hs ⊢
              generalize os1.getD (k + m) 0 = d at hom hs ⊢
              simp only [IntKind.wrap_u64]
              omega
            rw [hsum]
            have hd1 : IntKind.u64.wrap ((x * ys[m] + os1.getD (k + m) 0 + cc).tdiv 65536) = (x * ys[m] + os1.getD (k + m) 0 + cc) / 65536 := by
              rw [Int.tdiv_eq_ediv_of_nonneg hs.1, IntKind.wrap_u64]
              generalize x * ys[m] + os1.getD (k + m) 0 + cc = p at hs ⊢
              omega
            have hd2 : (x * ys[m] + os1.getD (k + m) 0 + cc).tmod 65536 % 4294967296 = (x * ys[m] + os1.getD (k + m) 0 + cc) % 65536 := by
              rw [Int.tmod_eq_emod_of_nonneg hs.1]
              generalize x * ys[m] + os1.getD (k + m) 0 + cc = p at hs ⊢
              omega
            rw [hd1, hd2]
            exact ⟨m + 1, _, _, by omega, by go_num, rfl, hstep, hb1'.set _ _, hbw1.setCell (p := ⟨w.heap.size, k + m, none⟩) (Nat.le_refl _) _⟩
          case measure => simp [intOf]; omega
        · have hml : m = ys.length := by omega
          subst hml
          go_round
          case rel =>
            exact ⟨k + 1, _, by omega, by go_num, hrow _ _ hin, hb1'.set _ _, hbw1.setCell (p := ⟨w.heap.size, k + ys.length, none⟩) (Nat.le_refl _) _⟩
          case measure => simp [intOf]; omega
    · go_ret
      have hkx : k = xs.length := by omega
      subst hkx
      exact ⟨os, hout, rfl, hb, hbw⟩
end Go.Proofs.YtgmbeedbeahblaaGreatDoor

namespace Go.Proofs.YtgmbeedbeahblaaGreatDoor
open Go Go.RowKit

set_option maxRecDepth 100000 in
theorem natCmp_walk (b o cap b2 o2 cap2 : Nat) (xs ys : List Int) (w : World) (hl : xs.length = ys.length) (hn : xs.length ≤ 1099511627776)
    (hcx : ∀ i, i < xs.length → w.cell? ⟨b, o + i, none⟩ = some (.int .u32 (xs.getD i 0))) (hcy : ∀ i, i < ys.length → w.cell? ⟨b2, o2 + i, none⟩ = some (.int .u32 (ys.getD i 0))) (hb1 : b < w.heap.size) (hb2 : b2 < w.heap.size) :
    Calls Tryz.prog 157 #[.slice (some ⟨b, o, none⟩) xs.length cap, .slice (some ⟨b2, o2, none⟩) xs.length cap2] w fun e w' => ∃ c : Int, e = .returned (.int .i64 c) ∧ (c = 0 ↔ xs = ys) ∧ Below w.heap.size w w' := by
  go_enter Tryz.func157, Tryz.ntmps157
  go_wp2
  go_loopw [5] (fun i wr => ∃ k : Nat, k ≤ xs.length ∧ i = .int .i64 ((k : Int) - 1) ∧ (∀ j, k ≤ j → j < xs.length → xs.getD j 0 = ys.getD j 0) ∧ Below w.heap.size w wr) (fun i _ => (intOf i + 1).toNat)
  case atStart => exact ⟨xs.length, Nat.le_refl _, by simp [hl], fun j h1 h2 => by omega, Below.refl _ _⟩
  case round =>
    obtain ⟨k, hk, rfl, hag, hbw⟩ := hrel
    have hHid : Hid (∀ j, k ≤ j → j < xs.length → xs.getD j 0 = ys.getD j 0) := hag
    clear hag
    match k, hk, hHid with
    | 0, hk, hHid =>
      go_wp2
      go_ret
      have e := eq_of_agree hl (fun j hj => hHid.out j (Nat.zero_le _) hj)
      exact ⟨0, rfl, by simp [e], hbw⟩
    | k + 1, hk, hHid =>
      have e1 : ((k + 1 : Nat) : Int) - 1 = (k : Int) := by omega
      rw [e1]
      have c1 : wr.cell? ⟨b, o + k, none⟩ = some (.int .u32 (xs.getD k 0)) := (hbw.cell (by exact hb1)).trans (hcx k (by omega))
      have c2 : wr.cell? ⟨b2, o2 + k, none⟩ = some (.int .u32 (ys.getD k 0)) := (hbw.cell (by exact hb2)).trans (hcy k (by omega))
      generalize hX : xs.getD k 0 = X at c1
      generalize hY : ys.getD k 0 = Y at c2
      have hkl : (k : Int) < (xs.length : Int) := by omega
      go_wp2
      go_quiet (fail)
      have hB : Below w.heap.size w (wr.drewN nq) := below_draws hbw _
      have c1' : (wr.drewN nq).cell? ⟨b, o + k, none⟩ = some (.int .u32 X) := c1
      have c2' : (wr.drewN nq).cell? ⟨b2, o2 + k, none⟩ = some (.int .u32 Y) := c2
      generalize wr.drewN nq = wz at hB c1' c2' ⊢
      clear c1 c2
      go_wp2
      · go_ret
        have hlt : X < Y := by assumption
        have e := not_eq_at (xs := xs) (ys := ys) (j := k) (by omega)
        exact ⟨-1, rfl, by simp [e], hB⟩
      · go_quiet (fail)
        have hB2 : Below w.heap.size w (wz.drewN nq) := below_draws hB _
        go_wp2
        · go_ret
          have hlt : X > Y := by assumption
          have e := not_eq_at (xs := xs) (ys := ys) (j := k) (by omega)
          exact ⟨1, rfl, by simp [e], hB2⟩
        · go_roundw
          case rel =>
            refine ⟨k, by omega, by go_num, fun j h1 h2 => ?_, hB2⟩
            rcases Nat.lt_or_ge k j with h | h
            · exact hHid.out j h h2
            · have : j = k := by omega
              subst this; omega
          case measure => simp [intOf]

set_option maxRecDepth 100000 in
theorem natCmp_len (q q' : Option Addr) (m n cap cap' : Nat) (w : World) (_hm : m ≤ 1099511627776) (_hn : n ≤ 1099511627776) (h : ¬ m = n) : Calls Tryz.prog 157 #[.slice q m cap, .slice q' n cap'] w fun e w' => (∃ c : Int, e = .returned (.int .i64 c) ∧ ¬ c = 0) ∧ w' = w := by
  have h' : ¬ (m : Int) = (n : Int) := by omega
  go_enter Tryz.func157, Tryz.ntmps157
  go_wp2
  · go_ret
    exact ⟨⟨-1, rfl, by decide⟩, rfl⟩
  · go_ret
    exact ⟨⟨1, rfl, by decide⟩, rfl⟩

set_option maxRecDepth 100000 in
theorem natCmp_none (q q' : Option Addr) (cap cap' : Nat) (w : World) : Calls Tryz.prog 157 #[.slice q 0 cap, .slice q' 0 cap'] w fun e w' => e = .returned (.int .i64 0) ∧ w' = w := by
  go_enter Tryz.func157, Tryz.ntmps157
  go_wp2
  refine wp_loop_once ?_
  go_wp2
  go_ret
  exact ⟨rfl, rfl⟩
end Go.Proofs.YtgmbeedbeahblaaGreatDoor

namespace Go.Proofs.YtgmbeedbeahblaaGreatDoor
open Go Go.RowKit

/-- The words to the base 2^32 as words to the base 65536. -/
def halves : List Int → List Int
  | [] => []
  | x :: xs => x % 65536 :: x / 65536 :: halves xs

theorem halves_append : ∀ (a b : List Int), halves (a ++ b) = halves a ++ halves b
  | [], _ => rfl
  | x :: xs, b => by simp [halves, halves_append xs b]

theorem halves_length : ∀ (a : List Int), (halves a).length = 2 * a.length
  | [] => rfl
  | x :: xs => by
    have := halves_length xs
    simp [halves, this]
    omega

theorem halves_take (xs : List Int) (k : Nat) (h : k < xs.length) : halves (xs.take (k + 1)) = halves (xs.take k) ++ [xs.getD k 0 % 65536, xs.getD k 0 / 65536] := by
  rw [List.take_add_one, halves_append]
  simp [halves, h]

theorem val_halves : ∀ (xs : List Int), val16 (halves xs) = val xs
  | [] => rfl
  | x :: xs => by
    have := val_halves xs
    simp only [halves, val16, val, this]
    generalize val xs = v
    omega

theorem dig_halves : ∀ {xs : List Int}, Dig xs → Dig16 (halves xs)
  | [], _ => fun j => by simp [halves]
  | x :: xs, h => fun j => by
    have h0 := h 0
    simp at h0
    match j with
    | 0 => simp [halves]; omega
    | 1 => simp [halves]; omega
    | j + 2 => simpa [halves] using dig_halves (dig_tail h) j

def Sl16 (w : World) (v : Value) (xs : List Int) : Prop :=
  Dig16 xs ∧ xs.length ≤ 549755813888 ∧ ∃ q cap, v = .slice q xs.length cap ∧ xs.length ≤ cap ∧ (xs = [] ∨ ∃ b o, q = some ⟨b, o, none⟩ ∧ b < w.heap.size ∧ ∀ i, i < xs.length → w.cell? ⟨b, o + i, none⟩ = some (.int .u32 (xs.getD i 0)))

theorem Sl16.below {w w' : World} {v : Value} {xs : List Int} (h : Sl16 w v xs) (hb : Below w.heap.size w w') : Sl16 w' v xs := by
  obtain ⟨h1, h2, q, cap, h3, h4, h5⟩ := h
  refine ⟨h1, h2, q, cap, h3, h4, h5.imp id ?_⟩
  rintro ⟨b, o, e, hlt, hc⟩
  exact ⟨b, o, e, Nat.lt_of_lt_of_le hlt hb.size, fun i hi => (hb.cell (by exact hlt)).trans (hc i hi)⟩

theorem cell_two_new (w : World) (x y : Value) (t : TypeId) : ∀ j u, [x, y][j]? = some u → (w.alloc (.cells #[x, y] t)).cell? ((⟨w.heap.size, 0, none⟩ : Addr).add j) = some u := by
  intro j u hj
  match j, hj with
  | 0, hj =>
    simp at hj
    subst hj
    simp [Addr.add]
  | 1, hj =>
    simp at hj
    subst hj
    simp [Addr.add]

set_option maxRecDepth 100000 in
theorem words_walk (b o cap : Nat) (xs : List Int) (w : World) (hd : Dig xs) (hn : xs.length ≤ 274877906944)
    (hc : ∀ i, i < xs.length → w.cell? ⟨b, o + i, none⟩ = some (.int .u32 (xs.getD i 0))) (hb1 : b < w.heap.size) (hne : 0 < xs.length) :
    Calls Tryz.prog 72 #[.slice (some ⟨b, o, none⟩) xs.length cap] w fun e w' => ∃ r, e = .returned r ∧ Sl16 w' r (trim (halves xs)) ∧ Below w.heap.size w w' := by
  obtain ⟨i0, hi, hz0, hz1, hz2⟩ := info_parts (show (Tryz.prog.info? 103).map (fun i => (i.zero, i.size, i.bytes)) = some (some (.int .u32 0), 1, 4) by kernel_rfl)
  go_enter Tryz.func72, Tryz.ntmps72
  go_wp2
  go_loopw [3, 8] (fun v i wr => ∃ k : Nat, k ≤ xs.length ∧ i = .int .i64 k ∧ wr.ownsRow w.heap.size 103 1 v (2 * k) ((halves (xs.take k)).map (Value.int .u32)) ∧ Below w.heap.size w wr) (fun _ i _ => xs.length - (intOf i).toNat)
  case atStart => exact ⟨0, Nat.zero_le _, rfl, World.ownsRow_nil _ _ _ _, Below.refl _ _⟩
  case round =>
    obtain ⟨k, hk, rfl, hrow, hbw⟩ := hrel
    by_cases hlt : k < xs.length
    · have c1 : wr.cell? ⟨b, o + k, none⟩ = some (.int .u32 (xs.getD k 0)) := (hbw.cell (by exact hb1)).trans (hc k hlt)
      have hlt' : (k : Int) < (xs.length : Int) := by omega
      have hdk := hd k
      have htk := halves_take xs k hlt
      generalize xs.getD k 0 = X at c1 hdk htk
      have hws := hbw.size
      go_wp2_with (at_builtin; refine wpList_append_own _ rfl _ _ 68 rfl w.heap.size 103 i0 (.int .u32 0) 1 4 Tryz.underlying68 hi hz0 hz1 hz2 rfl (by decide) _ _ _ rfl (hrow.alloc _) ⟨wr.heap.size, 0, none⟩ 2 2 [.int .u32 (X % 65536), .int .u32 (X / 65536)] rfl rfl (cell_two_new _ _ _ _) (ints_oneCell .u32 [X % 65536, X / 65536]) (by unfold maxLen; omega) (by omega) (by simp; omega) ?_; intro v' w2 hown' hgrow2 hnil2)
      go_roundw
      case rel =>
        refine ⟨k + 1, by omega, by go_num, ?_, ?_⟩
        · rw [htk, List.map_append]
          exact hown'
        · exact (hbw.alloc hws _).grown hgrow2 (by simp; omega) (fun g hg => (hrow.lt g hg).1)
      case measure => simp [intOf]; omega
    · have hk' : k = xs.length := by omega
      subst hk'
      have hlen := halves_length xs
      rw [List.take_length] at hrow
      have hrow' := hrow
      obtain ⟨_, ⟨_, h0⟩ | ⟨g, cp, cur, rfl, hg, hheap, h4, h5, h6, h7⟩⟩ := hrow
      · omega
      have hcells : ∀ i, i < 2 * xs.length → wr.cell? ⟨g, 0 + i, none⟩ = some (.int .u32 ((halves xs).getD i 0)) := by
        intro i hi
        have hil : i < (halves xs).length := by omega
        have h := hrow'.cells (g := g) rfl i (.int .u32 ((halves xs).getD i 0)) (by simp [hil])
        by_cases h0 : i = 0
        · subst h0
          simpa [Addr.add] using h
        · simpa [Addr.add, h0] using h
      have htrim := trim16_walk g 0 (2 * xs.length) cp (halves xs) wr hcells h4 (by omega)
      go_wp2_with (go_at_call 143; refine htrim.mono ?_; rintro e w9 ⟨rfl, rfl⟩)
      go_ret
      refine ⟨_, rfl, ⟨dig_trim16 (dig_halves hd), by rw [trim_length]; have := trimTo_le (halves xs) (halves xs).length; omega, some ⟨g, 0, none⟩, cp, by rw [trim_length, hlen]; rfl, by rw [trim_length]; have := trimTo_le (halves xs) (halves xs).length; omega, .inr ⟨g, 0, rfl, ?_, fun i hi => ?_⟩⟩, hbw⟩
      · rcases Nat.lt_or_ge g w9.heap.size with hh | hh
        · exact hh
        · simp [Array.getElem?_eq_none hh] at hheap
      · rw [trim_getD _ i hi]
        exact hcells i (by rw [trim_length] at hi; have := trimTo_le (halves xs) (halves xs).length; omega)

set_option maxRecDepth 100000 in
theorem words_none (q : Option Addr) (cap : Nat) (w : World) : Calls Tryz.prog 72 #[.slice q 0 cap] w fun e w' => e = .returned (.slice none 0 0) ∧ w' = w := by
  have ht := trim16_none none 0 w
  go_enter Tryz.func72, Tryz.ntmps72
  go_wp2
  refine wp_loop_once ?_
  go_wp2_with (go_at_call 143; refine ht.mono ?_; rintro e w9 ⟨rfl, rfl⟩)
  go_ret
  exact ⟨rfl, rfl⟩
end Go.Proofs.YtgmbeedbeahblaaGreatDoor

namespace Go.Proofs.YtgmbeedbeahblaaGreatDoor
open Go Go.RowKit

theorem words_ok {w : World} {v : Value} {xs : List Int} (h : Sl w v xs) (hn : xs.length ≤ 274877906944) : Calls Tryz.prog 72 #[v] w fun e w' => ∃ r, e = .returned r ∧ Sl16 w' r (trim (halves xs)) ∧ Below w.heap.size w w' := by
  obtain ⟨h1, h2, q, cap, rfl, h4, h5⟩ := h
  rcases h5 with rfl | ⟨b, o, rfl, hlt, hc⟩
  · refine (words_none q cap w).mono ?_
    rintro e w' ⟨rfl, rfl⟩
    exact ⟨_, rfl, ⟨fun j => by simp [halves, trim, trimTo], by simp [halves, trim], none, 0, by simp [halves, trim], by simp [halves, trim], .inl (by simp [halves, trim])⟩, Below.refl _ _⟩
  · by_cases hx : xs = []
    · subst hx
      refine (words_none _ cap w).mono ?_
      rintro e w' ⟨rfl, rfl⟩
      exact ⟨_, rfl, ⟨fun j => by simp [halves, trim, trimTo], by simp [halves, trim], none, 0, by simp [halves, trim], by simp [halves, trim], .inl (by simp [halves, trim])⟩, Below.refl _ _⟩
    · exact words_walk b o cap xs w h1 hn hc hlt (List.length_pos_iff.2 hx)

theorem own_sl16 {w : World} {base n : Nat} {v : Value} {xs : List Int} (h : w.ownsRow base 103 1 v n (xs.map (Value.int .u32))) (hd : Dig16 xs) (hl : xs.length ≤ 549755813888) : Sl16 w v xs := by
  have h' := h
  obtain ⟨hn, ⟨rfl, h0⟩ | ⟨g, cp, cur, rfl, hg, hheap, h4, h5, h6, h7⟩⟩ := h
  · have hx : xs = [] := List.eq_nil_of_length_eq_zero (by simpa [h0] using hn)
    subst hx
    exact ⟨hd, hl, none, 0, rfl, Nat.le_refl _, .inl rfl⟩
  · have hx : n = xs.length := by simpa using hn.symm
    subst hx
    refine ⟨hd, hl, some ⟨g, 0, none⟩, cp, rfl, h4, .inr ⟨g, 0, rfl, ?_, fun i hi => ?_⟩⟩
    · rcases Nat.lt_or_ge g w.heap.size with hh | hh
      · exact hh
      · simp [Array.getElem?_eq_none hh] at hheap
    · have h := h'.cells (g := g) rfl i (.int .u32 (xs.getD i 0)) (by simp [hi])
      by_cases h0 : i = 0
      · subst h0
        simpa [Addr.add] using h
      · simpa [Addr.add, h0] using h

theorem dig16_one : Dig16 [1] := fun j => by
  match j with
  | 0 => simp
  | j + 1 => simp

set_option maxRecDepth 100000 in
theorem natOf_one (w : World) : Calls Tryz.prog 45 #[.int .u64 1] w fun e w' => ∃ r, e = .returned r ∧ Sl16 w' r [1] ∧ Below w.heap.size w w' := by
  obtain ⟨i0, hi, hz0, hz1, hz2⟩ := info_parts (show (Tryz.prog.info? 103).map (fun i => (i.zero, i.size, i.bytes)) = some (some (.int .u32 0), 1, 4) by kernel_rfl)
  go_enter Tryz.func45, Tryz.ntmps45
  go_wp2
  go_loopw [0, 3] (fun i v wr => (i = .int .u64 1 ∧ v = .slice none 0 0 ∧ wr = w) ∨ (i = .int .u64 0 ∧ wr.ownsRow w.heap.size 103 1 v 1 [.int .u32 1] ∧ Below w.heap.size w wr)) (fun i _ _ => (intOf i).toNat)
  case atStart => exact .inl ⟨rfl, rfl, rfl⟩
  case round =>
    rcases hrel with ⟨rfl, rfl, rfl⟩ | ⟨rfl, hrow, hbw⟩
    · go_wp2_with (at_builtin; refine wpList_append_own _ rfl _ _ 68 rfl wr.heap.size 103 i0 (.int .u32 0) 1 4 Tryz.underlying68 hi hz0 hz1 hz2 rfl (by decide) _ _ _ rfl (World.ownsRow_nil _ _ _ _) ⟨wr.heap.size, 0, none⟩ 1 1 [.int .u32 1] rfl rfl (cell_one_new _ _ _) (ints_oneCell .u32 [1]) (by unfold maxLen; omega) (by omega) (by simp) ?_; intro v' w2 hown' hgrow2 hnil2)
      go_roundw
      case rel => exact .inr ⟨rfl, hown', ((Below.refl _ _).alloc (Nat.le_refl _) _).grown hgrow2 (by simp) (fun g hg => by cases hg)⟩
      case measure => simp [intOf]
    · go_wp2
      go_ret
      exact ⟨_, rfl, own_sl16 (xs := [1]) hrow dig16_one (by simp), hbw⟩
end Go.Proofs.YtgmbeedbeahblaaGreatDoor

namespace Go.Proofs.YtgmbeedbeahblaaGreatDoor
open Go Go.RowKit

/-- What the reference takes for the denominator: 1 where there is none. -/
def denOf (xs : List Int) : List Int := if xs = [] then [1] else xs

end Go.Proofs.YtgmbeedbeahblaaGreatDoor

namespace Go.Proofs.YtgmbeedbeahblaaGreatDoor
open Go Go.RowKit

theorem natMul_ok {w : World} {v u : Value} {xs ys : List Int} (hx : Sl16 w v xs) (hy : Sl16 w u ys) (nx : xs ≠ []) (ny : ys ≠ []) (hn : xs.length + ys.length ≤ 549755813888) :
    Calls Tryz.prog 340 #[v, u] w fun e w' => ∃ r zs, e = .returned r ∧ Sl16 w' r zs ∧ Canon zs ∧ val16 zs = val16 xs * val16 ys ∧ Below w.heap.size w w' := by
  obtain ⟨x1, x2, q, cap, rfl, x4, x5⟩ := hx
  obtain ⟨y1, y2, q', cap', rfl, y4, y5⟩ := hy
  rcases x5 with e | ⟨b, o, rfl, hlt, hc⟩
  · exact absurd e nx
  rcases y5 with e | ⟨b', o', rfl, hlt', hc'⟩
  · exact absurd e ny
  have zx : ((xs.length : Int) == 0) = false := by simp [nx]
  have zy : ((ys.length : Int) == 0) = false := by simp [ny]
  refine (natMul_walk b o cap b' o' cap' (xs.length + ys.length) xs ys w rfl (by omega) x1 y1 hc hc' hlt hlt' zx zy).mono ?_
  rintro e w' ⟨os, hout, rfl, hblk, hb⟩
  have ho := hout.len
  have hl := trimTo_le os os.length
  refine ⟨_, trim os, rfl, ⟨dig_trim16 hout.dig, by rw [trim_length]; omega, _, _, by rw [trim_length, ho], by rw [trim_length]; omega, .inr ⟨w.heap.size, 0, rfl, ?_, fun i hi => ?_⟩⟩, canon_trim os, by rw [val_trim16, hout.eq, List.take_length], hb⟩
  · rcases Nat.lt_or_ge w.heap.size w'.heap.size with hh | hh
    · exact hh
    · unfold Blk at hblk; simp [Array.getElem?_eq_none hh] at hblk
  · rw [trim_getD os i hi, Nat.zero_add]
    exact hblk.cell (by rw [trim_length] at hi; omega)

theorem natCmp_ok {w : World} {v u : Value} {xs ys : List Int} (hx : Sl16 w v xs) (hy : Sl16 w u ys) :
    Calls Tryz.prog 157 #[v, u] w fun e w' => ∃ c : Int, e = .returned (.int .i64 c) ∧ (c = 0 ↔ xs = ys) ∧ Below w.heap.size w w' := by
  obtain ⟨x1, x2, q, cap, rfl, x4, x5⟩ := hx
  obtain ⟨y1, y2, q', cap', rfl, y4, y5⟩ := hy
  by_cases hl : xs.length = ys.length
  · by_cases hx0 : xs = []
    · subst hx0
      have hy0 : ys = [] := List.eq_nil_of_length_eq_zero hl.symm
      subst hy0
      refine (natCmp_none q q' cap cap' w).mono ?_
      rintro e w' ⟨rfl, rfl⟩
      exact ⟨0, rfl, by simp, Below.refl _ _⟩
    · have hy0 : ys ≠ [] := fun h => hx0 (List.eq_nil_of_length_eq_zero (by rw [hl, h]; rfl))
      rcases x5 with h | ⟨b, o, rfl, hlt, hc⟩
      · exact absurd h hx0
      rcases y5 with h | ⟨b', o', rfl, hlt', hc'⟩
      · exact absurd h hy0
      rw [← hl]
      exact natCmp_walk b o cap b' o' cap' xs ys w hl (by omega) hc hc' hlt hlt'
  · refine (natCmp_len q q' xs.length ys.length cap cap' w (by omega) (by omega) hl).mono ?_
    rintro e w' ⟨⟨c, rfl, h0⟩, rfl⟩
    exact ⟨c, rfl, ⟨fun h => absurd h h0, fun h => absurd (by rw [h]) hl⟩, Below.refl _ _⟩
end Go.Proofs.YtgmbeedbeahblaaGreatDoor
