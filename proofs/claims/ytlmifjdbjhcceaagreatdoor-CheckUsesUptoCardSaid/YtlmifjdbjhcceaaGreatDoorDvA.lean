/-
  check.sameRat says whether two numbers are equal by value.
-/
import Derived.Test.YtlmifjdbjhcceaaGreatDoorProg
import Derived.WalkKit
import Derived.ProofKit
import Derived.OpenShut
import Derived.Deep.QuietTactic
import Derived.BigQuiet
import Derived.Deep.RegionWith
namespace Go.Proofs.YtlmifjdbjhcceaaGreatDoor
open Go Go.RowKit

def trimTo (xs : List Int) : Nat → Nat
  | 0 => 0
  | n + 1 => if xs.getD n 0 = 0 then trimTo xs n else n + 1

theorem trimTo_le (xs : List Int) : ∀ n, trimTo xs n ≤ n
  | 0 => Nat.le_refl _
  | n + 1 => by unfold trimTo; split; have := trimTo_le xs n; omega; omega

theorem trimmed_walk (b o len cap : Nat) (xs : List Int) (w : World) (hc : ∀ i, i < len → w.cell? ⟨b, o + i, none⟩ = some (.int .u32 (xs.getD i 0))) (hm : len ≤ cap) (hm2 : len ≤ 1099511627776) :
    Calls Tryz.prog 46 #[.slice (some ⟨b, o, none⟩) len cap] w fun e w' => e = .returned (.slice (some ⟨b, o, none⟩) (trimTo xs len) cap) ∧ w' = w := by
  go_enter Tryz.func46, Tryz.ntmps46
  go_wp2
  go_loop [3] (fun i => ∃ k : Nat, k ≤ len ∧ i = .int .i64 k ∧ trimTo xs k = trimTo xs len) (fun i => (intOf i).toNat)
  case atStart => exact ⟨len, Nat.le_refl _, rfl, rfl⟩
  case round =>
    obtain ⟨k, hk, rfl, ht⟩ := hrel
    have hHid : Hid (trimTo xs k = trimTo xs len) := ht
    clear ht
    match k, hk, hHid with
    | 0, hk, hHid =>
      go_wp2
      go_ret
      have h0 : trimTo xs len = 0 := hHid.out.symm
      refine ⟨?_, rfl⟩
      simp [h0]
    | k + 1, hk, hHid =>
      have hck : w.cell? ⟨b, o + k, none⟩ = some (.int .u32 (xs.getD k 0)) := hc k (by omega)
      go_wp2
      · go_round
        case rel =>
          have h0' : (xs[k]?.getD 0 == 0) = true := by assumption
          have h0 : xs[k]?.getD 0 = 0 := by simpa using h0'
          refine ⟨k, by omega, by go_num, ?_⟩
          rw [← hHid.out]
          simp [trimTo, h0]
        case measure => simp [intOf]
      · go_ret
        have h0' : (xs[k]?.getD 0 == 0) = false := by assumption
        have h0 : ¬ xs[k]?.getD 0 = 0 := by simpa using h0'
        refine ⟨?_, rfl⟩
        rw [← hHid.out]
        simp [trimTo, h0]
end Go.Proofs.YtlmifjdbjhcceaaGreatDoor

namespace Go.Proofs.YtlmifjdbjhcceaaGreatDoor
open Go Go.RowKit

/-! ### Words to the base 2^32 -/
def val : List Int → Int
  | [] => 0
  | d :: r => d + 4294967296 * val r

def Dig (l : List Int) : Prop := ∀ j : Nat, 0 ≤ l.getD j 0 ∧ l.getD j 0 ≤ 4294967295

theorem val_set : ∀ (l : List Int) (j : Nat) (d : Int), j < l.length → val (l.set j d) = val l + (d - l.getD j 0) * 4294967296 ^ j
  | [], j, d, h => by simp at h
  | x :: l, 0, d, h => by simp [val]; omega
  | x :: l, j + 1, d, h => by
    have := val_set l j d (by simpa using h)
    simp only [List.set_cons_succ, val, this, List.getD_cons_succ]
    rw [Int.pow_succ]
    generalize (4294967296 : Int) ^ j = p
    generalize d - l.getD j 0 = q
    rw [Int.mul_add, ← Int.mul_assoc, ← Int.mul_assoc, Int.mul_comm 4294967296 q, Int.mul_assoc q 4294967296 p, Int.mul_comm 4294967296 p, ← Int.mul_assoc q p]
    omega

theorem val_take : ∀ (l : List Int) (k : Nat), k < l.length → val (l.take (k + 1)) = val (l.take k) + l.getD k 0 * 4294967296 ^ k
  | [], k, h => by simp at h
  | x :: l, 0, h => by simp [val]
  | x :: l, k + 1, h => by
    have := val_take l k (by simpa using h)
    simp only [List.take_succ_cons, val, this, List.getD_cons_succ]
    rw [Int.pow_succ]
    generalize (4294967296 : Int) ^ k = p
    generalize l.getD k 0 = q
    rw [Int.mul_add, Int.mul_comm 4294967296 (q * p), Int.mul_assoc q p 4294967296]
    omega

theorem dig_set {l : List Int} (h : Dig l) {j : Nat} {d : Int} (hd : 0 ≤ d ∧ d ≤ 4294967295) : Dig (l.set j d) := by
  intro i
  have := h i
  simp only [List.getD_eq_getElem?_getD, List.getElem?_set] at this ⊢
  split
  · split
    · simpa using hd
    · simp
  · exact this

theorem mul_bound {a b : Int} (ha : 0 ≤ a ∧ a ≤ 4294967295) (hb : 0 ≤ b ∧ b ≤ 4294967295) : 0 ≤ a * b ∧ a * b ≤ 18446744065119617025 := by
  refine ⟨Int.mul_nonneg ha.1 hb.1, ?_⟩
  have h := Int.mul_le_mul ha.2 hb.2 hb.1 (by omega)
  exact Int.le_trans h (by decide)

set_option maxRecDepth 100000 in
theorem mul32_walk (a b : Int) (ha : 0 ≤ a ∧ a ≤ 4294967295) (hb : 0 ≤ b ∧ b ≤ 4294967295) (w : World) :
    Calls Tryz.prog 75 #[.int .u32 a, .int .u32 b] w fun e w' => e = .returned (.tuple #[.int .u32 (a * b / 4294967296), .int .u32 (a * b % 4294967296)]) ∧ w' = w := by
  have hp := mul_bound ha hb
  go_enter Tryz.func75, Tryz.ntmps75
  go_wp2
  go_ret2
  refine ⟨?_, rfl⟩
  have hw : IntKind.u64.wrap (a * b) = a * b := by rw [IntKind.wrap_u64]; exact Int.emod_eq_of_lt hp.1 (by omega)
  have h2 : a * b / 4294967296 % 4294967296 = a * b / 4294967296 := by
    generalize a * b = p at hp ⊢
    omega
  simp only
  rfl
end Go.Proofs.YtlmifjdbjhcceaaGreatDoor

namespace Go.Proofs.YtlmifjdbjhcceaaGreatDoor
open Go Go.RowKit

structure In (x : Int) (ys os0 : List Int) (i k n : Nat) (os : List Int) (c : Int) : Prop where
  len : os.length = n
  dig : Dig os
  c0 : 0 ≤ c ∧ c ≤ 4294967295
  eq : val os + c * 4294967296 ^ (i + k) = val os0 + x * val (ys.take k) * 4294967296 ^ i
  rest : ∀ j, i + k ≤ j → os.getD j 0 = os0.getD j 0

theorem sum_bound {x y d c : Int} (hx : 0 ≤ x ∧ x ≤ 4294967295) (hy : 0 ≤ y ∧ y ≤ 4294967295) (hd : 0 ≤ d ∧ d ≤ 4294967295) (hc : 0 ≤ c ∧ c ≤ 4294967295) : 0 ≤ x * y + d + c ∧ x * y + d + c ≤ 18446744073709551615 := by
  have := mul_bound hx hy
  omega

theorem In.step {x : Int} {ys os0 os : List Int} {i k n : Nat} {c : Int} (h : In x ys os0 i k n os c) (hx : 0 ≤ x ∧ x ≤ 4294967295) (hy : Dig ys) (hk : k < ys.length) (hn : i + ys.length ≤ n) :
    In x ys os0 i (k + 1) n (os.set (i + k) ((x * ys.getD k 0 + os.getD (i + k) 0 + c) % 4294967296)) ((x * ys.getD k 0 + os.getD (i + k) 0 + c) / 4294967296) := by
  have hs := sum_bound hx (hy k) (h.dig (i + k)) h.c0
  have hv := val_set os (i + k) ((x * ys.getD k 0 + os.getD (i + k) 0 + c) % 4294967296) (by rw [h.len]; omega)
  have ht := val_take ys k hk
  refine ⟨by simp [h.len], dig_set h.dig ?_, ?_, ?_, fun j hj => ?_⟩
  · generalize x * ys.getD k 0 + os.getD (i + k) 0 + c = s at hs
    omega
  · generalize x * ys.getD k 0 + os.getD (i + k) 0 + c = s at hs
    omega
  · have e := h.eq
    rw [hv, ht]
    have hp : (4294967296 : Int) ^ (i + (k + 1)) = 4294967296 ^ (i + k) * 4294967296 := by rw [← Nat.add_assoc, Int.pow_succ]
    have hq : (4294967296 : Int) ^ (i + k) = 4294967296 ^ k * 4294967296 ^ i := by rw [Int.pow_add, Int.mul_comm]
    have hdm := Int.emod_add_mul_ediv (x * ys.getD k 0 + os.getD (i + k) 0 + c) 4294967296
    rw [hp]
    generalize hS : x * ys.getD k 0 + os.getD (i + k) 0 + c = S at hdm ⊢
    generalize hD : os.getD (i + k) 0 = D at hS ⊢
    have lhs : val os + (S % 4294967296 - D) * 4294967296 ^ (i + k) + S / 4294967296 * (4294967296 ^ (i + k) * 4294967296) = val os + c * 4294967296 ^ (i + k) + x * ys.getD k 0 * 4294967296 ^ (i + k) := by
      have e1 : S / 4294967296 * (4294967296 ^ (i + k) * 4294967296) = (4294967296 * (S / 4294967296)) * 4294967296 ^ (i + k) := by
        rw [Int.mul_comm (4294967296 ^ (i + k)) 4294967296, ← Int.mul_assoc, Int.mul_comm (S / 4294967296) 4294967296]
      rw [e1, Int.add_assoc, ← Int.add_mul, Int.add_assoc (val os), ← Int.add_mul]
      congr 2
      omega
    rw [lhs, e, hq, Int.mul_add, Int.add_mul, ← Int.mul_assoc, ← Int.mul_assoc, Int.add_assoc]
  · have := h.rest j (by omega)
    rw [← this]
    simp only [List.getD_eq_getElem?_getD, List.getElem?_set]
    rw [if_neg (by omega)]

structure Out (xs ys : List Int) (n i : Nat) (os : List Int) : Prop where
  len : os.length = n
  dig : Dig os
  eq : val os = val (xs.take i) * val ys
  rest : ∀ j, i + ys.length ≤ j → os.getD j 0 = 0

theorem Out.start {xs ys os : List Int} {n i : Nat} (h : Out xs ys n i os) : In (xs.getD i 0) ys os i 0 n os 0 :=
  ⟨h.len, h.dig, by decide, by simp [val], fun _ _ => rfl⟩

theorem Out.row {xs ys os0 os : List Int} {n i : Nat} {c : Int} (h0 : Out xs ys n i os0) (hi : i < xs.length) (hn : xs.length + ys.length = n) (h : In (xs.getD i 0) ys os0 i ys.length n os c) :
    Out xs ys n (i + 1) (os.set (i + ys.length) c) := by
  have hz : os.getD (i + ys.length) 0 = 0 := by rw [h.rest _ (Nat.le_refl _)]; exact h0.rest _ (Nat.le_refl _)
  have hv := val_set os (i + ys.length) c (by rw [h.len]; omega)
  refine ⟨by simp [h.len], dig_set h.dig h.c0, ?_, fun j hj => ?_⟩
  · rw [hv, hz, Int.sub_zero, h.eq, h0.eq, val_take xs i hi, List.take_length, Int.add_mul]
    rw [Int.mul_assoc (xs.getD i 0), Int.mul_comm (val ys), ← Int.mul_assoc]
  · have := h.rest j (by omega)
    have h1 := h0.rest j (by omega)
    simp only [List.getD_eq_getElem?_getD, List.getElem?_set] at this h1 ⊢
    rw [if_neg (by omega), this, h1]

theorem Out.zero (xs ys : List Int) (n : Nat) : Out xs ys n 0 (List.replicate n 0) := by
  have hg : ∀ j, (List.replicate n (0 : Int)).getD j 0 = 0 := by
    intro j
    simp only [List.getD_eq_getElem?_getD, List.getElem?_replicate]
    split <;> rfl
  have hv : ∀ n : Nat, val (List.replicate n 0) = 0 := by
    intro n
    induction n with
    | zero => rfl
    | succ n ih => simp [List.replicate_succ, val, ih]
  exact ⟨by simp, fun j => by rw [hg j]; decide, by simp [hv, val], fun j _ => hg j⟩
end Go.Proofs.YtlmifjdbjhcceaaGreatDoor

namespace Go.Proofs.YtlmifjdbjhcceaaGreatDoor
open Go Go.RowKit

def cells32 (os : List Int) : Array Value := (os.map (Value.int .u32)).toArray
def Blk (w : World) (g : Nat) (os : List Int) : Prop := w.heap[g]? = some (.cells (cells32 os) 96 (0, 0))

theorem Blk.cell {w : World} {g : Nat} {os : List Int} (h : Blk w g os) {j : Nat} (hj : j < os.length) : w.cell? ⟨g, j, none⟩ = some (.int .u32 (os.getD j 0)) := by
  unfold Blk at h
  simp [World.cell?, h, cells32, hj]

theorem Blk.frozen {w : World} {g : Nat} {os : List Int} (h : Blk w g os) (j : Nat) : w.frozen? ⟨g, j, none⟩ = false := by
  unfold Blk at h
  simp [World.frozen?, h]

theorem Blk.set {w : World} {g : Nat} {os : List Int} (h : Blk w g os) (j : Nat) (d : Int) : Blk (w.setCell ⟨g, j, none⟩ (.int .u32 d)) g (os.set j d) := by
  unfold Blk at h ⊢
  have hlt : g < w.heap.size := by
    rcases Nat.lt_or_ge g w.heap.size with hl | hl
    · exact hl
    · simp [Array.getElem?_eq_none hl] at h
  show (w.heap.modify g _)[g]? = _
  rw [Array.getElem?_modify, if_pos rfl, h]
  simp [cells32, List.map_set]

theorem made_blk {w : World} {g n : Nat} (h : w.ownsRow g 96 1 (.slice (some ⟨g, 0, none⟩) n n) n (madeCells #[Value.int .u32 0] n).toList) : Blk w g (List.replicate n 0) := by
  obtain ⟨_, ⟨h1, _⟩ | ⟨g', cap, cur, h1, _, h3, _, _, h6, h7⟩⟩ := h
  · cases h1
  · simp only [Value.slice.injEq, Option.some.injEq, Addr.mk.injEq] at h1
    obtain ⟨⟨rfl, _⟩, _, rfl⟩ := h1
    unfold Blk
    rw [h3]
    have hcur : cur = cells32 (List.replicate n 0) := by
      apply Array.ext'
      have hl : cur.toList.take (n * 1) = cur.toList := by
        apply List.take_of_length_le
        simp [h6]
      rw [← hl, h7]
      apply List.ext_getElem?
      intro i
      simp only [madeCells, cells32]
      by_cases hi : i < n
      · simp [hi, Nat.mod_one]
      · simp [hi]
    rw [hcur]

set_option maxRecDepth 100000 in
theorem product_walk (b o cap b2 o2 cap2 n : Nat) (xs ys : List Int) (w : World) (hlen : xs.length + ys.length = n) (hn : n ≤ 1099511627776) (hdx : Dig xs) (hdy : Dig ys)
    (hcx : ∀ i, i < xs.length → w.cell? ⟨b, o + i, none⟩ = some (.int .u32 (xs.getD i 0))) (hcy : ∀ i, i < ys.length → w.cell? ⟨b2, o2 + i, none⟩ = some (.int .u32 (ys.getD i 0))) (hb1 : b < w.heap.size) (hb2 : b2 < w.heap.size) :
    Calls Tryz.prog 48 #[.slice (some ⟨b, o, none⟩) xs.length cap, .slice (some ⟨b2, o2, none⟩) ys.length cap2] w fun e w' => ∃ os, Out xs ys n xs.length os ∧ e = .returned (.slice (some ⟨w.heap.size, 0, none⟩) (trimTo os n) n) ∧ Blk w' w.heap.size os ∧ Below w.heap.size w w' := by
  obtain ⟨i0, hi, hz0, hz1, hz2⟩ := info_parts (show (Tryz.prog.info? 96).map (fun i => (i.zero, i.size, i.bytes)) = some (some (.int .u32 0), 1, 4) by kernel_rfl)
  go_enter Tryz.func48, Tryz.ntmps48
  go_wp2_with (at_make; refine wpList_make_full _ rfl _ _ 22 rfl w.heap.size 96 i0 (.int .u32 0) 1 Tryz.underlying22 hi hz0 hz1 _ _ _ _ n rfl rfl (by omega) (by omega) (by rw [hz2]; omega) (by unfold maxLen; omega) (Nat.le_refl _) ?_)
  intro w1 hown hgrow
  have hblk : Blk w1 w.heap.size (List.replicate n 0) := made_blk hown
  have hbel : Below w.heap.size w w1 := (Below.refl _ _).grown hgrow (Nat.le_refl _) (fun _ h => by cases h)
  clear hown hgrow hi hz0 hz1 hz2
  go_wp2
  go_loopw [22] (fun i wr => ∃ (k : Nat) (os : List Int), k ≤ xs.length ∧ i = .int .i64 k ∧ Out xs ys n k os ∧ Blk wr w.heap.size os ∧ Below w.heap.size w wr) (fun i _ => xs.length - (intOf i).toNat)
  case atStart => exact ⟨0, _, Nat.zero_le _, rfl, Out.zero xs ys n, hblk, hbel⟩
  case round =>
    obtain ⟨k, os, hk, rfl, hout, hb, hbw⟩ := hrel
    have hcxk : k < xs.length → wr.cell? ⟨b, o + k, none⟩ = some (.int .u32 (xs.getD k 0)) := fun h => (hbw.cell (by exact hb1)).trans (hcx k h)
    have htrim := trimmed_walk w.heap.size 0 n n os wr (fun i hi => by simpa using hb.cell (by rw [hout.len]; exact hi)) (Nat.le_refl _) hn
    go_wp2_with (go_at_call 46; refine htrim.mono ?_; rintro e w9 ⟨rfl, rfl⟩)
    · have hlt : k < xs.length := by assumption
      clear htrim hcxk
      have hxk : xs.getD k 0 = xs[k] := by simp [hlt]
      have hx0 := hdx k
      rw [hxk] at hx0
      have hst := hout.start
      rw [hxk] at hst
      have hrow := fun os1 cc => Out.row (os := os1) (c := cc) hout hlt hlen
      rw [hxk] at hrow
      generalize xs[k] = x at hx0 hst hrow ⊢
      have hd : decide (k < xs.length) = true := by simp [hlt]
      rw [hd]
      clear hd
      go_loopw [29, 8] (fun i c wq => ∃ (m : Nat) (os1 : List Int) (cc : Int), m ≤ ys.length ∧ i = .int .i64 m ∧ c = .int .u64 cc ∧ In x ys os k m n os1 cc ∧ Blk wq w.heap.size os1 ∧ Below w.heap.size w wq) (fun i _ _ => ys.length - (intOf i).toNat)
      case atStart => exact ⟨0, os, 0, Nat.zero_le _, rfl, rfl, hst, hb, hbw⟩
      case round =>
        obtain ⟨m, os1, cc, hm, rfl, rfl, hin, hb1', hbw1⟩ := hrel
        have hcym : m < ys.length → wr.cell? ⟨b2, o2 + m, none⟩ = some (.int .u32 (ys.getD m 0)) := fun h => (hbw1.cell (by exact hb2)).trans (hcy m h)
        have hcom : m < ys.length → wr.cell? ⟨w.heap.size, k + m, none⟩ = some (.int .u32 (os1.getD (k + m) 0)) := fun h => hb1'.cell (by rw [hin.len]; omega)
        have hfr := hb1'.frozen (k + m)
        have hcend : wr.cell? ⟨w.heap.size, k + ys.length, none⟩ = some (.int .u32 (os1.getD (k + ys.length) 0)) := hb1'.cell (by rw [hin.len]; omega)
        have hfr2 := hb1'.frozen (k + ys.length)
        have hym := hdy m
        have hom := hin.dig (k + m)
        have hcc := hin.c0
        go_wp2_with (go_at_call 75; refine (mul32_walk x _ hx0 (by first | exact hym | (have := hym; simp_all)) _).mono ?_; rintro e w9 ⟨rfl, rfl⟩)
        · have hml : m < ys.length := by assumption
          go_roundw
          case rel =>
            have hyg : ys.getD m 0 = ys[m] := by simp [hml]
            have hstep := hin.step hx0 hdy hml (by omega)
            rw [hyg] at hstep hym
            have hp := mul_bound hx0 hym
            have hs := sum_bound hx0 hym hom hcc
            have hog : os1[k + m]?.getD 0 = os1.getD (k + m) 0 := by simp
            rw [hog]
            have hsum : IntKind.u64.wrap (IntKind.u64.wrap (IntKind.u64.wrap (IntKind.u64.wrap (IntKind.u64.wrap (x * ys[m] / 4294967296) * 4294967296) + x * ys[m] % 4294967296) + IntKind.u64.wrap (os1.getD (k + m) 0)) + cc) = x * ys[m] + os1.getD (k + m) 0 + cc := by
              generalize x * ys[m] = p at hp hs ⊢
              generalize os1.getD (k + m) 0 = d at hom hs ⊢
              simp only [IntKind.wrap_u64]
              omega
            rw [hsum]
            exact ⟨m + 1, _, _, by omega, by go_num, rfl, hstep, hb1'.set _ _, hbw1.setCell (p := ⟨w.heap.size, k + m, none⟩) (Nat.le_refl _) _⟩
          case measure => simp [intOf]; omega
        · have hml : m = ys.length := by omega
          subst hml
          go_round
          case rel =>
            exact ⟨k + 1, _, by omega, by go_num, hrow _ _ hin, hb1'.set _ _, hbw1.setCell (p := ⟨w.heap.size, k + ys.length, none⟩) (Nat.le_refl _) _⟩
          case measure => simp [intOf]; omega
    · go_ret
      have hkx : k = xs.length := by omega
      subst hkx
      exact ⟨os, hout, rfl, hb, hbw⟩
end Go.Proofs.YtlmifjdbjhcceaaGreatDoor

namespace Go.Proofs.YtlmifjdbjhcceaaGreatDoor
open Go Go.RowKit

theorem eq_of_agree {xs ys : List Int} (hl : xs.length = ys.length) (h : ∀ j, j < xs.length → xs.getD j 0 = ys.getD j 0) : xs = ys := by
  apply List.ext_getElem hl
  intro i h1 h2
  have := h i h1
  simpa [h1, h2] using this

theorem not_eq_at {xs ys : List Int} {j : Nat} (h : ¬ xs.getD j 0 = ys.getD j 0) : ¬ xs = ys := fun e => h (by rw [e])

set_option maxRecDepth 100000 in
theorem eq32_walk (b o cap b2 o2 cap2 : Nat) (xs ys : List Int) (w : World) (hl : xs.length = ys.length) (hn : xs.length ≤ 1099511627776)
    (hcx : ∀ i, i < xs.length → w.cell? ⟨b, o + i, none⟩ = some (.int .u32 (xs.getD i 0))) (hcy : ∀ i, i < ys.length → w.cell? ⟨b2, o2 + i, none⟩ = some (.int .u32 (ys.getD i 0))) (hb1 : b < w.heap.size) (hb2 : b2 < w.heap.size) :
    Calls Tryz.prog 47 #[.slice (some ⟨b, o, none⟩) xs.length cap, .slice (some ⟨b2, o2, none⟩) xs.length cap2] w fun e w' => e = .returned (.bool (decide (xs = ys))) ∧ Below w.heap.size w w' := by
  go_enter Tryz.func47, Tryz.ntmps47
  go_wp2
  go_loopw [13] (fun i wr => ∃ k : Nat, k ≤ xs.length ∧ i = .int .i64 k ∧ (∀ j, j < k → xs.getD j 0 = ys.getD j 0) ∧ Below w.heap.size w wr) (fun i _ => xs.length - (intOf i).toNat)
  case atStart => exact ⟨0, Nat.zero_le _, rfl, fun j hj => by omega, Below.refl _ _⟩
  case round =>
    obtain ⟨k, hk, rfl, hag, hbw⟩ := hrel
    by_cases hlt : k < xs.length
    · have c1 : wr.cell? ⟨b, o + k, none⟩ = some (.int .u32 (xs.getD k 0)) := (hbw.cell (by exact hb1)).trans (hcx k hlt)
      have c2 : wr.cell? ⟨b2, o2 + k, none⟩ = some (.int .u32 (ys.getD k 0)) := (hbw.cell (by exact hb2)).trans (hcy k (by omega))
      have hlt' : (k : Int) < (xs.length : Int) := by omega
      have hHid : Hid (∀ j, j < k → xs.getD j 0 = ys.getD j 0) := hag
      clear hag
      go_wp2
      go_quiet (fail)
      have hB : Below w.heap.size w (wr.drewN nq) := ⟨hbw.os, hbw.tape, hbw.output, hbw.size, hbw.block⟩
      go_wp2
      · go_ret
        have hne : (xs[k] != ys[k]'(by omega)) = true := by assumption
        have hne' : ¬ xs.getD k 0 = ys.getD k 0 := by
          have hy : k < ys.length := by omega
          simpa [hlt, hy] using hne
        have e := not_eq_at hne'
        exact ⟨by simp [e], hB⟩
      · go_roundw
        case rel =>
          have hne : (xs[k] != ys[k]'(by omega)) = false := by assumption
          have he : xs.getD k 0 = ys.getD k 0 := by
            have hy : k < ys.length := by omega
            simpa [hlt, hy] using hne
          refine ⟨k + 1, by omega, by go_num, fun j hj => ?_, hB⟩
          rcases Nat.lt_or_ge j k with h | h
          · exact hHid.out j h
          · have : j = k := by omega
            subst this; exact he
        case measure => simp [intOf]; omega
    · have hk' : k = xs.length := by omega
      subst hk'
      have hHid : Hid (∀ j, j < xs.length → xs.getD j 0 = ys.getD j 0) := hag
      clear hag
      go_wp2
      go_ret
      have e := eq_of_agree hl hHid.out
      exact ⟨by simp [e], hbw⟩
end Go.Proofs.YtlmifjdbjhcceaaGreatDoor

namespace Go.Proofs.YtlmifjdbjhcceaaGreatDoor
open Go Go.RowKit

/-! ### The plain law of words -/
def trim (xs : List Int) : List Int := xs.take (trimTo xs xs.length)

theorem val_append : ∀ (a b : List Int), val (a ++ b) = val a + 4294967296 ^ a.length * val b
  | [], b => by simp [val]
  | x :: a, b => by
    simp only [List.cons_append, val, val_append a b, List.length_cons, Int.pow_succ]
    rw [Int.mul_add, ← Int.mul_assoc, Int.mul_comm 4294967296 (4294967296 ^ a.length)]
    omega

theorem val_take_trim (xs : List Int) : ∀ n, n ≤ xs.length → val (xs.take (trimTo xs n)) = val (xs.take n)
  | 0, _ => rfl
  | n + 1, h => by
    unfold trimTo
    split
    · rename_i h0
      rw [val_take_trim xs n (by omega), val_take xs n (by omega), h0]; simp
    · rfl

theorem val_trim (xs : List Int) : val (trim xs) = val xs := by
  unfold trim
  rw [val_take_trim xs xs.length (Nat.le_refl _), List.take_length]

theorem trimTo_last (xs : List Int) : ∀ n, trimTo xs n = 0 ∨ ∃ m, trimTo xs n = m + 1 ∧ ¬ xs.getD m 0 = 0
  | 0 => .inl rfl
  | n + 1 => by
    unfold trimTo
    split
    · exact trimTo_last xs n
    · rename_i h; exact .inr ⟨n, rfl, h⟩

/-- No most significant word 0. -/
def Canon (xs : List Int) : Prop := ∀ m, xs.length = m + 1 → ¬ xs.getD m 0 = 0

theorem trim_length (xs : List Int) : (trim xs).length = trimTo xs xs.length := by
  have := trimTo_le xs xs.length
  simp [trim]; omega

theorem trim_getD (xs : List Int) (j : Nat) (h : j < (trim xs).length) : (trim xs).getD j 0 = xs.getD j 0 := by
  rw [trim_length] at h
  simp only [trim, List.getD_eq_getElem?_getD, List.getElem?_take, if_pos h]

theorem canon_trim (xs : List Int) : Canon (trim xs) := by
  intro m hm
  rw [trim_getD xs m (by omega)]
  rw [trim_length] at hm
  rcases trimTo_last xs xs.length with h | ⟨k, h1, h2⟩
  · omega
  · have : k = m := by omega
    subst this; exact h2

theorem dig_trim {xs : List Int} (h : Dig xs) : Dig (trim xs) := by
  intro j
  have := h j
  simp only [trim, List.getD_eq_getElem?_getD, List.getElem?_take] at this ⊢
  split
  · exact this
  · simp

theorem dig_tail {x : Int} {xs : List Int} (h : Dig (x :: xs)) : Dig xs := fun j => by simpa using h (j + 1)

theorem val_nonneg : ∀ {xs : List Int}, Dig xs → 0 ≤ val xs
  | [], _ => Int.le_refl _
  | x :: xs, h => by
    have h0 := (h 0).1
    have := val_nonneg (dig_tail h)
    simp only [List.getD_cons_zero] at h0
    simp only [val]; omega

theorem canon_tail {x : Int} {xs : List Int} (h : Canon (x :: xs)) : Canon xs := fun m hm => by
  have := h (m + 1) (by simp [hm])
  simpa using this

theorem val_pos : ∀ {xs : List Int}, Dig xs → Canon xs → xs ≠ [] → 0 < val xs
  | [], _, _, h => absurd rfl h
  | [x], hd, hc, _ => by
    have h1 := hc 0 rfl
    have h0 := (hd 0).1
    simp at h1 h0
    simp [val]; omega
  | x :: y :: xs, hd, hc, _ => by
    have := val_pos (dig_tail hd) (canon_tail hc) (by simp)
    have h0 := (hd 0).1
    simp only [List.getD_cons_zero] at h0
    rw [val]; omega

theorem val_inj : ∀ {xs ys : List Int}, Dig xs → Dig ys → Canon xs → Canon ys → val xs = val ys → xs = ys
  | [], [], _, _, _, _, _ => rfl
  | [], y :: ys, _, hd, _, hc, h => by have := val_pos hd hc (by simp); rw [← h] at this; simp [val] at this
  | x :: xs, [], hd, _, hc, _, h => by have := val_pos hd hc (by simp); rw [h] at this; simp [val] at this
  | x :: xs, y :: ys, hx, hy, cx, cy, h => by
    have h1 := hx 0
    have h2 := hy 0
    simp only [List.getD_cons_zero] at h1 h2
    simp only [val] at h
    have e1 : x = y := by omega
    have e2 : val xs = val ys := by omega
    rw [e1, val_inj (dig_tail hx) (dig_tail hy) (canon_tail cx) (canon_tail cy) e2]

/-- Equality of the words of two products is equality of the products. -/
theorem trim_eq_iff {xs ys : List Int} (hx : Dig xs) (hy : Dig ys) : trim xs = trim ys ↔ val xs = val ys := by
  constructor
  · intro h; rw [← val_trim xs, ← val_trim ys, h]
  · intro h; exact val_inj (dig_trim hx) (dig_trim hy) (canon_trim xs) (canon_trim ys) (by rw [val_trim, val_trim, h])
end Go.Proofs.YtlmifjdbjhcceaaGreatDoor

namespace Go.Proofs.YtlmifjdbjhcceaaGreatDoor
open Go Go.RowKit

/-- A slice of words. -/
def Sl (w : World) (v : Value) (xs : List Int) : Prop :=
  Dig xs ∧ xs.length ≤ 549755813888 ∧ ∃ q cap, v = .slice q xs.length cap ∧ xs.length ≤ cap ∧ (xs = [] ∨ ∃ b o, q = some ⟨b, o, none⟩ ∧ b < w.heap.size ∧ ∀ i, i < xs.length → w.cell? ⟨b, o + i, none⟩ = some (.int .u32 (xs.getD i 0)))

theorem Sl.below {w w' : World} {v : Value} {xs : List Int} (h : Sl w v xs) (hb : Below w.heap.size w w') : Sl w' v xs := by
  obtain ⟨h1, h2, q, cap, h3, h4, h5⟩ := h
  refine ⟨h1, h2, q, cap, h3, h4, h5.imp id ?_⟩
  rintro ⟨b, o, e, hlt, hc⟩
  exact ⟨b, o, e, Nat.lt_of_lt_of_le hlt hb.size, fun i hi => (hb.cell (by exact hlt)).trans (hc i hi)⟩

set_option maxRecDepth 100000 in
theorem trimmed_none (q : Option Addr) (cap : Nat) (w : World) : Calls Tryz.prog 46 #[.slice q 0 cap] w fun e w' => e = .returned (.slice q 0 cap) ∧ w' = w := by
  go_enter Tryz.func46, Tryz.ntmps46
  go_wp2
  refine wp_loop_once ?_
  go_wp2
  go_ret
  exact ⟨rfl, rfl⟩

theorem trimmed_ok {w : World} {v : Value} {xs : List Int} (h : Sl w v xs) : ∃ u, Sl w u (trim xs) ∧ ∀ w1, Below w.heap.size w w1 → Calls Tryz.prog 46 #[v] w1 fun e w' => e = .returned u ∧ w' = w1 := by
  obtain ⟨h1, h2, q, cap, rfl, h4, h5⟩ := h
  have hl := trimTo_le xs xs.length
  rcases h5 with rfl | ⟨b, o, rfl, hlt, hc⟩
  · exact ⟨.slice q 0 cap, ⟨h1, by simp [trim], q, cap, rfl, by simp [trim], .inl rfl⟩, fun w1 _ => trimmed_none q cap w1⟩
  · refine ⟨.slice (some ⟨b, o, none⟩) (trimTo xs xs.length) cap, ⟨dig_trim h1, by rw [trim_length]; omega, _, cap, by rw [trim_length], by rw [trim_length]; omega, .inr ⟨b, o, rfl, hlt, fun i hi => ?_⟩⟩,
      fun w1 hb => trimmed_walk b o xs.length cap xs w1 (fun i hi => (hb.cell (by exact hlt)).trans (hc i hi)) h4 (by omega)⟩
    rw [trim_getD xs i hi]
    exact hc i (by rw [trim_length] at hi; omega)

theorem product_ok {w : World} {v u : Value} {xs ys : List Int} (hx : Sl w v xs) (hy : Sl w u ys) (nx : xs ≠ []) (ny : ys ≠ []) (hn : xs.length + ys.length ≤ 549755813888) :
    Calls Tryz.prog 48 #[v, u] w fun e w' => ∃ r zs, e = .returned r ∧ Sl w' r zs ∧ Canon zs ∧ val zs = val xs * val ys ∧ Below w.heap.size w w' := by
  obtain ⟨x1, x2, q, cap, rfl, x4, x5⟩ := hx
  obtain ⟨y1, y2, q', cap', rfl, y4, y5⟩ := hy
  rcases x5 with e | ⟨b, o, rfl, hlt, hc⟩
  · exact absurd e nx
  rcases y5 with e | ⟨b', o', rfl, hlt', hc'⟩
  · exact absurd e ny
  refine (product_walk b o cap b' o' cap' (xs.length + ys.length) xs ys w rfl (by omega) x1 y1 hc hc' hlt hlt').mono ?_
  rintro e w' ⟨os, hout, rfl, hblk, hb⟩
  have ho := hout.len
  have hl := trimTo_le os os.length
  refine ⟨_, trim os, rfl, ⟨dig_trim hout.dig, by rw [trim_length]; omega, _, _, by rw [trim_length, ho], by rw [trim_length]; omega, .inr ⟨w.heap.size, 0, rfl, ?_, fun i hi => ?_⟩⟩, canon_trim os, by rw [val_trim, hout.eq, List.take_length], hb⟩
  · rcases Nat.lt_or_ge w.heap.size w'.heap.size with hh | hh
    · exact hh
    · unfold Blk at hblk; simp [Array.getElem?_eq_none hh] at hblk
  · rw [trim_getD os i hi, Nat.zero_add]
    exact hblk.cell (by rw [trim_length] at hi; omega)

set_option maxRecDepth 100000 in
theorem eq32_len (q q' : Option Addr) (m n cap cap' : Nat) (w : World) (_hm : m ≤ 1099511627776) (_hn : n ≤ 1099511627776) (h : ¬ m = n) : Calls Tryz.prog 47 #[.slice q m cap, .slice q' n cap'] w fun e w' => e = .returned (.bool false) ∧ w' = w := by
  have h' : ¬ (m : Int) = (n : Int) := by omega
  go_enter Tryz.func47, Tryz.ntmps47
  go_wp2
  go_ret
  exact ⟨rfl, rfl⟩

set_option maxRecDepth 100000 in
theorem eq32_none (q q' : Option Addr) (cap cap' : Nat) (w : World) : Calls Tryz.prog 47 #[.slice q 0 cap, .slice q' 0 cap'] w fun e w' => e = .returned (.bool true) ∧ w' = w := by
  go_enter Tryz.func47, Tryz.ntmps47
  go_wp2
  refine wp_loop_once ?_
  go_wp2
  go_ret
  exact ⟨rfl, rfl⟩

theorem eq32_ok {w : World} {v u : Value} {xs ys : List Int} (hx : Sl w v xs) (hy : Sl w u ys) :
    Calls Tryz.prog 47 #[v, u] w fun e w' => e = .returned (.bool (decide (xs = ys))) ∧ Below w.heap.size w w' := by
  obtain ⟨x1, x2, q, cap, rfl, x4, x5⟩ := hx
  obtain ⟨y1, y2, q', cap', rfl, y4, y5⟩ := hy
  by_cases hl : xs.length = ys.length
  · rcases x5 with rfl | ⟨b, o, rfl, hlt, hc⟩
    · have hy0 : ys = [] := List.eq_nil_of_length_eq_zero hl.symm
      subst hy0
      exact (eq32_none q q' cap cap' w).mono fun e w' he => ⟨by rw [he.1]; simp, by rw [he.2]; exact Below.refl _ _⟩
    · rcases y5 with rfl | ⟨b', o', rfl, hlt', hc'⟩
      · have hx0 : xs = [] := List.eq_nil_of_length_eq_zero hl
        subst hx0
        exact (eq32_none _ q' cap cap' w).mono fun e w' he => ⟨by rw [he.1]; simp, by rw [he.2]; exact Below.refl _ _⟩
      · rw [← hl]
        exact eq32_walk b o cap b' o' cap' xs ys w hl (by omega) hc hc' hlt hlt'
  · have hne : ¬ xs = ys := fun e => hl (by rw [e])
    exact (eq32_len q q' _ _ cap cap' w (by omega) (by omega) hl).mono fun e w' he => ⟨by rw [he.1]; simp [hne], by rw [he.2]; exact Below.refl _ _⟩
end Go.Proofs.YtlmifjdbjhcceaaGreatDoor

namespace Go.Proofs.YtlmifjdbjhcceaaGreatDoor
open Go Go.RowKit

theorem below_two (w : World) (o o2 : Obj) : Below w.heap.size w ((w.alloc o).alloc o2) := ((Below.refl _ _).alloc (Nat.le_refl _) o).alloc (by show w.heap.size ≤ (w.heap.push o).size; simp) o2

theorem trim_nil {xs : List Int} (h : Dig xs) : trim xs = [] ↔ val xs = 0 := by
  rw [show ([] : List Int) = trim [] from rfl, trim_eq_iff h (fun j => by simp)]
  simp [val]

theorem below_draws {w w1 : World} (h : Below w.heap.size w w1) (n : Nat) : Below w.heap.size w (w1.drewN n) := ⟨h.os, h.tape, h.output, h.size, h.block⟩

/-- The slice []uint32{1}. -/
theorem one_sl (w : World) : Sl (w.alloc (Obj.cells #[Value.int .u32 1] 96)) (.slice (some ⟨w.heap.size, 0, none⟩) 1 1) [1] := by
  refine ⟨fun j => ?_, by decide, _, 1, rfl, by decide, .inr ⟨w.heap.size, 0, rfl, by show w.heap.size < (w.heap.push _).size; simp, fun i hi => ?_⟩⟩
  · match j with
    | 0 => decide
    | j + 1 => simp
  · simp only [List.length_cons, List.length_nil] at hi
    have : i = 0 := by omega
    subst this
    show World.cell? _ _ = _
    simp

def ratEq (n1 : Bool) (a c : List Int) (n2 : Bool) (b d : List Int) : Bool :=
  if val a = 0 ∨ val b = 0 then decide (val a = 0 ∧ val b = 0) else (n1 == n2) && decide (val a * (if val d = 0 then 1 else val d) = val b * (if val c = 0 then 1 else val c))

set_option maxRecDepth 100000 in
theorem sameRat_zero (w : World) (n1 n2 : Bool) (a b c d : Value) (xa xb xc xd : List Int) (ha : Sl w a xa) (hb : Sl w b xb) (hc : Sl w c xc) (hd : Sl w d xd) (hz : (trim xa).length = 0 ∨ (trim xb).length = 0) :
    Calls Tryz.prog 25 #[.agg #[.bool n1, a, c], .agg #[.bool n2, b, d]] w fun e w' => e = .returned (.bool (decide ((trim xa).length = (trim xb).length))) ∧ Below w.heap.size w w' := by
  obtain ⟨ta, sa, ka⟩ := trimmed_ok ha
  obtain ⟨tb, sb, kb⟩ := trimmed_ok hb
  obtain ⟨tc, sc, kc⟩ := trimmed_ok hc
  obtain ⟨td, sd, kd⟩ := trimmed_ok hd
  obtain ⟨_, la, qa, pa, rfl, _⟩ := sa
  obtain ⟨_, lb, qb, pb, rfl, _⟩ := sb
  clear sc sd
  generalize (trim xa).length = na at *
  generalize (trim xb).length = nb at *
  have h2 := below_two w (Obj.cells #[.bool n1, a, c] 24) (Obj.cells #[.bool n2, b, d] 24)
  go_enter Tryz.func25, Tryz.ntmps25
  go_wp2_with fail
  go_quiet (first
    | (go_at_call_of 46 a; refine Calls.quiet_of_same (ka _ (below_draws h2 _)))
    | (go_at_call_of 46 b; refine Calls.quiet_of_same (kb _ (below_draws h2 _))))
  go_wp2_with fail
  have hW1 := below_draws h2 nq
  have q0 : (((w.alloc (Obj.cells #[Value.bool n1, a, c] 24)).alloc (Obj.cells #[Value.bool n2, b, d] 24)).drewN nq).cell? ⟨w.heap.size, 0, none⟩ = some (.bool n1) := by simp
  have q2 : (((w.alloc (Obj.cells #[Value.bool n1, a, c] 24)).alloc (Obj.cells #[Value.bool n2, b, d] 24)).drewN nq).cell? ⟨w.heap.size, 2, none⟩ = some c := by simp
  have r0 : (((w.alloc (Obj.cells #[Value.bool n1, a, c] 24)).alloc (Obj.cells #[Value.bool n2, b, d] 24)).drewN nq).cell? ⟨w.heap.size + 1, 0, none⟩ = some (.bool n2) := by simp
  have r2 : (((w.alloc (Obj.cells #[Value.bool n1, a, c] 24)).alloc (Obj.cells #[Value.bool n2, b, d] 24)).drewN nq).cell? ⟨w.heap.size + 1, 2, none⟩ = some d := by simp
  generalize (((w.alloc (Obj.cells #[Value.bool n1, a, c] 24)).alloc (Obj.cells #[Value.bool n2, b, d] 24)).drewN nq) = W1 at hW1 q0 q2 r0 r2 ⊢
  clear h2
  go_quiet (first
    | (go_at_call_of 46 c; refine Calls.quiet_of_same (kc _ (below_draws hW1 _)))
    | (go_at_call_of 46 d; refine Calls.quiet_of_same (kd _ (below_draws hW1 _))))
  rcases hz with rfl | rfl
  · go_wp2_with fail
    go_ret
    refine ⟨?_, below_draws hW1 _⟩
    have : ((0 : Int) == (nb : Int)) = decide (0 = nb) := by
      rw [Bool.eq_iff_iff]; simp; omega
    simp [this]
  · by_cases h0 : na = 0
    · subst h0
      go_wp2_with fail
      go_ret
      exact ⟨by simp, below_draws hW1 _⟩
    · have h0' : ((na : Int) == 0) = false := by simp [h0]
      go_wp2_with fail
      go_ret
      exact ⟨by simp [h0], below_draws hW1 _⟩
end Go.Proofs.YtlmifjdbjhcceaaGreatDoor

namespace Go.Proofs.YtlmifjdbjhcceaaGreatDoor
open Go Go.RowKit

set_option maxRecDepth 100000 in
theorem sameRat_cd (w : World) (n1 n2 : Bool) (a b c d : Value) (xa xb xc xd : List Int) (ha : Sl w a xa) (hb : Sl w b xb) (hc : Sl w c xc) (hd : Sl w d xd) (ba : xa.length ≤ 68719476736) (bb : xb.length ≤ 68719476736) (bc : xc.length ≤ 68719476736) (bd : xd.length ≤ 68719476736)
    (hza : ¬ (trim xa).length = 0) (hzb : ¬ (trim xb).length = 0) (hzc : ¬ (trim xc).length = 0) (hzd : ¬ (trim xd).length = 0) :
    Calls Tryz.prog 25 #[.agg #[.bool n1, a, c], .agg #[.bool n2, b, d]] w fun e w' => e = .returned (.bool ((n1 == n2) && decide (val (trim xa) * val (trim xd) = val (trim xb) * val (trim xc)))) ∧ Below w.heap.size w w' := by
  obtain ⟨ta, sa, ka⟩ := trimmed_ok ha
  obtain ⟨tb, sb, kb⟩ := trimmed_ok hb
  obtain ⟨tc, sc, kc⟩ := trimmed_ok hc
  obtain ⟨td, sd, kd⟩ := trimmed_ok hd
  have la := trim_length xa; have ta' := trimTo_le xa xa.length
  have lb := trim_length xb; have tb' := trimTo_le xb xb.length
  have lc := trim_length xc; have tc' := trimTo_le xc xc.length
  have ld := trim_length xd; have td' := trimTo_le xd xd.length
  have pa : (trim xa).length ≤ 68719476736 := by omega
  have pb : (trim xb).length ≤ 68719476736 := by omega
  have pc : (trim xc).length ≤ 68719476736 := by omega
  have pd : (trim xd).length ≤ 68719476736 := by omega
  clear la lb lc ld ta' tb' tc' td' ba bb bc bd ha hb hc hd
  generalize trim xa = ya at *
  generalize trim xb = yb at *
  generalize trim xc = yc at *
  generalize trim xd = yd at *
  have ea := sa; have eb := sb; have ec := sc; have ed := sd
  obtain ⟨_, _, qa, pa', rfl, _⟩ := ea
  obtain ⟨_, _, qb, pb', rfl, _⟩ := eb
  obtain ⟨_, _, qc, pc', rfl, _⟩ := ec
  obtain ⟨_, _, qd, pd', rfl, _⟩ := ed
  have h2 := below_two w (Obj.cells #[.bool n1, a, c] 24) (Obj.cells #[.bool n2, b, d] 24)
  go_enter Tryz.func25, Tryz.ntmps25
  go_wp2_with fail
  go_quiet (first
    | (go_at_call_of 46 a; refine Calls.quiet_of_same (ka _ (below_draws h2 _)))
    | (go_at_call_of 46 b; refine Calls.quiet_of_same (kb _ (below_draws h2 _))))
  go_wp2_with fail
  have hW1 := below_draws h2 nq
  have q0 : (((w.alloc (Obj.cells #[Value.bool n1, a, c] 24)).alloc (Obj.cells #[Value.bool n2, b, d] 24)).drewN nq).cell? ⟨w.heap.size, 0, none⟩ = some (.bool n1) := by simp
  have q2 : (((w.alloc (Obj.cells #[Value.bool n1, a, c] 24)).alloc (Obj.cells #[Value.bool n2, b, d] 24)).drewN nq).cell? ⟨w.heap.size, 2, none⟩ = some c := by simp
  have r0 : (((w.alloc (Obj.cells #[Value.bool n1, a, c] 24)).alloc (Obj.cells #[Value.bool n2, b, d] 24)).drewN nq).cell? ⟨w.heap.size + 1, 0, none⟩ = some (.bool n2) := by simp
  have r2 : (((w.alloc (Obj.cells #[Value.bool n1, a, c] 24)).alloc (Obj.cells #[Value.bool n2, b, d] 24)).drewN nq).cell? ⟨w.heap.size + 1, 2, none⟩ = some d := by simp
  have s2 : (((w.alloc (Obj.cells #[Value.bool n1, a, c] 24)).alloc (Obj.cells #[Value.bool n2, b, d] 24)).drewN nq).heap.size = w.heap.size + 2 := by simp
  generalize (((w.alloc (Obj.cells #[Value.bool n1, a, c] 24)).alloc (Obj.cells #[Value.bool n2, b, d] 24)).drewN nq) = W1 at hW1 q0 q2 r0 r2 s2 ⊢
  clear h2 ka kb
  go_quiet (first
    | (go_at_call_of 46 c; refine Calls.quiet_of_same (kc _ (below_draws hW1 _)))
    | (go_at_call_of 46 d; refine Calls.quiet_of_same (kd _ (below_draws hW1 _))))
  clear kc kd q2 r2
  have za : ((ya.length : Int) == 0) = false := by simp; intro h; apply hza; simp [h]
  have zb : ((yb.length : Int) == 0) = false := by simp; intro h; apply hzb; simp [h]
  have zc : ((yc.length : Int) == 0) = false := by simp; intro h; apply hzc; simp [h]
  have zd : ((yd.length : Int) == 0) = false := by simp; intro h; apply hzd; simp [h]
  have na : ya ≠ [] := fun e => hza (by rw [e]; rfl)
  have nb : yb ≠ [] := fun e => hzb (by rw [e]; rfl)
  have nc : yc ≠ [] := fun e => hzc (by rw [e]; rfl)
  have nd : yd ≠ [] := fun e => hzd (by rw [e]; rfl)
  have hV : Below w.heap.size w ((W1.drewN nq).alloc (Obj.cells #[Value.int IntKind.u32 1] 96)) := (below_draws hW1 nq).alloc hW1.size _
  have hp1 := product_ok (sa.below hV) (sd.below hV) na nd (by omega)
  generalize hVW : (W1.drewN nq).alloc (Obj.cells #[Value.int IntKind.u32 1] 96) = V at hV hp1
  cases hnn : n1 == n2 with
  | false =>
    subst hVW
    go_wp2_with fail
    go_ret
    exact ⟨by rw [hnn]; rfl, hV⟩
  | true =>
    subst hVW
    go_wp2_with (first
      | (go_at_call_of 48 (Value.slice qa ya.length pa'); refine hp1.mono ?_; rintro e w3 ⟨r1, z1, rfl, hs1, hc1, hv1, hb3⟩
         have hV3 := hV.trans (hb3.mono hV.size)
         have hp2 := product_ok (sb.below hV3) (sc.below hV3) nb nc (by omega))
      | (go_at_call_of 48 (Value.slice qb yb.length pb'); refine hp2.mono ?_; rintro e w4 ⟨r2', z2, rfl, hs2, hc2, hv2, hb4⟩
         have he := eq32_ok (hs1.below hb4) hs2)
      | (go_at_call 47; refine he.mono ?_; rintro e w5 ⟨rfl, hb5⟩))
    go_ret
    have hV4 := hV3.trans (hb4.mono hV3.size)
    refine ⟨?_, hV4.trans (hb5.mono hV4.size)⟩
    have hiff : z1 = z2 ↔ val ya * val yd = val yb * val yc := by
      rw [← hv1, ← hv2]
      exact ⟨fun h => by rw [h], fun h => val_inj hs1.1 hs2.1 hc1 hc2 h⟩
    rw [hnn]
    simp [hiff]
end Go.Proofs.YtlmifjdbjhcceaaGreatDoor

namespace Go.Proofs.YtlmifjdbjhcceaaGreatDoor
open Go Go.RowKit

set_option maxRecDepth 100000 in
theorem sameRat_c (w : World) (n1 n2 : Bool) (a b c d : Value) (xa xb xc xd : List Int) (ha : Sl w a xa) (hb : Sl w b xb) (hc : Sl w c xc) (hd : Sl w d xd) (ba : xa.length ≤ 68719476736) (bb : xb.length ≤ 68719476736) (bc : xc.length ≤ 68719476736) (_bd : xd.length ≤ 68719476736)
    (hza : ¬ (trim xa).length = 0) (hzb : ¬ (trim xb).length = 0) (hzc : ¬ (trim xc).length = 0) (hzd : (trim xd).length = 0) :
    Calls Tryz.prog 25 #[.agg #[.bool n1, a, c], .agg #[.bool n2, b, d]] w fun e w' => e = .returned (.bool ((n1 == n2) && decide (val (trim xa) * 1 = val (trim xb) * val (trim xc)))) ∧ Below w.heap.size w w' := by
  obtain ⟨ta, sa, ka⟩ := trimmed_ok ha
  obtain ⟨tb, sb, kb⟩ := trimmed_ok hb
  obtain ⟨tc, sc, kc⟩ := trimmed_ok hc
  obtain ⟨td, sd, kd⟩ := trimmed_ok hd
  have la := trim_length xa; have ta' := trimTo_le xa xa.length
  have lb := trim_length xb; have tb' := trimTo_le xb xb.length
  have lc := trim_length xc; have tc' := trimTo_le xc xc.length
  have ld := trim_length xd; have td' := trimTo_le xd xd.length
  have pa : (trim xa).length ≤ 68719476736 := by omega
  have pb : (trim xb).length ≤ 68719476736 := by omega
  have pc : (trim xc).length ≤ 68719476736 := by omega
  have pd : (trim xd).length ≤ 68719476736 := by omega
  clear la lb lc ld ta' tb' tc' td' ba bb bc _bd ha hb hc hd
  generalize trim xa = ya at *
  generalize trim xb = yb at *
  generalize trim xc = yc at *
  generalize trim xd = yd at *
  have ea := sa; have eb := sb; have ec := sc; have ed := sd
  obtain ⟨_, _, qa, pa', rfl, _⟩ := ea
  obtain ⟨_, _, qb, pb', rfl, _⟩ := eb
  obtain ⟨_, _, qc, pc', rfl, _⟩ := ec
  obtain ⟨_, _, qd, pd', rfl, _⟩ := ed
  have h2 := below_two w (Obj.cells #[.bool n1, a, c] 24) (Obj.cells #[.bool n2, b, d] 24)
  go_enter Tryz.func25, Tryz.ntmps25
  go_wp2_with fail
  go_quiet (first
    | (go_at_call_of 46 a; refine Calls.quiet_of_same (ka _ (below_draws h2 _)))
    | (go_at_call_of 46 b; refine Calls.quiet_of_same (kb _ (below_draws h2 _))))
  go_wp2_with fail
  have hW1 := below_draws h2 nq
  have q0 : (((w.alloc (Obj.cells #[Value.bool n1, a, c] 24)).alloc (Obj.cells #[Value.bool n2, b, d] 24)).drewN nq).cell? ⟨w.heap.size, 0, none⟩ = some (.bool n1) := by simp
  have q2 : (((w.alloc (Obj.cells #[Value.bool n1, a, c] 24)).alloc (Obj.cells #[Value.bool n2, b, d] 24)).drewN nq).cell? ⟨w.heap.size, 2, none⟩ = some c := by simp
  have r0 : (((w.alloc (Obj.cells #[Value.bool n1, a, c] 24)).alloc (Obj.cells #[Value.bool n2, b, d] 24)).drewN nq).cell? ⟨w.heap.size + 1, 0, none⟩ = some (.bool n2) := by simp
  have r2 : (((w.alloc (Obj.cells #[Value.bool n1, a, c] 24)).alloc (Obj.cells #[Value.bool n2, b, d] 24)).drewN nq).cell? ⟨w.heap.size + 1, 2, none⟩ = some d := by simp
  have s2 : (((w.alloc (Obj.cells #[Value.bool n1, a, c] 24)).alloc (Obj.cells #[Value.bool n2, b, d] 24)).drewN nq).heap.size = w.heap.size + 2 := by simp
  generalize (((w.alloc (Obj.cells #[Value.bool n1, a, c] 24)).alloc (Obj.cells #[Value.bool n2, b, d] 24)).drewN nq) = W1 at hW1 q0 q2 r0 r2 s2 ⊢
  clear h2 ka kb
  go_quiet (first
    | (go_at_call_of 46 c; refine Calls.quiet_of_same (kc _ (below_draws hW1 _)))
    | (go_at_call_of 46 d; refine Calls.quiet_of_same (kd _ (below_draws hW1 _))))
  clear kc kd q2 r2
  have za : ((ya.length : Int) == 0) = false := by simp; intro h; apply hza; simp [h]
  have zb : ((yb.length : Int) == 0) = false := by simp; intro h; apply hzb; simp [h]
  have zc : ((yc.length : Int) == 0) = false := by simp; intro h; apply hzc; simp [h]
  have zd : ((yd.length : Int) == 0) = true := by simp [hzd]
  have na : ya ≠ [] := fun e => hza (by rw [e]; rfl)
  have nb : yb ≠ [] := fun e => hzb (by rw [e]; rfl)
  have nc : yc ≠ [] := fun e => hzc (by rw [e]; rfl)
  have hV : Below w.heap.size w ((W1.drewN nq).alloc (Obj.cells #[Value.int IntKind.u32 1] 96)) := (below_draws hW1 nq).alloc hW1.size _
  have so : Sl ((W1.drewN nq).alloc (Obj.cells #[Value.int IntKind.u32 1] 96)) (Value.slice (some ⟨w.heap.size + 2, 0, none⟩) 1 1) [1] := by
    have := one_sl (W1.drewN nq)
    rw [show (W1.drewN nq).heap.size = w.heap.size + 2 from s2] at this
    exact this
  have hp1 := product_ok (sa.below hV) so na (by simp) (by simp; omega)
  generalize hVW : (W1.drewN nq).alloc (Obj.cells #[Value.int IntKind.u32 1] 96) = V at hV hp1 so
  cases hnn : n1 == n2 with
  | false =>
    subst hVW
    go_wp2_with fail
    go_ret
    exact ⟨by rw [hnn]; rfl, hV⟩
  | true =>
    subst hVW
    go_wp2_with (first
      | (go_at_call_of 48 (Value.slice qa ya.length pa'); refine hp1.mono ?_; rintro e w3 ⟨r1, z1, rfl, hs1, hc1, hv1, hb3⟩
         have hV3 := hV.trans (hb3.mono hV.size)
         have hp2 := product_ok (sb.below hV3) (sc.below hV3) nb nc (by omega))
      | (go_at_call_of 48 (Value.slice qb yb.length pb'); refine hp2.mono ?_; rintro e w4 ⟨r2', z2, rfl, hs2, hc2, hv2, hb4⟩
         have he := eq32_ok (hs1.below hb4) hs2)
      | (go_at_call 47; refine he.mono ?_; rintro e w5 ⟨rfl, hb5⟩))
    go_ret
    have hV4 := hV3.trans (hb4.mono hV3.size)
    refine ⟨?_, hV4.trans (hb5.mono hV4.size)⟩
    have hiff : z1 = z2 ↔ val ya * 1 = val yb * val yc := by
      have v1 : val [1] = 1 := by decide
      rw [v1] at hv1
      rw [← hv1, ← hv2]
      exact ⟨fun h => by rw [h], fun h => val_inj hs1.1 hs2.1 hc1 hc2 h⟩
    rw [hnn]
    simp [hiff]
set_option maxRecDepth 100000 in
theorem sameRat_d (w : World) (n1 n2 : Bool) (a b c d : Value) (xa xb xc xd : List Int) (ha : Sl w a xa) (hb : Sl w b xb) (hc : Sl w c xc) (hd : Sl w d xd) (ba : xa.length ≤ 68719476736) (bb : xb.length ≤ 68719476736) (_bc : xc.length ≤ 68719476736) (bd : xd.length ≤ 68719476736)
    (hza : ¬ (trim xa).length = 0) (hzb : ¬ (trim xb).length = 0) (hzc : (trim xc).length = 0) (hzd : ¬ (trim xd).length = 0) :
    Calls Tryz.prog 25 #[.agg #[.bool n1, a, c], .agg #[.bool n2, b, d]] w fun e w' => e = .returned (.bool ((n1 == n2) && decide (val (trim xa) * val (trim xd) = val (trim xb) * 1))) ∧ Below w.heap.size w w' := by
  obtain ⟨ta, sa, ka⟩ := trimmed_ok ha
  obtain ⟨tb, sb, kb⟩ := trimmed_ok hb
  obtain ⟨tc, sc, kc⟩ := trimmed_ok hc
  obtain ⟨td, sd, kd⟩ := trimmed_ok hd
  have la := trim_length xa; have ta' := trimTo_le xa xa.length
  have lb := trim_length xb; have tb' := trimTo_le xb xb.length
  have lc := trim_length xc; have tc' := trimTo_le xc xc.length
  have ld := trim_length xd; have td' := trimTo_le xd xd.length
  have pa : (trim xa).length ≤ 68719476736 := by omega
  have pb : (trim xb).length ≤ 68719476736 := by omega
  have pc : (trim xc).length ≤ 68719476736 := by omega
  have pd : (trim xd).length ≤ 68719476736 := by omega
  clear la lb lc ld ta' tb' tc' td' ba bb _bc bd ha hb hc hd
  generalize trim xa = ya at *
  generalize trim xb = yb at *
  generalize trim xc = yc at *
  generalize trim xd = yd at *
  have ea := sa; have eb := sb; have ec := sc; have ed := sd
  obtain ⟨_, _, qa, pa', rfl, _⟩ := ea
  obtain ⟨_, _, qb, pb', rfl, _⟩ := eb
  obtain ⟨_, _, qc, pc', rfl, _⟩ := ec
  obtain ⟨_, _, qd, pd', rfl, _⟩ := ed
  have h2 := below_two w (Obj.cells #[.bool n1, a, c] 24) (Obj.cells #[.bool n2, b, d] 24)
  go_enter Tryz.func25, Tryz.ntmps25
  go_wp2_with fail
  go_quiet (first
    | (go_at_call_of 46 a; refine Calls.quiet_of_same (ka _ (below_draws h2 _)))
    | (go_at_call_of 46 b; refine Calls.quiet_of_same (kb _ (below_draws h2 _))))
  go_wp2_with fail
  have hW1 := below_draws h2 nq
  have q0 : (((w.alloc (Obj.cells #[Value.bool n1, a, c] 24)).alloc (Obj.cells #[Value.bool n2, b, d] 24)).drewN nq).cell? ⟨w.heap.size, 0, none⟩ = some (.bool n1) := by simp
  have q2 : (((w.alloc (Obj.cells #[Value.bool n1, a, c] 24)).alloc (Obj.cells #[Value.bool n2, b, d] 24)).drewN nq).cell? ⟨w.heap.size, 2, none⟩ = some c := by simp
  have r0 : (((w.alloc (Obj.cells #[Value.bool n1, a, c] 24)).alloc (Obj.cells #[Value.bool n2, b, d] 24)).drewN nq).cell? ⟨w.heap.size + 1, 0, none⟩ = some (.bool n2) := by simp
  have r2 : (((w.alloc (Obj.cells #[Value.bool n1, a, c] 24)).alloc (Obj.cells #[Value.bool n2, b, d] 24)).drewN nq).cell? ⟨w.heap.size + 1, 2, none⟩ = some d := by simp
  have s2 : (((w.alloc (Obj.cells #[Value.bool n1, a, c] 24)).alloc (Obj.cells #[Value.bool n2, b, d] 24)).drewN nq).heap.size = w.heap.size + 2 := by simp
  generalize (((w.alloc (Obj.cells #[Value.bool n1, a, c] 24)).alloc (Obj.cells #[Value.bool n2, b, d] 24)).drewN nq) = W1 at hW1 q0 q2 r0 r2 s2 ⊢
  clear h2 ka kb
  go_quiet (first
    | (go_at_call_of 46 c; refine Calls.quiet_of_same (kc _ (below_draws hW1 _)))
    | (go_at_call_of 46 d; refine Calls.quiet_of_same (kd _ (below_draws hW1 _))))
  clear kc kd q2 r2
  have za : ((ya.length : Int) == 0) = false := by simp; intro h; apply hza; simp [h]
  have zb : ((yb.length : Int) == 0) = false := by simp; intro h; apply hzb; simp [h]
  have zc : ((yc.length : Int) == 0) = true := by simp [hzc]
  have zd : ((yd.length : Int) == 0) = false := by simp; intro h; apply hzd; simp [h]
  have na : ya ≠ [] := fun e => hza (by rw [e]; rfl)
  have nb : yb ≠ [] := fun e => hzb (by rw [e]; rfl)
  have nd : yd ≠ [] := fun e => hzd (by rw [e]; rfl)
  have hV : Below w.heap.size w ((W1.drewN nq).alloc (Obj.cells #[Value.int IntKind.u32 1] 96)) := (below_draws hW1 nq).alloc hW1.size _
  have so : Sl ((W1.drewN nq).alloc (Obj.cells #[Value.int IntKind.u32 1] 96)) (Value.slice (some ⟨w.heap.size + 2, 0, none⟩) 1 1) [1] := by
    have := one_sl (W1.drewN nq)
    rw [show (W1.drewN nq).heap.size = w.heap.size + 2 from s2] at this
    exact this
  have hp1 := product_ok (sa.below hV) (sd.below hV) na nd (by omega)
  generalize hVW : (W1.drewN nq).alloc (Obj.cells #[Value.int IntKind.u32 1] 96) = V at hV hp1 so
  cases hnn : n1 == n2 with
  | false =>
    subst hVW
    go_wp2_with fail
    go_ret
    exact ⟨by rw [hnn]; rfl, hV⟩
  | true =>
    subst hVW
    go_wp2_with (first
      | (go_at_call_of 48 (Value.slice qa ya.length pa'); refine hp1.mono ?_; rintro e w3 ⟨r1, z1, rfl, hs1, hc1, hv1, hb3⟩
         have hV3 := hV.trans (hb3.mono hV.size)
         have hp2 := product_ok (sb.below hV3) (so.below (hb3.mono (Nat.le_refl _))) nb (by simp) (by simp; omega))
      | (go_at_call_of 48 (Value.slice qb yb.length pb'); refine hp2.mono ?_; rintro e w4 ⟨r2', z2, rfl, hs2, hc2, hv2, hb4⟩
         have he := eq32_ok (hs1.below hb4) hs2)
      | (go_at_call 47; refine he.mono ?_; rintro e w5 ⟨rfl, hb5⟩))
    go_ret
    have hV4 := hV3.trans (hb4.mono hV3.size)
    refine ⟨?_, hV4.trans (hb5.mono hV4.size)⟩
    have hiff : z1 = z2 ↔ val ya * val yd = val yb * 1 := by
      have v1 : val [1] = 1 := by decide
      rw [v1] at hv2
      rw [← hv1, ← hv2]
      exact ⟨fun h => by rw [h], fun h => val_inj hs1.1 hs2.1 hc1 hc2 h⟩
    rw [hnn]
    simp [hiff]
set_option maxRecDepth 100000 in
theorem sameRat_o (w : World) (n1 n2 : Bool) (a b c d : Value) (xa xb xc xd : List Int) (ha : Sl w a xa) (hb : Sl w b xb) (hc : Sl w c xc) (hd : Sl w d xd) (ba : xa.length ≤ 68719476736) (bb : xb.length ≤ 68719476736) (_bc : xc.length ≤ 68719476736) (_bd : xd.length ≤ 68719476736)
    (hza : ¬ (trim xa).length = 0) (hzb : ¬ (trim xb).length = 0) (hzc : (trim xc).length = 0) (hzd : (trim xd).length = 0) :
    Calls Tryz.prog 25 #[.agg #[.bool n1, a, c], .agg #[.bool n2, b, d]] w fun e w' => e = .returned (.bool ((n1 == n2) && decide (val (trim xa) * 1 = val (trim xb) * 1))) ∧ Below w.heap.size w w' := by
  obtain ⟨ta, sa, ka⟩ := trimmed_ok ha
  obtain ⟨tb, sb, kb⟩ := trimmed_ok hb
  obtain ⟨tc, sc, kc⟩ := trimmed_ok hc
  obtain ⟨td, sd, kd⟩ := trimmed_ok hd
  have la := trim_length xa; have ta' := trimTo_le xa xa.length
  have lb := trim_length xb; have tb' := trimTo_le xb xb.length
  have lc := trim_length xc; have tc' := trimTo_le xc xc.length
  have ld := trim_length xd; have td' := trimTo_le xd xd.length
  have pa : (trim xa).length ≤ 68719476736 := by omega
  have pb : (trim xb).length ≤ 68719476736 := by omega
  have pc : (trim xc).length ≤ 68719476736 := by omega
  have pd : (trim xd).length ≤ 68719476736 := by omega
  clear la lb lc ld ta' tb' tc' td' ba bb _bc _bd ha hb hc hd
  generalize trim xa = ya at *
  generalize trim xb = yb at *
  generalize trim xc = yc at *
  generalize trim xd = yd at *
  have ea := sa; have eb := sb; have ec := sc; have ed := sd
  obtain ⟨_, _, qa, pa', rfl, _⟩ := ea
  obtain ⟨_, _, qb, pb', rfl, _⟩ := eb
  obtain ⟨_, _, qc, pc', rfl, _⟩ := ec
  obtain ⟨_, _, qd, pd', rfl, _⟩ := ed
  have h2 := below_two w (Obj.cells #[.bool n1, a, c] 24) (Obj.cells #[.bool n2, b, d] 24)
  go_enter Tryz.func25, Tryz.ntmps25
  go_wp2_with fail
  go_quiet (first
    | (go_at_call_of 46 a; refine Calls.quiet_of_same (ka _ (below_draws h2 _)))
    | (go_at_call_of 46 b; refine Calls.quiet_of_same (kb _ (below_draws h2 _))))
  go_wp2_with fail
  have hW1 := below_draws h2 nq
  have q0 : (((w.alloc (Obj.cells #[Value.bool n1, a, c] 24)).alloc (Obj.cells #[Value.bool n2, b, d] 24)).drewN nq).cell? ⟨w.heap.size, 0, none⟩ = some (.bool n1) := by simp
  have q2 : (((w.alloc (Obj.cells #[Value.bool n1, a, c] 24)).alloc (Obj.cells #[Value.bool n2, b, d] 24)).drewN nq).cell? ⟨w.heap.size, 2, none⟩ = some c := by simp
  have r0 : (((w.alloc (Obj.cells #[Value.bool n1, a, c] 24)).alloc (Obj.cells #[Value.bool n2, b, d] 24)).drewN nq).cell? ⟨w.heap.size + 1, 0, none⟩ = some (.bool n2) := by simp
  have r2 : (((w.alloc (Obj.cells #[Value.bool n1, a, c] 24)).alloc (Obj.cells #[Value.bool n2, b, d] 24)).drewN nq).cell? ⟨w.heap.size + 1, 2, none⟩ = some d := by simp
  have s2 : (((w.alloc (Obj.cells #[Value.bool n1, a, c] 24)).alloc (Obj.cells #[Value.bool n2, b, d] 24)).drewN nq).heap.size = w.heap.size + 2 := by simp
  generalize (((w.alloc (Obj.cells #[Value.bool n1, a, c] 24)).alloc (Obj.cells #[Value.bool n2, b, d] 24)).drewN nq) = W1 at hW1 q0 q2 r0 r2 s2 ⊢
  clear h2 ka kb
  go_quiet (first
    | (go_at_call_of 46 c; refine Calls.quiet_of_same (kc _ (below_draws hW1 _)))
    | (go_at_call_of 46 d; refine Calls.quiet_of_same (kd _ (below_draws hW1 _))))
  clear kc kd q2 r2
  have za : ((ya.length : Int) == 0) = false := by simp; intro h; apply hza; simp [h]
  have zb : ((yb.length : Int) == 0) = false := by simp; intro h; apply hzb; simp [h]
  have zc : ((yc.length : Int) == 0) = true := by simp [hzc]
  have zd : ((yd.length : Int) == 0) = true := by simp [hzd]
  have na : ya ≠ [] := fun e => hza (by rw [e]; rfl)
  have nb : yb ≠ [] := fun e => hzb (by rw [e]; rfl)
  have hV : Below w.heap.size w ((W1.drewN nq).alloc (Obj.cells #[Value.int IntKind.u32 1] 96)) := (below_draws hW1 nq).alloc hW1.size _
  have so : Sl ((W1.drewN nq).alloc (Obj.cells #[Value.int IntKind.u32 1] 96)) (Value.slice (some ⟨w.heap.size + 2, 0, none⟩) 1 1) [1] := by
    have := one_sl (W1.drewN nq)
    rw [show (W1.drewN nq).heap.size = w.heap.size + 2 from s2] at this
    exact this
  have hp1 := product_ok (sa.below hV) so na (by simp) (by simp; omega)
  generalize hVW : (W1.drewN nq).alloc (Obj.cells #[Value.int IntKind.u32 1] 96) = V at hV hp1 so
  cases hnn : n1 == n2 with
  | false =>
    subst hVW
    go_wp2_with fail
    go_ret
    exact ⟨by rw [hnn]; rfl, hV⟩
  | true =>
    subst hVW
    go_wp2_with (first
      | (go_at_call_of 48 (Value.slice qa ya.length pa'); refine hp1.mono ?_; rintro e w3 ⟨r1, z1, rfl, hs1, hc1, hv1, hb3⟩
         have hV3 := hV.trans (hb3.mono hV.size)
         have hp2 := product_ok (sb.below hV3) (so.below (hb3.mono (Nat.le_refl _))) nb (by simp) (by simp; omega))
      | (go_at_call_of 48 (Value.slice qb yb.length pb'); refine hp2.mono ?_; rintro e w4 ⟨r2', z2, rfl, hs2, hc2, hv2, hb4⟩
         have he := eq32_ok (hs1.below hb4) hs2)
      | (go_at_call 47; refine he.mono ?_; rintro e w5 ⟨rfl, hb5⟩))
    go_ret
    have hV4 := hV3.trans (hb4.mono hV3.size)
    refine ⟨?_, hV4.trans (hb5.mono hV4.size)⟩
    have hiff : z1 = z2 ↔ val ya * 1 = val yb * 1 := by
      have v1 : val [1] = 1 := by decide
      rw [v1] at hv1 hv2
      rw [← hv1, ← hv2]
      exact ⟨fun h => by rw [h], fun h => val_inj hs1.1 hs2.1 hc1 hc2 h⟩
    rw [hnn]
    simp [hiff]
end Go.Proofs.YtlmifjdbjhcceaaGreatDoor

namespace Go.Proofs.YtlmifjdbjhcceaaGreatDoor
open Go Go.RowKit

theorem trim_zero {xs : List Int} (h : Dig xs) : (trim xs).length = 0 ↔ val xs = 0 := by
  rw [← trim_nil h, List.length_eq_zero_iff]

/-- sameRat: whether two numbers of any words are equal. -/
theorem sameRat_ok {w : World} {n1 n2 : Bool} {a b c d : Value} {xa xb xc xd : List Int} (ha : Sl w a xa) (hb : Sl w b xb) (hc : Sl w c xc) (hd : Sl w d xd) (ba : xa.length ≤ 68719476736) (bb : xb.length ≤ 68719476736) (bc : xc.length ≤ 68719476736) (bd : xd.length ≤ 68719476736) :
    Calls Tryz.prog 25 #[.agg #[.bool n1, a, c], .agg #[.bool n2, b, d]] w fun e w' => e = .returned (.bool (ratEq n1 xa xc n2 xb xd)) ∧ Below w.heap.size w w' := by
  have ea := trim_zero ha.1
  have eb := trim_zero hb.1
  have ec := trim_zero hc.1
  have ed := trim_zero hd.1
  by_cases hz : (trim xa).length = 0 ∨ (trim xb).length = 0
  · refine (sameRat_zero w n1 n2 a b c d xa xb xc xd ha hb hc hd hz).mono fun e w' he => ⟨?_, he.2⟩
    rw [he.1]
    congr 2
    have hz' : val xa = 0 ∨ val xb = 0 := by rw [← ea, ← eb]; exact hz
    rw [ratEq, if_pos hz', decide_eq_decide]
    constructor
    · intro h
      rcases hz with h0 | h0
      · exact ⟨ea.1 h0, eb.1 (by omega)⟩
      · exact ⟨ea.1 (by omega), eb.1 h0⟩
    · intro h; rw [ea.2 h.1, eb.2 h.2]
  · have hz1 : ¬ (trim xa).length = 0 := fun h => hz (.inl h)
    have hz2 : ¬ (trim xb).length = 0 := fun h => hz (.inr h)
    have hz' : ¬ (val xa = 0 ∨ val xb = 0) := by rw [← ea, ← eb]; exact hz
    unfold ratEq
    rw [if_neg hz']
    by_cases h1 : (trim xc).length = 0
    · rw [if_pos (ec.1 h1)]
      by_cases h2 : (trim xd).length = 0
      · rw [if_pos (ed.1 h2)]
        have := sameRat_o w n1 n2 a b c d xa xb xc xd ha hb hc hd ba bb bc bd hz1 hz2 h1 h2
        rwa [val_trim, val_trim] at this
      · rw [if_neg (fun h => h2 (ed.2 h))]
        have := sameRat_d w n1 n2 a b c d xa xb xc xd ha hb hc hd ba bb bc bd hz1 hz2 h1 h2
        rwa [val_trim, val_trim, val_trim] at this
    · rw [if_neg (fun h => h1 (ec.2 h))]
      by_cases h2 : (trim xd).length = 0
      · rw [if_pos (ed.1 h2)]
        have := sameRat_c w n1 n2 a b c d xa xb xc xd ha hb hc hd ba bb bc bd hz1 hz2 h1 h2
        rwa [val_trim, val_trim, val_trim] at this
      · rw [if_neg (fun h => h2 (ed.2 h))]
        have := sameRat_cd w n1 n2 a b c d xa xb xc xd ha hb hc hd ba bb bc bd hz1 hz2 h1 h2
        rwa [val_trim, val_trim, val_trim, val_trim] at this
end Go.Proofs.YtlmifjdbjhcceaaGreatDoor
