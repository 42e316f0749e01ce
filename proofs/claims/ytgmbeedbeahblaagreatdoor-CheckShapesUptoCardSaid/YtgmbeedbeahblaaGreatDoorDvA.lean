/-
  Lists of words and their values.
-/
import Derived.Test.YtgmbeedbeahblaaGreatDoorProg
import Derived.WalkKit
import Derived.ProofKit
import Derived.OpenShut
import Derived.Deep.QuietTactic
import Derived.BigQuiet
import Derived.Deep.RegionWith
namespace Go.Proofs.YtgmbeedbeahblaaGreatDoor
open Go Go.RowKit

def trimTo (xs : List Int) : Nat → Nat
  | 0 => 0
  | n + 1 => if xs.getD n 0 = 0 then trimTo xs n else n + 1

theorem trimTo_le (xs : List Int) : ∀ n, trimTo xs n ≤ n
  | 0 => Nat.le_refl _
  | n + 1 => by unfold trimTo; split; have := trimTo_le xs n; omega; omega

theorem trimmed_walk (b o len cap : Nat) (xs : List Int) (w : World) (hc : ∀ i, i < len → w.cell? ⟨b, o + i, none⟩ = some (.int .u32 (xs.getD i 0))) (hm : len ≤ cap) (hm2 : len ≤ 1099511627776) :
    Calls Tryz.prog 31 #[.slice (some ⟨b, o, none⟩) len cap] w fun e w' => e = .returned (.slice (some ⟨b, o, none⟩) (trimTo xs len) cap) ∧ w' = w := by
  go_enter Tryz.func31, Tryz.ntmps31
  go_wp2
  go_loop [3] (fun i => ∃ k : Nat, k ≤ len ∧ i = .int .i64 k ∧ trimTo xs k = trimTo xs len) (fun i => (intOf i).toNat)
  case atStart => exact ⟨len, Nat.le_refl _, rfl, rfl⟩
  case round =>
    obtain ⟨k, hk, rfl, ht⟩ := hrel
    have hHid : Hid (trimTo xs k = trimTo xs len) := ht
    clear ht
    match k, hk, hHid with
    | 0, hk, hHid =>
      go_wp2
      go_ret
      have h0 : trimTo xs len = 0 := hHid.out.symm
      refine ⟨?_, rfl⟩
      simp [h0]
    | k + 1, hk, hHid =>
      have hck : w.cell? ⟨b, o + k, none⟩ = some (.int .u32 (xs.getD k 0)) := hc k (by omega)
      go_wp2
      · go_round
        case rel =>
          have h0' : (xs[k]?.getD 0 == 0) = true := by assumption
          have h0 : xs[k]?.getD 0 = 0 := by simpa using h0'
          refine ⟨k, by omega, by go_num, ?_⟩
          rw [← hHid.out]
          simp [trimTo, h0]
        case measure => simp [intOf]
      · go_ret
        have h0' : (xs[k]?.getD 0 == 0) = false := by assumption
        have h0 : ¬ xs[k]?.getD 0 = 0 := by simpa using h0'
        refine ⟨?_, rfl⟩
        rw [← hHid.out]
        simp [trimTo, h0]
end Go.Proofs.YtgmbeedbeahblaaGreatDoor

namespace Go.Proofs.YtgmbeedbeahblaaGreatDoor
open Go Go.RowKit

/-! ### Words to the base 2^32 -/
def val : List Int → Int
  | [] => 0
  | d :: r => d + 4294967296 * val r

def Dig (l : List Int) : Prop := ∀ j : Nat, 0 ≤ l.getD j 0 ∧ l.getD j 0 ≤ 4294967295

theorem val_set : ∀ (l : List Int) (j : Nat) (d : Int), j < l.length → val (l.set j d) = val l + (d - l.getD j 0) * 4294967296 ^ j
  | [], j, d, h => by simp at h
  | x :: l, 0, d, h => by simp [val]; omega
  | x :: l, j + 1, d, h => by
    have := val_set l j d (by simpa using h)
    simp only [List.set_cons_succ, val, this, List.getD_cons_succ]
    rw [Int.pow_succ]
    generalize (4294967296 : Int) ^ j = p
    generalize d - l.getD j 0 = q
    rw [Int.mul_add, ← Int.mul_assoc, ← Int.mul_assoc, Int.mul_comm 4294967296 q, Int.mul_assoc q 4294967296 p, Int.mul_comm 4294967296 p, ← Int.mul_assoc q p]
    omega

theorem val_take : ∀ (l : List Int) (k : Nat), k < l.length → val (l.take (k + 1)) = val (l.take k) + l.getD k 0 * 4294967296 ^ k
  | [], k, h => by simp at h
  | x :: l, 0, h => by simp [val]
  | x :: l, k + 1, h => by
    have := val_take l k (by simpa using h)
    simp only [List.take_succ_cons, val, this, List.getD_cons_succ]
    rw [Int.pow_succ]
    generalize (4294967296 : Int) ^ k = p
    generalize l.getD k 0 = q
    rw [Int.mul_add, Int.mul_comm 4294967296 (q * p), Int.mul_assoc q p 4294967296]
    omega

theorem dig_set {l : List Int} (h : Dig l) {j : Nat} {d : Int} (hd : 0 ≤ d ∧ d ≤ 4294967295) : Dig (l.set j d) := by
  intro i
  have := h i
  simp only [List.getD_eq_getElem?_getD, List.getElem?_set] at this ⊢
  split
  · split
    · simpa using hd
    · simp
  · exact this

theorem mul_bound {a b : Int} (ha : 0 ≤ a ∧ a ≤ 4294967295) (hb : 0 ≤ b ∧ b ≤ 4294967295) : 0 ≤ a * b ∧ a * b ≤ 18446744065119617025 := by
  refine ⟨Int.mul_nonneg ha.1 hb.1, ?_⟩
  have h := Int.mul_le_mul ha.2 hb.2 hb.1 (by omega)
  exact Int.le_trans h (by decide)

end Go.Proofs.YtgmbeedbeahblaaGreatDoor

namespace Go.Proofs.YtgmbeedbeahblaaGreatDoor
open Go Go.RowKit

def cells32 (os : List Int) : Array Value := (os.map (Value.int .u32)).toArray
def Blk (w : World) (g : Nat) (os : List Int) : Prop := w.heap[g]? = some (.cells (cells32 os) 103 (0, 0))

theorem Blk.cell {w : World} {g : Nat} {os : List Int} (h : Blk w g os) {j : Nat} (hj : j < os.length) : w.cell? ⟨g, j, none⟩ = some (.int .u32 (os.getD j 0)) := by
  unfold Blk at h
  simp [World.cell?, h, cells32, hj]

theorem Blk.frozen {w : World} {g : Nat} {os : List Int} (h : Blk w g os) (j : Nat) : w.frozen? ⟨g, j, none⟩ = false := by
  unfold Blk at h
  simp [World.frozen?, h]

theorem Blk.set {w : World} {g : Nat} {os : List Int} (h : Blk w g os) (j : Nat) (d : Int) : Blk (w.setCell ⟨g, j, none⟩ (.int .u32 d)) g (os.set j d) := by
  unfold Blk at h ⊢
  have hlt : g < w.heap.size := by
    rcases Nat.lt_or_ge g w.heap.size with hl | hl
    · exact hl
    · simp [Array.getElem?_eq_none hl] at h
  show (w.heap.modify g _)[g]? = _
  rw [Array.getElem?_modify, if_pos rfl, h]
  simp [cells32, List.map_set]

theorem made_blk {w : World} {g n : Nat} (h : w.ownsRow g 103 1 (.slice (some ⟨g, 0, none⟩) n n) n (madeCells #[Value.int .u32 0] n).toList) : Blk w g (List.replicate n 0) := by
  obtain ⟨_, ⟨h1, _⟩ | ⟨g', cap, cur, h1, _, h3, _, _, h6, h7⟩⟩ := h
  · cases h1
  · simp only [Value.slice.injEq, Option.some.injEq, Addr.mk.injEq] at h1
    obtain ⟨⟨rfl, _⟩, _, rfl⟩ := h1
    unfold Blk
    rw [h3]
    have hcur : cur = cells32 (List.replicate n 0) := by
      apply Array.ext'
      have hl : cur.toList.take (n * 1) = cur.toList := by
        apply List.take_of_length_le
        simp [h6]
      rw [← hl, h7]
      apply List.ext_getElem?
      intro i
      simp only [madeCells, cells32]
      by_cases hi : i < n
      · simp [hi, Nat.mod_one]
      · simp [hi]
    rw [hcur]

end Go.Proofs.YtgmbeedbeahblaaGreatDoor

namespace Go.Proofs.YtgmbeedbeahblaaGreatDoor
open Go Go.RowKit

theorem eq_of_agree {xs ys : List Int} (hl : xs.length = ys.length) (h : ∀ j, j < xs.length → xs.getD j 0 = ys.getD j 0) : xs = ys := by
  apply List.ext_getElem hl
  intro i h1 h2
  have := h i h1
  simpa [h1, h2] using this

theorem not_eq_at {xs ys : List Int} {j : Nat} (h : ¬ xs.getD j 0 = ys.getD j 0) : ¬ xs = ys := fun e => h (by rw [e])

end Go.Proofs.YtgmbeedbeahblaaGreatDoor

namespace Go.Proofs.YtgmbeedbeahblaaGreatDoor
open Go Go.RowKit

/-! ### The plain law of words -/
def trim (xs : List Int) : List Int := xs.take (trimTo xs xs.length)

theorem val_append : ∀ (a b : List Int), val (a ++ b) = val a + 4294967296 ^ a.length * val b
  | [], b => by simp [val]
  | x :: a, b => by
    simp only [List.cons_append, val, val_append a b, List.length_cons, Int.pow_succ]
    rw [Int.mul_add, ← Int.mul_assoc, Int.mul_comm 4294967296 (4294967296 ^ a.length)]
    omega

theorem val_take_trim (xs : List Int) : ∀ n, n ≤ xs.length → val (xs.take (trimTo xs n)) = val (xs.take n)
  | 0, _ => rfl
  | n + 1, h => by
    unfold trimTo
    split
    · rename_i h0
      rw [val_take_trim xs n (by omega), val_take xs n (by omega), h0]; simp
    · rfl

theorem val_trim (xs : List Int) : val (trim xs) = val xs := by
  unfold trim
  rw [val_take_trim xs xs.length (Nat.le_refl _), List.take_length]

theorem trimTo_last (xs : List Int) : ∀ n, trimTo xs n = 0 ∨ ∃ m, trimTo xs n = m + 1 ∧ ¬ xs.getD m 0 = 0
  | 0 => .inl rfl
  | n + 1 => by
    unfold trimTo
    split
    · exact trimTo_last xs n
    · rename_i h; exact .inr ⟨n, rfl, h⟩

/-- No most significant word 0. -/
def Canon (xs : List Int) : Prop := ∀ m, xs.length = m + 1 → ¬ xs.getD m 0 = 0

theorem trim_length (xs : List Int) : (trim xs).length = trimTo xs xs.length := by
  have := trimTo_le xs xs.length
  simp [trim]; omega

theorem trim_getD (xs : List Int) (j : Nat) (h : j < (trim xs).length) : (trim xs).getD j 0 = xs.getD j 0 := by
  rw [trim_length] at h
  simp only [trim, List.getD_eq_getElem?_getD, List.getElem?_take, if_pos h]

theorem canon_trim (xs : List Int) : Canon (trim xs) := by
  intro m hm
  rw [trim_getD xs m (by omega)]
  rw [trim_length] at hm
  rcases trimTo_last xs xs.length with h | ⟨k, h1, h2⟩
  · omega
  · have : k = m := by omega
    subst this; exact h2

theorem dig_trim {xs : List Int} (h : Dig xs) : Dig (trim xs) := by
  intro j
  have := h j
  simp only [trim, List.getD_eq_getElem?_getD, List.getElem?_take] at this ⊢
  split
  · exact this
  · simp

theorem dig_tail {x : Int} {xs : List Int} (h : Dig (x :: xs)) : Dig xs := fun j => by simpa using h (j + 1)

theorem val_nonneg : ∀ {xs : List Int}, Dig xs → 0 ≤ val xs
  | [], _ => Int.le_refl _
  | x :: xs, h => by
    have h0 := (h 0).1
    have := val_nonneg (dig_tail h)
    simp only [List.getD_cons_zero] at h0
    simp only [val]; omega

theorem canon_tail {x : Int} {xs : List Int} (h : Canon (x :: xs)) : Canon xs := fun m hm => by
  have := h (m + 1) (by simp [hm])
  simpa using this

theorem val_pos : ∀ {xs : List Int}, Dig xs → Canon xs → xs ≠ [] → 0 < val xs
  | [], _, _, h => absurd rfl h
  | [x], hd, hc, _ => by
    have h1 := hc 0 rfl
    have h0 := (hd 0).1
    simp at h1 h0
    simp [val]; omega
  | x :: y :: xs, hd, hc, _ => by
    have := val_pos (dig_tail hd) (canon_tail hc) (by simp)
    have h0 := (hd 0).1
    simp only [List.getD_cons_zero] at h0
    rw [val]; omega

theorem val_inj : ∀ {xs ys : List Int}, Dig xs → Dig ys → Canon xs → Canon ys → val xs = val ys → xs = ys
  | [], [], _, _, _, _, _ => rfl
  | [], y :: ys, _, hd, _, hc, h => by have := val_pos hd hc (by simp); rw [← h] at this; simp [val] at this
  | x :: xs, [], hd, _, hc, _, h => by have := val_pos hd hc (by simp); rw [h] at this; simp [val] at this
  | x :: xs, y :: ys, hx, hy, cx, cy, h => by
    have h1 := hx 0
    have h2 := hy 0
    simp only [List.getD_cons_zero] at h1 h2
    simp only [val] at h
    have e1 : x = y := by omega
    have e2 : val xs = val ys := by omega
    rw [e1, val_inj (dig_tail hx) (dig_tail hy) (canon_tail cx) (canon_tail cy) e2]

/-- Equality of the words of two products is equality of the products. -/
theorem trim_eq_iff {xs ys : List Int} (hx : Dig xs) (hy : Dig ys) : trim xs = trim ys ↔ val xs = val ys := by
  constructor
  · intro h; rw [← val_trim xs, ← val_trim ys, h]
  · intro h; exact val_inj (dig_trim hx) (dig_trim hy) (canon_trim xs) (canon_trim ys) (by rw [val_trim, val_trim, h])
end Go.Proofs.YtgmbeedbeahblaaGreatDoor

namespace Go.Proofs.YtgmbeedbeahblaaGreatDoor
open Go Go.RowKit

/-- A slice of words. -/
def Sl (w : World) (v : Value) (xs : List Int) : Prop :=
  Dig xs ∧ xs.length ≤ 549755813888 ∧ ∃ q cap, v = .slice q xs.length cap ∧ xs.length ≤ cap ∧ (xs = [] ∨ ∃ b o, q = some ⟨b, o, none⟩ ∧ b < w.heap.size ∧ ∀ i, i < xs.length → w.cell? ⟨b, o + i, none⟩ = some (.int .u32 (xs.getD i 0)))

theorem Sl.below {w w' : World} {v : Value} {xs : List Int} (h : Sl w v xs) (hb : Below w.heap.size w w') : Sl w' v xs := by
  obtain ⟨h1, h2, q, cap, h3, h4, h5⟩ := h
  refine ⟨h1, h2, q, cap, h3, h4, h5.imp id ?_⟩
  rintro ⟨b, o, e, hlt, hc⟩
  exact ⟨b, o, e, Nat.lt_of_lt_of_le hlt hb.size, fun i hi => (hb.cell (by exact hlt)).trans (hc i hi)⟩

set_option maxRecDepth 100000 in
theorem trimmed_none (q : Option Addr) (cap : Nat) (w : World) : Calls Tryz.prog 31 #[.slice q 0 cap] w fun e w' => e = .returned (.slice q 0 cap) ∧ w' = w := by
  go_enter Tryz.func31, Tryz.ntmps31
  go_wp2
  refine wp_loop_once ?_
  go_wp2
  go_ret
  exact ⟨rfl, rfl⟩

theorem trimmed_ok {w : World} {v : Value} {xs : List Int} (h : Sl w v xs) : ∃ u, Sl w u (trim xs) ∧ ∀ w1, Below w.heap.size w w1 → Calls Tryz.prog 31 #[v] w1 fun e w' => e = .returned u ∧ w' = w1 := by
  obtain ⟨h1, h2, q, cap, rfl, h4, h5⟩ := h
  have hl := trimTo_le xs xs.length
  rcases h5 with rfl | ⟨b, o, rfl, hlt, hc⟩
  · exact ⟨.slice q 0 cap, ⟨h1, by simp [trim], q, cap, rfl, by simp [trim], .inl rfl⟩, fun w1 _ => trimmed_none q cap w1⟩
  · refine ⟨.slice (some ⟨b, o, none⟩) (trimTo xs xs.length) cap, ⟨dig_trim h1, by rw [trim_length]; omega, _, cap, by rw [trim_length], by rw [trim_length]; omega, .inr ⟨b, o, rfl, hlt, fun i hi => ?_⟩⟩,
      fun w1 hb => trimmed_walk b o xs.length cap xs w1 (fun i hi => (hb.cell (by exact hlt)).trans (hc i hi)) h4 (by omega)⟩
    rw [trim_getD xs i hi]
    exact hc i (by rw [trim_length] at hi; omega)

end Go.Proofs.YtgmbeedbeahblaaGreatDoor

namespace Go.Proofs.YtgmbeedbeahblaaGreatDoor
open Go Go.RowKit

theorem below_two (w : World) (o o2 : Obj) : Below w.heap.size w ((w.alloc o).alloc o2) := ((Below.refl _ _).alloc (Nat.le_refl _) o).alloc (by show w.heap.size ≤ (w.heap.push o).size; simp) o2

theorem trim_nil {xs : List Int} (h : Dig xs) : trim xs = [] ↔ val xs = 0 := by
  rw [show ([] : List Int) = trim [] from rfl, trim_eq_iff h (fun j => by simp)]
  simp [val]

theorem below_draws {w w1 : World} (h : Below w.heap.size w w1) (n : Nat) : Below w.heap.size w (w1.drewN n) := ⟨h.os, h.tape, h.output, h.size, h.block⟩

/-- The slice []uint32{1}. -/
theorem one_sl (w : World) : Sl (w.alloc (Obj.cells #[Value.int .u32 1] 103)) (.slice (some ⟨w.heap.size, 0, none⟩) 1 1) [1] := by
  refine ⟨fun j => ?_, by decide, _, 1, rfl, by decide, .inr ⟨w.heap.size, 0, rfl, by show w.heap.size < (w.heap.push _).size; simp, fun i hi => ?_⟩⟩
  · match j with
    | 0 => decide
    | j + 1 => simp
  · simp only [List.length_cons, List.length_nil] at hi
    have : i = 0 := by omega
    subst this
    show World.cell? _ _ = _
    simp

def ratEq (n1 : Bool) (a c : List Int) (n2 : Bool) (b d : List Int) : Bool :=
  if val a = 0 ∨ val b = 0 then decide (val a = 0 ∧ val b = 0) else (n1 == n2) && decide (val a * (if val d = 0 then 1 else val d) = val b * (if val c = 0 then 1 else val c))

end Go.Proofs.YtgmbeedbeahblaaGreatDoor
