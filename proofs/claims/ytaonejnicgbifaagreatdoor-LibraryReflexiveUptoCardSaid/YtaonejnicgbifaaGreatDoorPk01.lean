import Derived.Test.YtaonejnicgbifaaGreatDoorProg
import Derived.WalkKit
import Derived.ProofKit
import Derived.OpenShut
import Derived.Deep.QuietTactic
import Derived.BigQuiet
import Derived.Deep.RegionWith
import Derived.Maps.AppendAt
import Derived.Deep.MidRow
import Derived.Deep.WholeRow
namespace Go.Proofs.YtaonejnicgbifaaGreatDoor
open Go Go.RowKit

def trimTo (xs : List Int) : Nat → Nat
  | 0 => 0
  | n + 1 => if xs.getD n 0 = 0 then trimTo xs n else n + 1

theorem trimTo_le (xs : List Int) : ∀ n, trimTo xs n ≤ n
  | 0 => Nat.le_refl _
  | n + 1 => by unfold trimTo; split; have := trimTo_le xs n; omega; omega

end Go.Proofs.YtaonejnicgbifaaGreatDoor
namespace Go.Proofs.YtaonejnicgbifaaGreatDoor
open Go Go.RowKit

/-! ### Words to the base 2^32 -/
def val : List Int → Int
  | [] => 0
  | d :: r => d + 4294967296 * val r

def Dig (l : List Int) : Prop := ∀ j : Nat, 0 ≤ l.getD j 0 ∧ l.getD j 0 ≤ 4294967295

theorem val_set : ∀ (l : List Int) (j : Nat) (d : Int), j < l.length → val (l.set j d) = val l + (d - l.getD j 0) * 4294967296 ^ j
  | [], j, d, h => by simp at h
  | x :: l, 0, d, h => by simp [val]; omega
  | x :: l, j + 1, d, h => by
    have := val_set l j d (by simpa using h)
    simp only [List.set_cons_succ, val, this, List.getD_cons_succ]
    rw [Int.pow_succ]
    generalize (4294967296 : Int) ^ j = p
    generalize d - l.getD j 0 = q
    rw [Int.mul_add, ← Int.mul_assoc, ← Int.mul_assoc, Int.mul_comm 4294967296 q, Int.mul_assoc q 4294967296 p, Int.mul_comm 4294967296 p, ← Int.mul_assoc q p]
    omega

theorem val_take : ∀ (l : List Int) (k : Nat), k < l.length → val (l.take (k + 1)) = val (l.take k) + l.getD k 0 * 4294967296 ^ k
  | [], k, h => by simp at h
  | x :: l, 0, h => by simp [val]
  | x :: l, k + 1, h => by
    have := val_take l k (by simpa using h)
    simp only [List.take_succ_cons, val, this, List.getD_cons_succ]
    rw [Int.pow_succ]
    generalize (4294967296 : Int) ^ k = p
    generalize l.getD k 0 = q
    rw [Int.mul_add, Int.mul_comm 4294967296 (q * p), Int.mul_assoc q p 4294967296]
    omega

theorem dig_set {l : List Int} (h : Dig l) {j : Nat} {d : Int} (hd : 0 ≤ d ∧ d ≤ 4294967295) : Dig (l.set j d) := by
  intro i
  have := h i
  simp only [List.getD_eq_getElem?_getD, List.getElem?_set] at this ⊢
  split
  · split
    · simpa using hd
    · simp
  · exact this

theorem mul_bound {a b : Int} (ha : 0 ≤ a ∧ a ≤ 4294967295) (hb : 0 ≤ b ∧ b ≤ 4294967295) : 0 ≤ a * b ∧ a * b ≤ 18446744065119617025 := by
  refine ⟨Int.mul_nonneg ha.1 hb.1, ?_⟩
  have h := Int.mul_le_mul ha.2 hb.2 hb.1 (by omega)
  exact Int.le_trans h (by decide)

end Go.Proofs.YtaonejnicgbifaaGreatDoor
namespace Go.Proofs.YtaonejnicgbifaaGreatDoor
open Go Go.RowKit

structure In (x : Int) (ys os0 : List Int) (i k n : Nat) (os : List Int) (c : Int) : Prop where
  len : os.length = n
  dig : Dig os
  c0 : 0 ≤ c ∧ c ≤ 4294967295
  eq : val os + c * 4294967296 ^ (i + k) = val os0 + x * val (ys.take k) * 4294967296 ^ i
  rest : ∀ j, i + k ≤ j → os.getD j 0 = os0.getD j 0

theorem sum_bound {x y d c : Int} (hx : 0 ≤ x ∧ x ≤ 4294967295) (hy : 0 ≤ y ∧ y ≤ 4294967295) (hd : 0 ≤ d ∧ d ≤ 4294967295) (hc : 0 ≤ c ∧ c ≤ 4294967295) : 0 ≤ x * y + d + c ∧ x * y + d + c ≤ 18446744073709551615 := by
  have := mul_bound hx hy
  omega

theorem In.step {x : Int} {ys os0 os : List Int} {i k n : Nat} {c : Int} (h : In x ys os0 i k n os c) (hx : 0 ≤ x ∧ x ≤ 4294967295) (hy : Dig ys) (hk : k < ys.length) (hn : i + ys.length ≤ n) :
    In x ys os0 i (k + 1) n (os.set (i + k) ((x * ys.getD k 0 + os.getD (i + k) 0 + c) % 4294967296)) ((x * ys.getD k 0 + os.getD (i + k) 0 + c) / 4294967296) := by
  have hs := sum_bound hx (hy k) (h.dig (i + k)) h.c0
  have hv := val_set os (i + k) ((x * ys.getD k 0 + os.getD (i + k) 0 + c) % 4294967296) (by rw [h.len]; omega)
  have ht := val_take ys k hk
  refine ⟨by simp [h.len], dig_set h.dig ?_, ?_, ?_, fun j hj => ?_⟩
  · generalize x * ys.getD k 0 + os.getD (i + k) 0 + c = s at hs
    omega
  · generalize x * ys.getD k 0 + os.getD (i + k) 0 + c = s at hs
    omega
  · have e := h.eq
    rw [hv, ht]
    have hp : (4294967296 : Int) ^ (i + (k + 1)) = 4294967296 ^ (i + k) * 4294967296 := by rw [← Nat.add_assoc, Int.pow_succ]
    have hq : (4294967296 : Int) ^ (i + k) = 4294967296 ^ k * 4294967296 ^ i := by rw [Int.pow_add, Int.mul_comm]
    have hdm := Int.emod_add_mul_ediv (x * ys.getD k 0 + os.getD (i + k) 0 + c) 4294967296
    rw [hp]
    generalize hS : x * ys.getD k 0 + os.getD (i + k) 0 + c = S at hdm ⊢
    generalize hD : os.getD (i + k) 0 = D at hS ⊢
    have lhs : val os + (S % 4294967296 - D) * 4294967296 ^ (i + k) + S / 4294967296 * (4294967296 ^ (i + k) * 4294967296) = val os + c * 4294967296 ^ (i + k) + x * ys.getD k 0 * 4294967296 ^ (i + k) := by
      have e1 : S / 4294967296 * (4294967296 ^ (i + k) * 4294967296) = (4294967296 * (S / 4294967296)) * 4294967296 ^ (i + k) := by
        rw [Int.mul_comm (4294967296 ^ (i + k)) 4294967296, ← Int.mul_assoc, Int.mul_comm (S / 4294967296) 4294967296]
      rw [e1, Int.add_assoc, ← Int.add_mul, Int.add_assoc (val os), ← Int.add_mul]
      congr 2
      omega
    rw [lhs, e, hq, Int.mul_add, Int.add_mul, ← Int.mul_assoc, ← Int.mul_assoc, Int.add_assoc]
  · have := h.rest j (by omega)
    rw [← this]
    simp only [List.getD_eq_getElem?_getD, List.getElem?_set]
    rw [if_neg (by omega)]

structure Out (xs ys : List Int) (n i : Nat) (os : List Int) : Prop where
  len : os.length = n
  dig : Dig os
  eq : val os = val (xs.take i) * val ys
  rest : ∀ j, i + ys.length ≤ j → os.getD j 0 = 0

theorem Out.start {xs ys os : List Int} {n i : Nat} (h : Out xs ys n i os) : In (xs.getD i 0) ys os i 0 n os 0 :=
  ⟨h.len, h.dig, by decide, by simp [val], fun _ _ => rfl⟩

theorem Out.row {xs ys os0 os : List Int} {n i : Nat} {c : Int} (h0 : Out xs ys n i os0) (hi : i < xs.length) (hn : xs.length + ys.length = n) (h : In (xs.getD i 0) ys os0 i ys.length n os c) :
    Out xs ys n (i + 1) (os.set (i + ys.length) c) := by
  have hz : os.getD (i + ys.length) 0 = 0 := by rw [h.rest _ (Nat.le_refl _)]; exact h0.rest _ (Nat.le_refl _)
  have hv := val_set os (i + ys.length) c (by rw [h.len]; omega)
  refine ⟨by simp [h.len], dig_set h.dig h.c0, ?_, fun j hj => ?_⟩
  · rw [hv, hz, Int.sub_zero, h.eq, h0.eq, val_take xs i hi, List.take_length, Int.add_mul]
    rw [Int.mul_assoc (xs.getD i 0), Int.mul_comm (val ys), ← Int.mul_assoc]
  · have := h.rest j (by omega)
    have h1 := h0.rest j (by omega)
    simp only [List.getD_eq_getElem?_getD, List.getElem?_set] at this h1 ⊢
    rw [if_neg (by omega), this, h1]

theorem Out.zero (xs ys : List Int) (n : Nat) : Out xs ys n 0 (List.replicate n 0) := by
  have hg : ∀ j, (List.replicate n (0 : Int)).getD j 0 = 0 := by
    intro j
    simp only [List.getD_eq_getElem?_getD, List.getElem?_replicate]
    split <;> rfl
  have hv : ∀ n : Nat, val (List.replicate n 0) = 0 := by
    intro n
    induction n with
    | zero => rfl
    | succ n ih => simp [List.replicate_succ, val, ih]
  exact ⟨by simp, fun j => by rw [hg j]; decide, by simp [hv, val], fun j _ => hg j⟩
end Go.Proofs.YtaonejnicgbifaaGreatDoor
namespace Go.Proofs.YtaonejnicgbifaaGreatDoor
open Go Go.RowKit

def cells32 (os : List Int) : Array Value := (os.map (Value.int .u32)).toArray
def Blk (w : World) (g : Nat) (os : List Int) : Prop := w.heap[g]? = some (.cells (cells32 os) 150 (0, 0))

theorem Blk.cell {w : World} {g : Nat} {os : List Int} (h : Blk w g os) {j : Nat} (hj : j < os.length) : w.cell? ⟨g, j, none⟩ = some (.int .u32 (os.getD j 0)) := by
  unfold Blk at h
  simp [World.cell?, h, cells32, hj]

theorem Blk.frozen {w : World} {g : Nat} {os : List Int} (h : Blk w g os) (j : Nat) : w.frozen? ⟨g, j, none⟩ = false := by
  unfold Blk at h
  simp [World.frozen?, h]

theorem Blk.set {w : World} {g : Nat} {os : List Int} (h : Blk w g os) (j : Nat) (d : Int) : Blk (w.setCell ⟨g, j, none⟩ (.int .u32 d)) g (os.set j d) := by
  unfold Blk at h ⊢
  have hlt : g < w.heap.size := by
    rcases Nat.lt_or_ge g w.heap.size with hl | hl
    · exact hl
    · simp [Array.getElem?_eq_none hl] at h
  show (w.heap.modify g _)[g]? = _
  rw [Array.getElem?_modify, if_pos rfl, h]
  simp [cells32, List.map_set]

theorem made_blk {w : World} {g n : Nat} (h : w.ownsRow g 150 1 (.slice (some ⟨g, 0, none⟩) n n) n (madeCells #[Value.int .u32 0] n).toList) : Blk w g (List.replicate n 0) := by
  obtain ⟨_, ⟨h1, _⟩ | ⟨g', cap, cur, h1, _, h3, _, _, h6, h7⟩⟩ := h
  · cases h1
  · simp only [Value.slice.injEq, Option.some.injEq, Addr.mk.injEq] at h1
    obtain ⟨⟨rfl, _⟩, _, rfl⟩ := h1
    unfold Blk
    rw [h3]
    have hcur : cur = cells32 (List.replicate n 0) := by
      apply Array.ext'
      have hl : cur.toList.take (n * 1) = cur.toList := by
        apply List.take_of_length_le
        simp [h6]
      rw [← hl, h7]
      apply List.ext_getElem?
      intro i
      simp only [madeCells, cells32]
      by_cases hi : i < n
      · simp [hi, Nat.mod_one]
      · simp [hi]
    rw [hcur]

end Go.Proofs.YtaonejnicgbifaaGreatDoor
namespace Go.Proofs.YtaonejnicgbifaaGreatDoor
open Go Go.RowKit

theorem eq_of_agree {xs ys : List Int} (hl : xs.length = ys.length) (h : ∀ j, j < xs.length → xs.getD j 0 = ys.getD j 0) : xs = ys := by
  apply List.ext_getElem hl
  intro i h1 h2
  have := h i h1
  simpa [h1, h2] using this

theorem not_eq_at {xs ys : List Int} {j : Nat} (h : ¬ xs.getD j 0 = ys.getD j 0) : ¬ xs = ys := fun e => h (by rw [e])

end Go.Proofs.YtaonejnicgbifaaGreatDoor
namespace Go.Proofs.YtaonejnicgbifaaGreatDoor
open Go Go.RowKit

/-! ### The plain law of words -/
def trim (xs : List Int) : List Int := xs.take (trimTo xs xs.length)

theorem val_append : ∀ (a b : List Int), val (a ++ b) = val a + 4294967296 ^ a.length * val b
  | [], b => by simp [val]
  | x :: a, b => by
    simp only [List.cons_append, val, val_append a b, List.length_cons, Int.pow_succ]
    rw [Int.mul_add, ← Int.mul_assoc, Int.mul_comm 4294967296 (4294967296 ^ a.length)]
    omega

theorem val_take_trim (xs : List Int) : ∀ n, n ≤ xs.length → val (xs.take (trimTo xs n)) = val (xs.take n)
  | 0, _ => rfl
  | n + 1, h => by
    unfold trimTo
    split
    · rename_i h0
      rw [val_take_trim xs n (by omega), val_take xs n (by omega), h0]; simp
    · rfl

theorem val_trim (xs : List Int) : val (trim xs) = val xs := by
  unfold trim
  rw [val_take_trim xs xs.length (Nat.le_refl _), List.take_length]

theorem trimTo_last (xs : List Int) : ∀ n, trimTo xs n = 0 ∨ ∃ m, trimTo xs n = m + 1 ∧ ¬ xs.getD m 0 = 0
  | 0 => .inl rfl
  | n + 1 => by
    unfold trimTo
    split
    · exact trimTo_last xs n
    · rename_i h; exact .inr ⟨n, rfl, h⟩

/-- No most significant word 0. -/
def Canon (xs : List Int) : Prop := ∀ m, xs.length = m + 1 → ¬ xs.getD m 0 = 0

theorem trim_length (xs : List Int) : (trim xs).length = trimTo xs xs.length := by
  have := trimTo_le xs xs.length
  simp [trim]; omega

theorem trim_getD (xs : List Int) (j : Nat) (h : j < (trim xs).length) : (trim xs).getD j 0 = xs.getD j 0 := by
  rw [trim_length] at h
  simp only [trim, List.getD_eq_getElem?_getD, List.getElem?_take, if_pos h]

theorem canon_trim (xs : List Int) : Canon (trim xs) := by
  intro m hm
  rw [trim_getD xs m (by omega)]
  rw [trim_length] at hm
  rcases trimTo_last xs xs.length with h | ⟨k, h1, h2⟩
  · omega
  · have : k = m := by omega
    subst this; exact h2

theorem dig_trim {xs : List Int} (h : Dig xs) : Dig (trim xs) := by
  intro j
  have := h j
  simp only [trim, List.getD_eq_getElem?_getD, List.getElem?_take] at this ⊢
  split
  · exact this
  · simp

theorem dig_tail {x : Int} {xs : List Int} (h : Dig (x :: xs)) : Dig xs := fun j => by simpa using h (j + 1)

theorem val_nonneg : ∀ {xs : List Int}, Dig xs → 0 ≤ val xs
  | [], _ => Int.le_refl _
  | x :: xs, h => by
    have h0 := (h 0).1
    have := val_nonneg (dig_tail h)
    simp only [List.getD_cons_zero] at h0
    simp only [val]; omega

theorem canon_tail {x : Int} {xs : List Int} (h : Canon (x :: xs)) : Canon xs := fun m hm => by
  have := h (m + 1) (by simp [hm])
  simpa using this

theorem val_pos : ∀ {xs : List Int}, Dig xs → Canon xs → xs ≠ [] → 0 < val xs
  | [], _, _, h => absurd rfl h
  | [x], hd, hc, _ => by
    have h1 := hc 0 rfl
    have h0 := (hd 0).1
    simp at h1 h0
    simp [val]; omega
  | x :: y :: xs, hd, hc, _ => by
    have := val_pos (dig_tail hd) (canon_tail hc) (by simp)
    have h0 := (hd 0).1
    simp only [List.getD_cons_zero] at h0
    rw [val]; omega

theorem val_inj : ∀ {xs ys : List Int}, Dig xs → Dig ys → Canon xs → Canon ys → val xs = val ys → xs = ys
  | [], [], _, _, _, _, _ => rfl
  | [], y :: ys, _, hd, _, hc, h => by have := val_pos hd hc (by simp); rw [← h] at this; simp [val] at this
  | x :: xs, [], hd, _, hc, _, h => by have := val_pos hd hc (by simp); rw [h] at this; simp [val] at this
  | x :: xs, y :: ys, hx, hy, cx, cy, h => by
    have h1 := hx 0
    have h2 := hy 0
    simp only [List.getD_cons_zero] at h1 h2
    simp only [val] at h
    have e1 : x = y := by omega
    have e2 : val xs = val ys := by omega
    rw [e1, val_inj (dig_tail hx) (dig_tail hy) (canon_tail cx) (canon_tail cy) e2]

end Go.Proofs.YtaonejnicgbifaaGreatDoor
namespace Go.Proofs.YtaonejnicgbifaaGreatDoor
open Go Go.RowKit

/-- A slice of words. -/
def Sl (w : World) (v : Value) (xs : List Int) : Prop :=
  Dig xs ∧ xs.length ≤ 549755813888 ∧ ∃ q cap, v = .slice q xs.length cap ∧ xs.length ≤ cap ∧ (xs = [] ∨ ∃ b o, q = some ⟨b, o, none⟩ ∧ b < w.heap.size ∧ ∀ i, i < xs.length → w.cell? ⟨b, o + i, none⟩ = some (.int .u32 (xs.getD i 0)))

theorem Sl.below {w w' : World} {v : Value} {xs : List Int} (h : Sl w v xs) (hb : Below w.heap.size w w') : Sl w' v xs := by
  obtain ⟨h1, h2, q, cap, h3, h4, h5⟩ := h
  refine ⟨h1, h2, q, cap, h3, h4, h5.imp id ?_⟩
  rintro ⟨b, o, e, hlt, hc⟩
  exact ⟨b, o, e, Nat.lt_of_lt_of_le hlt hb.size, fun i hi => (hb.cell (by exact hlt)).trans (hc i hi)⟩

end Go.Proofs.YtaonejnicgbifaaGreatDoor
namespace Go.Proofs.YtaonejnicgbifaaGreatDoor
open Go Go.RowKit

theorem below_two (w : World) (o o2 : Obj) : Below w.heap.size w ((w.alloc o).alloc o2) := ((Below.refl _ _).alloc (Nat.le_refl _) o).alloc (by show w.heap.size ≤ (w.heap.push o).size; simp) o2

theorem below_draws {w w1 : World} (h : Below w.heap.size w w1) (n : Nat) : Below w.heap.size w (w1.drewN n) := ⟨h.os, h.tape, h.output, h.size, h.block⟩

def ratEq (n1 : Bool) (a c : List Int) (n2 : Bool) (b d : List Int) : Bool :=
  if val a = 0 ∨ val b = 0 then decide (val a = 0 ∧ val b = 0) else (n1 == n2) && decide (val a * (if val d = 0 then 1 else val d) = val b * (if val c = 0 then 1 else val c))

end Go.Proofs.YtaonejnicgbifaaGreatDoor
namespace Go.Proofs.YtaonejnicgbifaaGreatDoor
open Go Go.RowKit

/-! ### Words to the base 2^32 -/
def val16 : List Int → Int
  | [] => 0
  | d :: r => d + 65536 * val16 r

def Dig16 (l : List Int) : Prop := ∀ j : Nat, 0 ≤ l.getD j 0 ∧ l.getD j 0 ≤ 65535

theorem val_append16 : ∀ (a b : List Int), val16 (a ++ b) = val16 a + 65536 ^ a.length * val16 b
  | [], b => by simp [val16]
  | x :: a, b => by
    simp only [List.cons_append, val16, val_append16 a b, List.length_cons, Int.pow_succ]
    rw [Int.mul_add, ← Int.mul_assoc, Int.mul_comm 65536 (65536 ^ a.length)]
    omega

theorem dig_tail16 {x : Int} {xs : List Int} (h : Dig16 (x :: xs)) : Dig16 xs := fun j => by simpa using h (j + 1)

theorem val_nonneg16 : ∀ {xs : List Int}, Dig16 xs → 0 ≤ val16 xs
  | [], _ => Int.le_refl _
  | x :: xs, h => by
    have h0 := (h 0).1
    have := val_nonneg16 (dig_tail16 h)
    simp only [List.getD_cons_zero] at h0
    simp only [val16]; omega

end Go.Proofs.YtaonejnicgbifaaGreatDoor
namespace Go.Proofs.YtaonejnicgbifaaGreatDoor
open Go Go.RowKit

def Sl16 (w : World) (v : Value) (xs : List Int) : Prop :=
  Dig16 xs ∧ xs.length ≤ 549755813888 ∧ ∃ q cap, v = .slice q xs.length cap ∧ xs.length ≤ cap ∧ (xs = [] ∨ ∃ b o, q = some ⟨b, o, none⟩ ∧ b < w.heap.size ∧ ∀ i, i < xs.length → w.cell? ⟨b, o + i, none⟩ = some (.int .u32 (xs.getD i 0)))

theorem Sl16.below {w w' : World} {v : Value} {xs : List Int} (h : Sl16 w v xs) (hb : Below w.heap.size w w') : Sl16 w' v xs := by
  obtain ⟨h1, h2, q, cap, h3, h4, h5⟩ := h
  refine ⟨h1, h2, q, cap, h3, h4, h5.imp id ?_⟩
  rintro ⟨b, o, e, hlt, hc⟩
  exact ⟨b, o, e, Nat.lt_of_lt_of_le hlt hb.size, fun i hi => (hb.cell (by exact hlt)).trans (hc i hi)⟩

end Go.Proofs.YtaonejnicgbifaaGreatDoor
namespace Go.Proofs.YtaonejnicgbifaaGreatDoor
open Go Go.RowKit

/-- An expression's seven cells. -/
structure Nd where
  k : Int
  f : Int
  neg : Bool
  aq : Option Addr
  an : Nat
  ac : Nat
  cq : Option Addr
  cn : Nat
  cc : Nat
  m : ByteArray
  sq : Option Addr
  sn : Nat
  sc : Nat

def Nd.val (d : Nd) : Value := .agg #[.int .i64 d.k, .int .i64 d.f, .bool d.neg, .slice d.aq d.an d.ac, .slice d.cq d.cn d.cc, .string d.m, .slice d.sq d.sn d.sc]

structure NdAt (w : World) (b o : Nat) (d : Nd) : Prop where
  h0 : w.cell? ⟨b, o, none⟩ = some (.int .i64 d.k)
  h1 : w.cell? ⟨b, o + 1, none⟩ = some (.int .i64 d.f)
  h2 : w.cell? ⟨b, o + 2, none⟩ = some (.bool d.neg)
  h3 : w.cell? ⟨b, o + 3, none⟩ = some (.slice d.aq d.an d.ac)
  h4 : w.cell? ⟨b, o + 4, none⟩ = some (.slice d.cq d.cn d.cc)
  h5 : w.cell? ⟨b, o + 5, none⟩ = some (.string d.m)
  h6 : w.cell? ⟨b, o + 6, none⟩ = some (.slice d.sq d.sn d.sc)

theorem NdAt.below {w w' : World} {B b o : Nat} {d : Nd} (h : NdAt w b o d) (hb : Below B w w') (hB : b < B) : NdAt w' b o d :=
  ⟨(hb.cell (by exact hB)).trans h.h0, (hb.cell (by exact hB)).trans h.h1, (hb.cell (by exact hB)).trans h.h2, (hb.cell (by exact hB)).trans h.h3, (hb.cell (by exact hB)).trans h.h4, (hb.cell (by exact hB)).trans h.h5, (hb.cell (by exact hB)).trans h.h6⟩

end Go.Proofs.YtaonejnicgbifaaGreatDoor
namespace Go.Proofs.YtaonejnicgbifaaGreatDoor
open Go Go.RowKit

set_option maxRecDepth 100000 in
theorem eqExpr_none (q q' : Option Addr) (cap cap' : Nat) (fv : Value) (w : World) : Calls Tryz.prog 117 #[.slice q 0 cap, .slice q' 0 cap', fv] w fun e w' => e = .returned (.bool true) ∧ w' = w := by
  go_enter Tryz.func117, Tryz.ntmps117
  go_wp2
  refine wp_loop_once ?_
  go_wp2
  go_ret
  exact ⟨rfl, rfl⟩

/-- An expression as data ('non': none): code, field, the number's sign and words, the name, the arguments. -/
inductive Ex where
  | non
  | mk (k f : Int) (ng : Bool) (nu de : List Int) (m : ByteArray) (n : Nat) (ar : Nat → Ex)

/-- Whether two expressions are equal, their numbers by value. -/
def Ex.eq : Ex → Ex → Bool
  | .mk k f ng nu de m n ar, .mk k' f' ng' nu' de' m' n' ar' =>
    decide (k = k') && decide (f = f') && decide (m.toList = m'.toList) && ratEq ng nu de ng' nu' de' && (decide (n = n') && (List.range n).all fun i => (ar i).eq (ar' i))
  | .non, .non => true
  | _, _ => false

/-- The expression x lies in memory behind the seven cells d. -/
def ExOk (w : World) : Ex → Nd → Prop
  | .non, _ => False
  | .mk k f ng nu de m n ar, d => (d.k = k ∧ d.f = f ∧ d.neg = ng ∧ d.m = m ∧ d.sn = n) ∧ Sl w (.slice d.aq d.an d.ac) nu ∧ Sl w (.slice d.cq d.cn d.cc) de ∧ nu.length ≤ 1048576 ∧ de.length ≤ 1048576 ∧ n ≤ 1099511627776 ∧
    (n = 0 ∨ ∃ b o, d.sq = some ⟨b, o, none⟩ ∧ b < w.heap.size ∧ ∃ ds : Nat → Nd, ∀ i, i < n → NdAt w b (o + i * 7) (ds i) ∧ ExOk w (ar i) (ds i))

theorem ExOk.below {w w' : World} (hb : Below w.heap.size w w') : ∀ {x : Ex} {d : Nd}, ExOk w x d → ExOk w' x d := by
  intro x
  induction x with
  | non => exact fun h => h.elim
  | mk k f ng nu de m n ar ih =>
    intro d h
    unfold ExOk at h ⊢
    obtain ⟨h1, h2, h3, h4, h5, h6, h7⟩ := h
    refine ⟨h1, h2.below hb, h3.below hb, h4, h5, h6, h7.imp id ?_⟩
    rintro ⟨b, o, e, hlt, ds, hds⟩
    exact ⟨b, o, e, Nat.lt_of_lt_of_le hlt hb.size, ds, fun i hi => ⟨(hds i hi).1.below hb hlt, ih i (hds i hi).2⟩⟩

end Go.Proofs.YtaonejnicgbifaaGreatDoor
namespace Go.Proofs.YtaonejnicgbifaaGreatDoor
open Go Go.RowKit

/-- The 4 cells of one element. -/
structure Va where
  m : ByteArray
  g : Bool
  aq : Option Addr
  an : Nat
  ac : Nat
  cq : Option Addr
  cn : Nat
  cc : Nat

def Va.val (d : Va) : Value := .agg #[.string d.m, .bool d.g, .slice d.aq d.an d.ac, .slice d.cq d.cn d.cc]

structure VaAt (w : World) (b o : Nat) (d : Va) : Prop where
  h0 : w.cell? ⟨b, o, none⟩ = some (.string d.m)
  h1 : w.cell? ⟨b, o + 1, none⟩ = some (.bool d.g)
  h2 : w.cell? ⟨b, o + 2, none⟩ = some (.slice d.aq d.an d.ac)
  h3 : w.cell? ⟨b, o + 3, none⟩ = some (.slice d.cq d.cn d.cc)

theorem VaAt.below {w w' : World} {B b o : Nat} {d : Va} (h : VaAt w b o d) (hb : Below B w w') (hB : b < B) : VaAt w' b o d :=
  ⟨(hb.cell (by exact hB)).trans h.h0, (hb.cell (by exact hB)).trans h.h1, (hb.cell (by exact hB)).trans h.h2, (hb.cell (by exact hB)).trans h.h3⟩

end Go.Proofs.YtaonejnicgbifaaGreatDoor
namespace Go.Proofs.YtaonejnicgbifaaGreatDoor
open Go Go.RowKit

/-- The 8 cells of one element. -/
structure Bi where
  m : ByteArray
  ek : Int
  ef : Int
  eg : Bool
  eaq : Option Addr
  ean : Nat
  eac : Nat
  ecq : Option Addr
  ecn : Nat
  ecc : Nat
  em : ByteArray
  esq : Option Addr
  esn : Nat
  esc : Nat

def Bi.val (d : Bi) : Value := .agg #[.string d.m, .int .i64 d.ek, .int .i64 d.ef, .bool d.eg, .slice d.eaq d.ean d.eac, .slice d.ecq d.ecn d.ecc, .string d.em, .slice d.esq d.esn d.esc]

structure BiAt (w : World) (b o : Nat) (d : Bi) : Prop where
  h0 : w.cell? ⟨b, o, none⟩ = some (.string d.m)
  h1 : w.cell? ⟨b, o + 1, none⟩ = some (.int .i64 d.ek)
  h2 : w.cell? ⟨b, o + 2, none⟩ = some (.int .i64 d.ef)
  h3 : w.cell? ⟨b, o + 3, none⟩ = some (.bool d.eg)
  h4 : w.cell? ⟨b, o + 4, none⟩ = some (.slice d.eaq d.ean d.eac)
  h5 : w.cell? ⟨b, o + 5, none⟩ = some (.slice d.ecq d.ecn d.ecc)
  h6 : w.cell? ⟨b, o + 6, none⟩ = some (.string d.em)
  h7 : w.cell? ⟨b, o + 7, none⟩ = some (.slice d.esq d.esn d.esc)

theorem BiAt.below {w w' : World} {B b o : Nat} {d : Bi} (h : BiAt w b o d) (hb : Below B w w') (hB : b < B) : BiAt w' b o d :=
  ⟨(hb.cell (by exact hB)).trans h.h0, (hb.cell (by exact hB)).trans h.h1, (hb.cell (by exact hB)).trans h.h2, (hb.cell (by exact hB)).trans h.h3, (hb.cell (by exact hB)).trans h.h4, (hb.cell (by exact hB)).trans h.h5, (hb.cell (by exact hB)).trans h.h6, (hb.cell (by exact hB)).trans h.h7⟩

end Go.Proofs.YtaonejnicgbifaaGreatDoor
namespace Go.Proofs.YtaonejnicgbifaaGreatDoor
open Go Go.RowKit

/-- A point's value as data. -/
structure Pt where
  m : ByteArray
  g : Bool
  nu : List Int
  de : List Int
def Pt.eq (p p' : Pt) : Bool := decide (p.m.toList = p'.m.toList) && ratEq p.g p.nu p.de p'.g p'.nu p'.de
def PtOk (w : World) (p : Pt) (d : Va) : Prop :=
  d.m = p.m ∧ d.g = p.g ∧ Sl w (.slice d.aq d.an d.ac) p.nu ∧ Sl w (.slice d.cq d.cn d.cc) p.de ∧ p.nu.length ≤ 1048576 ∧ p.de.length ≤ 1048576
theorem PtOk.below {w w' : World} (hb : Below w.heap.size w w') {p : Pt} {d : Va} (h : PtOk w p d) : PtOk w' p d :=
  ⟨h.1, h.2.1, h.2.2.1.below hb, h.2.2.2.1.below hb, h.2.2.2.2⟩
/-- A bind as data. -/
structure Bd where
  m : ByteArray
  x : Ex
def Bd.eq (p p' : Bd) : Bool := decide (p.m.toList = p'.m.toList) && p.x.eq p'.x
/-- The expression's seven cells of a bind. -/
def Bi.nd (d : Bi) : Nd := ⟨d.ek, d.ef, d.eg, d.eaq, d.ean, d.eac, d.ecq, d.ecn, d.ecc, d.em, d.esq, d.esn, d.esc⟩
def BdOk (w : World) (p : Bd) (d : Bi) : Prop := d.m = p.m ∧ ExOk w p.x d.nd
theorem BdOk.below {w w' : World} (hb : Below w.heap.size w w') {p : Bd} {d : Bi} (h : BdOk w p d) : BdOk w' p d := ⟨h.1, h.2.below hb⟩
/-- A list of them in memory. -/
def PtsOk (w : World) (q : Option Addr) (n : Nat) (ps : Nat → Pt) : Prop :=
  n ≤ 1099511627776 ∧ (n = 0 ∨ ∃ b o, q = some ⟨b, o, none⟩ ∧ b < w.heap.size ∧ ∃ ds : Nat → Va, ∀ i, i < n → VaAt w b (o + i * 4) (ds i) ∧ PtOk w (ps i) (ds i))
theorem PtsOk.below {w w' : World} (hb : Below w.heap.size w w') {q : Option Addr} {n : Nat} {ps : Nat → Pt} (h : PtsOk w q n ps) : PtsOk w' q n ps := by
  refine ⟨h.1, h.2.imp id ?_⟩
  rintro ⟨b, o, e, hlt, ds, hds⟩
  exact ⟨b, o, e, Nat.lt_of_lt_of_le hlt hb.size, ds, fun i hi => ⟨(hds i hi).1.below hb hlt, (hds i hi).2.below hb⟩⟩
def PtsEq (n : Nat) (ps : Nat → Pt) (n' : Nat) (ps' : Nat → Pt) : Bool := decide (n = n') && (List.range n).all fun i => (ps i).eq (ps' i)
/-- A list of them in memory. -/
def BdsOk (w : World) (q : Option Addr) (n : Nat) (ps : Nat → Bd) : Prop :=
  n ≤ 1099511627776 ∧ (n = 0 ∨ ∃ b o, q = some ⟨b, o, none⟩ ∧ b < w.heap.size ∧ ∃ ds : Nat → Bi, ∀ i, i < n → BiAt w b (o + i * 8) (ds i) ∧ BdOk w (ps i) (ds i))
theorem BdsOk.below {w w' : World} (hb : Below w.heap.size w w') {q : Option Addr} {n : Nat} {ps : Nat → Bd} (h : BdsOk w q n ps) : BdsOk w' q n ps := by
  refine ⟨h.1, h.2.imp id ?_⟩
  rintro ⟨b, o, e, hlt, ds, hds⟩
  exact ⟨b, o, e, Nat.lt_of_lt_of_le hlt hb.size, ds, fun i hi => ⟨(hds i hi).1.below hb hlt, (hds i hi).2.below hb⟩⟩
def BdsEq (n : Nat) (ps : Nat → Bd) (n' : Nat) (ps' : Nat → Bd) : Bool := decide (n = n') && (List.range n).all fun i => (ps i).eq (ps' i)
end Go.Proofs.YtaonejnicgbifaaGreatDoor
namespace Go.Proofs.YtaonejnicgbifaaGreatDoor
open Go Go.RowKit

theorem rangeAt_below {w w' : World} {B b o : Nat} {cs : List Value} (h : w.rangeAt b o cs) (hb : Below B w w') (hB : b < B) : w'.rangeAt b o cs :=
  fun j v hv => (hb.cell (by exact hB)).trans (h j v hv)

theorem range_new (w : World) (cs : List Value) (t : TypeId) : (w.alloc (.cells cs.toArray t)).rangeAt w.heap.size 0 cs := by
  have h := World.rangeAt_of_block (heap_alloc_last w (.cells cs.toArray t)) 0 cs.length
  simpa using h

end Go.Proofs.YtaonejnicgbifaaGreatDoor
namespace Go.Proofs.YtaonejnicgbifaaGreatDoor
open Go Go.RowKit

/-- A step's plain fields. -/
structure Sc where
  ru : Int
  nm : ByteArray
  ot : ByteArray
  g : Bool
  kk : Int
  nn : Int
  pr : Int
  en : ByteArray
  ve : Int

/-- A step's 21 cells. -/
structure Sd where
  s : Sc
  aq : Option Addr
  an : Nat
  ac : Nat
  cq : Option Addr
  cn : Nat
  cc : Nat
  e : Nd
  poq : Option Addr
  pon : Nat
  poc : Nat
  arq : Option Addr
  arn : Nat
  arc : Nat
  kiq : Option Addr
  kin : Nat
  kic : Nat

def Sd.cells (d : Sd) : List Value := [.int .i64 d.s.ru, .string d.s.nm, .string d.s.ot, .bool d.s.g, .slice d.aq d.an d.ac, .slice d.cq d.cn d.cc, .int .i64 d.s.kk, .int .i64 d.s.nn, .int .i64 d.s.pr,
  .int .i64 d.e.k, .int .i64 d.e.f, .bool d.e.neg, .slice d.e.aq d.e.an d.e.ac, .slice d.e.cq d.e.cn d.e.cc, .string d.e.m, .slice d.e.sq d.e.sn d.e.sc,
  .slice d.poq d.pon d.poc, .string d.s.en, .int .i64 d.s.ve, .slice d.arq d.arn d.arc, .slice d.kiq d.kin d.kic]
def Sd.val (d : Sd) : Value := .agg d.cells.toArray
theorem Sd.len (d : Sd) : d.cells.length = 21 := rfl
theorem Sd.one (d : Sd) : d.cells.toArray.all (·.oneCell') = true := by
  refine all_oneCell_toArray ?_
  intro v hv
  simp only [Sd.cells, List.mem_cons, List.not_mem_nil, or_false] at hv
  rcases hv with rfl | rfl | rfl | rfl | rfl | rfl | rfl | rfl | rfl | rfl | rfl | rfl | rfl | rfl | rfl | rfl | rfl | rfl | rfl | rfl | rfl <;> rfl

/-- A step as data ('non': none). -/
inductive St where
  | non
  | mk (s : Sc) (nu de : List Int) (x : Ex) (pn : Nat) (ps : Nat → Pt) (bn : Nat) (bs : Nat → Bd) (n : Nat) (ki : Nat → St)

/-- Whether the plain fields are equal. -/
def Sc.eq (s t : Sc) : Bool := (decide (s.ru = t.ru) && decide (s.nm.toList = t.nm.toList) && decide (s.ot.toList = t.ot.toList) && decide (s.en.toList = t.en.toList) && decide (s.ve = t.ve)) && (decide (s.kk = t.kk) && decide (s.nn = t.nn) && decide (s.pr = t.pr))

/-- Whether two steps are equal, their numbers by value. -/
def St.eq : St → St → Bool
  | .mk s nu de x pn ps bn bs n ki, .mk s' nu' de' x' pn' ps' bn' bs' n' ki' =>
    s.eq s' && (ratEq s.g nu de s'.g nu' de' && (x.eq x' && (PtsEq pn ps pn' ps' && (BdsEq bn bs bn' bs' && (decide (n = n') && (List.range n).all fun i => (ki i).eq (ki' i))))))
  | .non, .non => true
  | _, _ => false

/-- The step x lies in memory behind the 21 cells d. -/
def StOk (w : World) : St → Sd → Prop
  | .non, _ => False
  | .mk s nu de x pn ps bn bs n ki, d => (d.s = s ∧ d.pon = pn ∧ d.arn = bn ∧ d.kin = n) ∧ Sl w (.slice d.aq d.an d.ac) nu ∧ Sl w (.slice d.cq d.cn d.cc) de ∧ nu.length ≤ 1048576 ∧ de.length ≤ 1048576 ∧
    ExOk w x d.e ∧ PtsOk w d.poq pn ps ∧ BdsOk w d.arq bn bs ∧ n ≤ 1099511627776 ∧
    (n = 0 ∨ ∃ b o, d.kiq = some ⟨b, o, none⟩ ∧ b < w.heap.size ∧ ∃ ds : Nat → Sd, ∀ i, i < n → w.rangeAt b (o + i * 21) (ds i).cells ∧ StOk w (ki i) (ds i))

theorem StOk.below {w w' : World} (hb : Below w.heap.size w w') : ∀ {x : St} {d : Sd}, StOk w x d → StOk w' x d := by
  intro x
  induction x with
  | non => exact fun h => h.elim
  | mk s nu de x pn ps bn bs n ki ih =>
    intro d h
    unfold StOk at h ⊢
    obtain ⟨h1, h2, h3, h4, h5, h6, h7, h8, h9, h10⟩ := h
    refine ⟨h1, h2.below hb, h3.below hb, h4, h5, h6.below hb, h7.below hb, h8.below hb, h9, h10.imp id ?_⟩
    rintro ⟨b, o, e, hlt, ds, hds⟩
    exact ⟨b, o, e, Nat.lt_of_lt_of_le hlt hb.size, ds, fun i hi => ⟨rangeAt_below (hds i hi).1 hb hlt, ih i (hds i hi).2⟩⟩

end Go.Proofs.YtaonejnicgbifaaGreatDoor
