import Derived.Deep.AppendLies
import Derived.Laws.AppendOwnNone
import Derived.Test.YtaonejnicgbifaaGreatDoorPk02
namespace Go.Proofs.YtaonejnicgbifaaGreatDoor
open Go Go.RowKit

/-- NatOf between two rounds. -/
structure No (x X : Int) (out : List Int) : Prop where
  dig : Dig16 out
  eq : val16 out + X * 65536 ^ out.length = x
  can : X = 0 → Canon out
theorem No.zero (x : Int) : No x x [] := ⟨fun j => by simp [List.getD], by simp [val16], fun _ m hm => by simp at hm⟩
theorem No.step {x X : Int} {out : List Int} (h : No x X out) (h0 : 0 < X) : No x (X / 65536) (out ++ [X % 65536]) := by
  refine ⟨dig_snoc16 h.dig (by omega), ?_, fun hz m hm => ?_⟩
  · have he := h.eq
    rw [val_snoc16, List.length_append, List.length_singleton, Int.pow_succ]
    generalize (65536 : Int) ^ out.length = p at *
    have e : X * p = X % 65536 * p + X / 65536 * (p * 65536) := by
      have h1 : X = X % 65536 + 65536 * (X / 65536) := by omega
      calc X * p = (X % 65536 + 65536 * (X / 65536)) * p := by rw [← h1]
        _ = _ := by rw [Int.add_mul, Int.mul_comm 65536, Int.mul_assoc, Int.mul_comm 65536 p]
    omega
  · simp at hm
    subst hm
    simp [List.getD]
    omega
theorem No.len {x X : Int} {out : List Int} (h : No x X out) (h0 : 0 < X) (hx : x ≤ 18446744073709551615) : out.length < 4 := by
  rcases Nat.lt_or_ge out.length 4 with hl | hl
  · exact hl
  · have h1 := h.eq
    have h2 := val_nonneg16 h.dig
    obtain ⟨m, hm⟩ := Nat.exists_eq_add_of_le hl
    rw [hm, Int.pow_add] at h1
    have h5 : (65536 : Int) ^ 4 = 18446744073709551616 := by decide
    rw [h5] at h1
    have h3 : (0 : Int) < 65536 ^ m := Int.pow_pos (by decide)
    generalize (65536 : Int) ^ m = p at *
    have h4 := Int.mul_le_mul_of_nonneg_right (by omega : (1 : Int) ≤ X) (by omega : (0 : Int) ≤ 18446744073709551616 * p)
    rw [Int.one_mul] at h4
    omega

end Go.Proofs.YtaonejnicgbifaaGreatDoor
namespace Go.Proofs.YtaonejnicgbifaaGreatDoor
open Go Go.RowKit

theorem take_set_same : ∀ (l : List Int) (i : Nat) (d : Int), (l.set i d).take i = l.take i
  | [], _, _ => by simp
  | x :: l, 0, d => by simp
  | x :: l, i + 1, d => by simpa using take_set_same l i d
theorem getD_set_self {l : List Int} {i : Nat} {d : Int} (h : i < l.length) : (l.set i d).getD i 0 = d := by
  simp [List.getD, List.getElem?_set, h]
theorem getD_set_ne {l : List Int} {i j : Nat} {d : Int} (h : i ≠ j) : (l.set i d).getD j 0 = l.getD j 0 := by
  simp [List.getD, List.getElem?_set, h]

end Go.Proofs.YtaonejnicgbifaaGreatDoor
namespace Go.Proofs.YtaonejnicgbifaaGreatDoor
open Go Go.RowKit

/-- A block whose first cells are these words. -/
def BlkP (w : World) (g : Nat) (xs : List Int) : Prop := ∃ cur, w.heap[g]? = some (.cells cur 150 (0, 0)) ∧ ∀ j, j < xs.length → cur[j]? = some (.int .u32 (xs.getD j 0))
theorem BlkP.lt {w : World} {g : Nat} {xs : List Int} (h : BlkP w g xs) : g < w.heap.size := by
  obtain ⟨cur, h1, h2⟩ := h
  exact (Array.getElem?_eq_some_iff.1 h1).1
theorem BlkP.cell {w : World} {g : Nat} {xs : List Int} (h : BlkP w g xs) {j : Nat} (hj : j < xs.length) : w.cell? ⟨g, j, none⟩ = some (.int .u32 (xs.getD j 0)) := by
  obtain ⟨cur, h1, h2⟩ := h
  simp only [World.cell?, h1]
  simpa using h2 j hj
theorem BlkP.frozen {w : World} {g : Nat} {xs : List Int} (h : BlkP w g xs) (j : Nat) : w.frozen? ⟨g, j, none⟩ = false := by
  obtain ⟨cur, h1, h2⟩ := h
  simp [World.frozen?, h1]
theorem BlkP.set {w : World} {g : Nat} {xs : List Int} (h : BlkP w g xs) (j : Nat) (d : Int) : BlkP (w.setCell ⟨g, j, none⟩ (.int .u32 d)) g (xs.set j d) := by
  have hlt := h.lt
  obtain ⟨cur, h1, h2⟩ := h
  refine ⟨cur.setIfInBounds j (.int .u32 d), ?_, fun i hi => ?_⟩
  · show (w.heap.modify g _)[g]? = _
    rw [Array.getElem?_modify, if_pos rfl, h1]
    simp
  · have h3 := h2 i (by simpa using hi)
    rw [List.length_set] at hi
    rw [Array.getElem?_setIfInBounds]
    by_cases e : j = i
    · subst e
      have hj : j < cur.size := (Array.getElem?_eq_some_iff.1 h3).1
      simp [hj, List.getD, List.getElem?_set, hi]
    · simp [e, h3, List.getD, List.getElem?_set]
theorem BlkP.below {w w' : World} {g : Nat} {xs : List Int} (h : BlkP w g xs) (hb : Below w.heap.size w w') : BlkP w' g xs := by
  have hlt := h.lt
  obtain ⟨cur, h1, h2⟩ := h
  exact ⟨cur, (hb.block g hlt).trans h1, h2⟩
theorem BlkP.part {w : World} {g : Nat} {xs ys : List Int} (h : BlkP w g (xs ++ ys)) : BlkP w g xs := by
  obtain ⟨cur, h1, h2⟩ := h
  refine ⟨cur, h1, fun j hj => ?_⟩
  have := h2 j (by simp; omega)
  rwa [show (xs ++ ys).getD j 0 = xs.getD j 0 by simp [List.getD, List.getElem?_append_left hj]] at this
theorem getD_mid {A cur C : List Int} {i : Nat} (hi : i < cur.length) : (A ++ cur ++ C).getD (A.length + i) 0 = cur.getD i 0 := by
  rw [List.append_assoc]
  simp only [List.getD]
  rw [List.getElem?_append_right (by omega), Nat.add_sub_cancel_left, List.getElem?_append_left hi]
theorem set_mid (A cur C : List Int) (i : Nat) (d : Int) (hi : i < cur.length) : (A ++ cur ++ C).set (A.length + i) d = A ++ cur.set i d ++ C := by
  rw [List.append_assoc, List.set_append, if_neg (by omega), Nat.add_sub_cancel_left, List.set_append, if_pos hi, List.append_assoc]

/-- All old blocks but one are as they were. -/
structure Sav (g : Nat) (w w' : World) : Prop where
  os : w'.os = w.os
  tape : w'.tape = w.tape
  output : w'.output = w.output
  size : w.heap.size ≤ w'.heap.size
  block : ∀ k, k < w.heap.size → k ≠ g → w'.heap[k]? = w.heap[k]?
theorem Sav.of {g : Nat} {w w' : World} (h : Below w.heap.size w w') : Sav g w w' := ⟨h.os, h.tape, h.output, h.size, fun k hk _ => h.block k hk⟩
theorem Sav.then {g : Nat} {w a b : World} (h : Sav g w a) (h' : Below a.heap.size a b) : Sav g w b :=
  ⟨h'.os.trans h.os, h'.tape.trans h.tape, h'.output.trans h.output, Nat.le_trans h.size h'.size, fun k hk hg => (h'.block k (Nat.lt_of_lt_of_le hk h.size)).trans (h.block k hk hg)⟩
theorem Sav.trans {g : Nat} {w a b : World} (h : Sav g w a) (h' : Sav g a b) : Sav g w b :=
  ⟨h'.os.trans h.os, h'.tape.trans h.tape, h'.output.trans h.output, Nat.le_trans h.size h'.size, fun k hk hg => (h'.block k (Nat.lt_of_lt_of_le hk h.size) hg).trans (h.block k hk hg)⟩
theorem Sav.setCell {g : Nat} {w a : World} (h : Sav g w a) (j : Nat) (u : Value) : Sav g w (a.setCell ⟨g, j, none⟩ u) :=
  ⟨h.os, h.tape, h.output, by simpa [World.setCell] using h.size, fun k hk hg => (Below.heap_setCell _ _ _ _ (by simpa using hg)).trans (h.block k hk hg)⟩
theorem Sav.cell {g : Nat} {w w' : World} (h : Sav g w w') {b o : Nat} (hb : b < w.heap.size) (hg : b ≠ g) : w'.cell? ⟨b, o, none⟩ = w.cell? ⟨b, o, none⟩ := World.cell?_of_block (w := w) (h.block b hb hg)
theorem Sav.below {g B : Nat} {w w' : World} (h : Sav g w w') (hB : B ≤ g) (hs : B ≤ w.heap.size) : Below B w w' := ⟨h.os, h.tape, h.output, h.size, fun k hk => h.block k (by omega) (by omega)⟩

/-- A slice of words that lie in no cell of this block. -/
def Sl16N (g : Nat) (w : World) (v : Value) (xs : List Int) : Prop :=
  Dig16 xs ∧ xs.length ≤ 549755813888 ∧ ∃ q cap, v = .slice q xs.length cap ∧ xs.length ≤ cap ∧ (xs = [] ∨ ∃ b o, q = some ⟨b, o, none⟩ ∧ b < w.heap.size ∧ b ≠ g ∧ ∀ i, i < xs.length → w.cell? ⟨b, o + i, none⟩ = some (.int .u32 (xs.getD i 0)))
theorem Sl16N.sl {g : Nat} {w : World} {v : Value} {xs : List Int} (h : Sl16N g w v xs) : Sl16 w v xs := by
  obtain ⟨h1, h2, q, cap, h3, h4, h5⟩ := h
  refine ⟨h1, h2, q, cap, h3, h4, h5.imp id ?_⟩
  rintro ⟨b, o, e, hlt, _, hc⟩
  exact ⟨b, o, e, hlt, hc⟩
/-- What lay there before the block was made. -/
theorem Sl16.ne {w : World} {v : Value} {xs : List Int} (h : Sl16 w v xs) {w' : World} {g : Nat} (hb : Below w.heap.size w w') (hg : w.heap.size ≤ g) : Sl16N g w' v xs := by
  obtain ⟨h1, h2, q, cap, h3, h4, h5⟩ := h
  refine ⟨h1, h2, q, cap, h3, h4, h5.imp id ?_⟩
  rintro ⟨b, o, e, hlt, hc⟩
  exact ⟨b, o, e, Nat.lt_of_lt_of_le hlt hb.size, by omega, fun i hi => (hb.cell (by exact hlt)).trans (hc i hi)⟩
theorem Sl16N.sav {g : Nat} {w w' : World} {v : Value} {xs : List Int} (h : Sl16N g w v xs) (hs : Sav g w w') : Sl16N g w' v xs := by
  obtain ⟨h1, h2, q, cap, h3, h4, h5⟩ := h
  refine ⟨h1, h2, q, cap, h3, h4, h5.imp id ?_⟩
  rintro ⟨b, o, e, hlt, hne, hc⟩
  exact ⟨b, o, e, Nat.lt_of_lt_of_le hlt hs.size, hne, fun i hi => (hs.cell hlt hne).trans (hc i hi)⟩
theorem BlkP.sl {w : World} {g : Nat} {A us C : List Int} {cap : Nat} (h : BlkP w g (A ++ us ++ C)) (du : Dig16 us) (hl : us.length ≤ 549755813888) (hc : us.length ≤ cap) : Sl16 w (.slice (some ⟨g, A.length, none⟩) us.length cap) us := by
  refine ⟨du, hl, some ⟨g, A.length, none⟩, cap, rfl, hc, .inr ⟨g, A.length, rfl, h.lt, fun i hi => ?_⟩⟩
  have := h.cell (j := A.length + i) (by simp; omega)
  rwa [getD_mid hi] at this

end Go.Proofs.YtaonejnicgbifaaGreatDoor
namespace Go.Proofs.YtaonejnicgbifaaGreatDoor
open Go Go.RowKit

theorem Sl16.news {w : World} {q : Option Addr} {n cap : Nat} {ys : List Int} (h : Sl16 w (.slice q n cap) ys) {q2 : Addr} (hq : q = some q2) : ∀ j u, (ys.map (Value.int .u32))[j]? = some u → w.cell? (q2.add j) = some u := by
  obtain ⟨_, _, q', cap', e, _, hx⟩ := h
  cases e
  intro j u hj
  rcases hx with rfl | ⟨b, o, e, _, hc⟩
  · simp at hj
  · cases hq
    cases e
    have hjl : j < ys.length := by
      rcases Nat.lt_or_ge j ys.length with h | h
      · exact h
      · simp [List.getElem?_eq_none h] at hj
    have h := hc j hjl
    simp only [List.getElem?_map, List.getElem?_eq_getElem hjl, Option.map_some, Option.some.injEq] at hj
    rw [show ys.getD j 0 = ys[j] by simp [hjl], hj] at h
    by_cases h0 : j = 0
    · subst h0
      simpa [Addr.add] using h
    · simpa [Addr.add, h0] using h

theorem two_pos (s : Nat) : (0 : Int) < 2 ^ s := Int.pow_pos (by decide)
end Go.Proofs.YtaonejnicgbifaaGreatDoor
namespace Go.Proofs.YtaonejnicgbifaaGreatDoor
open Go Go.RowKit

theorem below_alloc (w : World) (o : Obj) : Below w.heap.size w (w.alloc o) := (Below.refl _ _).alloc (Nat.le_refl _) o

end Go.Proofs.YtaonejnicgbifaaGreatDoor
namespace Go.Proofs.YtaonejnicgbifaaGreatDoor
open Go Go.RowKit

theorem drop_set_same : ∀ (l : List Int) (i : Nat) (d : Int), (l.set i d).drop (i + 1) = l.drop (i + 1)
  | [], _, _ => by simp
  | x :: l, 0, d => by simp
  | x :: l, i + 1, d => by simpa using drop_set_same l i d

end Go.Proofs.YtaonejnicgbifaaGreatDoor
namespace Go.Proofs.YtaonejnicgbifaaGreatDoor
open Go Go.RowKit

theorem Sl16.form {w : World} {v : Value} {xs : List Int} (h : Sl16 w v xs) : ∃ q cap, v = .slice q xs.length cap := by
  obtain ⟨_, _, q, cap, rfl, _⟩ := h
  exact ⟨q, cap, rfl⟩
theorem mul_zero_of {p c v : Int} (hp : 0 < p) (hc : 0 ≤ c) (hv : p * c ≤ v) (h : v < p) : c = 0 := by
  rcases (by omega : c = 0 ∨ 1 ≤ c) with h1 | h1
  · exact h1
  · have := Int.mul_le_mul_of_nonneg_left h1 (by omega : 0 ≤ p)
    omega
end Go.Proofs.YtaonejnicgbifaaGreatDoor
namespace Go.Proofs.YtaonejnicgbifaaGreatDoor
open Go Go.RowKit

theorem Sav.setFresh {g : Nat} {w a : World} (h : Sav g w a) {p : Addr} (hp : w.heap.size ≤ p.block) (u : Value) : Sav g w (a.setCell p u) :=
  ⟨h.os, h.tape, h.output, by simpa [World.setCell] using h.size, fun k hk hg => (Below.heap_setCell _ _ _ _ (by omega)).trans (h.block k hk hg)⟩
theorem BlkP.setOther {w : World} {g : Nat} {xs : List Int} (h : BlkP w g xs) {p : Addr} (hp : p.block ≠ g) (u : Value) : BlkP (w.setCell p u) g xs := by
  obtain ⟨cur, h1, h2⟩ := h
  exact ⟨cur, (Below.heap_setCell _ _ _ _ (by omega)).trans h1, h2⟩
theorem Blk.sav {w w' : World} {gu gq : Nat} {q : List Int} (h : Blk w gq q) (hs : Sav gu w w') (hne : gq ≠ gu) : Blk w' gq q := by
  unfold Blk at h ⊢
  rw [hs.block gq (Array.getElem?_eq_some_iff.1 h).1 hne]
  exact h
theorem Blk.sl {w : World} {g : Nat} {q : List Int} (h : Blk w g q) (dq : Dig16 q) (hl : q.length ≤ 549755813888) : Sl16 w (.slice (some ⟨g, 0, none⟩) q.length q.length) q := by
  refine ⟨dq, hl, _, _, rfl, Nat.le_refl _, .inr ⟨g, 0, rfl, ?_, fun i hi => by simpa using h.cell hi⟩⟩
  unfold Blk at h
  exact (Array.getElem?_eq_some_iff.1 h).1

end Go.Proofs.YtaonejnicgbifaaGreatDoor
namespace Go.Proofs.YtaonejnicgbifaaGreatDoor
open Go Go.RowKit

def gcdI (a b : Int) : Int := (Nat.gcd a.toNat b.toNat : Nat)
theorem gcdI_step {a b : Int} (ha : 0 ≤ a) (hb : 0 < b) : gcdI b (a % b) = gcdI a b := by
  unfold gcdI
  rw [Int.toNat_emod ha (by omega), Nat.gcd_comm, ← Nat.gcd_rec, Nat.gcd_comm]
theorem gcdI_zero {a : Int} (ha : 0 ≤ a) : gcdI a 0 = a := by
  unfold gcdI
  simp
  omega

end Go.Proofs.YtaonejnicgbifaaGreatDoor
namespace Go.Proofs.YtaonejnicgbifaaGreatDoor
open Go Go.RowKit

def mkG (g : Bool) (n d : Int) : Bool := if n = 0 ∨ d = 0 then false else g
def mkN (n d : Int) : Int := if n = 0 ∨ d = 0 then 0 else n / gcdI n d
def mkD (n d : Int) : Int := if n = 0 ∨ d = 0 then 1 else d / gcdI n d
theorem gcdI_pos {a b : Int} (ha : 0 < a) : 0 < gcdI a b := by
  unfold gcdI
  have := Nat.gcd_pos_of_pos_left b.toNat (by omega : 0 < a.toNat)
  omega
end Go.Proofs.YtaonejnicgbifaaGreatDoor
namespace Go.Proofs.YtaonejnicgbifaaGreatDoor
open Go Go.RowKit

def denI (d : Int) : Int := if d = 0 then 1 else d
end Go.Proofs.YtaonejnicgbifaaGreatDoor
namespace Go.Proofs.YtaonejnicgbifaaGreatDoor
open Go Go.RowKit

def sg (g : Bool) : Int := if g then -1 else 1
end Go.Proofs.YtaonejnicgbifaaGreatDoor
namespace Go.Proofs.YtaonejnicgbifaaGreatDoor
open Go Go.RowKit

def sgnI (s : Int) : Int := if s = 0 then 0 else if s < 0 then -1 else 1
theorem denI_pos {d : Int} (h : 0 ≤ d) : 0 < denI d := by
  unfold denI
  split <;> omega
end Go.Proofs.YtaonejnicgbifaaGreatDoor
namespace Go.Proofs.YtaonejnicgbifaaGreatDoor
open Go Go.RowKit

theorem mkN_le {n d : Int} (hn : 0 ≤ n) (hd : 0 ≤ d) : mkN n d ≤ n ∧ mkD n d ≤ max d 1 ∧ 0 ≤ mkN n d ∧ 0 ≤ mkD n d := by
  unfold mkN mkD
  split
  · omega
  · rename_i h
    have hg := gcdI_pos (b := d) (by omega : 0 < n)
    have h1 := Int.ediv_le_self (gcdI n d) hn
    have h2 := Int.ediv_le_self (gcdI n d) hd
    have h3 := Int.ediv_nonneg hn (by omega : 0 ≤ gcdI n d)
    have h4 := Int.ediv_nonneg hd (by omega : 0 ≤ gcdI n d)
    omega
end Go.Proofs.YtaonejnicgbifaaGreatDoor
namespace Go.Proofs.YtaonejnicgbifaaGreatDoor
open Go Go.RowKit

/-- A set of numbers of the reference, by its values. -/
structure IvV where
  g1 : Bool
  n1 : Int
  d1 : Int
  g2 : Bool
  n2 : Int
  d2 : Int
  li : Bool
  hh : Bool
  em : Bool
/-- An interval's ends and marks. -/
structure IvC where
  g1 : Bool
  n1 : Int
  d1 : Int
  g2 : Bool
  n2 : Int
  d2 : Int
  li : Bool
  hh : Bool
def IvC.lo (c : IvC) : Bool × Int × Int := if c.li then (false, 0, 0) else (mkG c.g1 c.n1 (denI c.d1), mkN c.n1 (denI c.d1), mkD c.n1 (denI c.d1))
def IvC.hi (c : IvC) : Bool × Int × Int := if c.hh then (false, 0, 0) else (mkG c.g2 c.n2 (denI c.d2), mkN c.n2 (denI c.d2), mkD c.n2 (denI c.d2))
def qS (a b : Bool × Int × Int) : Int := sgnI (sg a.1 * (a.2.1 * denI b.2.2) - sg b.1 * (b.2.1 * denI a.2.2))
def IvC.v (c : IvC) : IvV :=
  if c.li = false ∧ c.hh = false ∧ 0 < qS c.lo c.hi then ⟨false, 0, 0, false, 0, 0, false, false, true⟩
  else ⟨c.lo.1, c.lo.2.1, c.lo.2.2, c.hi.1, c.hi.2.1, c.hi.2.2, c.li, c.hh, false⟩
/-- A variable of nine cells. -/
def BlkI (w : World) (N : Nat) (t : TypeId) (cs : Array Value) : Prop := w.heap[N]? = some (.cells cs t (0, 0))
def NoW (cs : Array Value) : Prop := ∀ (j : Nat) (x : Int), cs[j]? ≠ some (Value.int .u32 x)
theorem BlkI.lt {w : World} {N : Nat} {t : TypeId} {cs : Array Value} (h : BlkI w N t cs) : N < w.heap.size := (Array.getElem?_eq_some_iff.1 h).1
theorem BlkI.below {w w' : World} {N : Nat} {t : TypeId} {cs : Array Value} (h : BlkI w N t cs) (hb : Below w.heap.size w w') : BlkI w' N t cs := (hb.block N h.lt).trans h
theorem BlkI.cell {w : World} {N : Nat} {t : TypeId} {cs : Array Value} (h : BlkI w N t cs) (j : Nat) : w.cell? ⟨N, j, none⟩ = cs[j]? := by unfold BlkI at h; simp [World.cell?, h]
theorem BlkI.fr {w : World} {N : Nat} {t : TypeId} {cs : Array Value} (h : BlkI w N t cs) (j : Nat) : w.frozen? ⟨N, j, none⟩ = false := by unfold BlkI at h; simp [World.frozen?, h]
theorem BlkI.set {w : World} {N : Nat} {t : TypeId} {cs : Array Value} (h : BlkI w N t cs) (j : Nat) (v : Value) : BlkI (w.setCell ⟨N, j, none⟩ v) N t (cs.setIfInBounds j v) := by
  unfold BlkI at h ⊢
  show (w.heap.modify N _)[N]? = _
  rw [Array.getElem?_modify, if_pos rfl, h]
  simp
theorem BlkI.other {w : World} {N : Nat} {t : TypeId} {cs : Array Value} (h : BlkI w N t cs) {p : Addr} (hp : p.block ≠ N) (v : Value) : BlkI (w.setCell p v) N t cs := (Below.heap_setCell _ _ _ _ (by omega)).trans h
theorem BlkI.row {w : World} {N : Nat} {t : TypeId} {cs : Array Value} (h : BlkI w N t cs) : w.rangeAt N 0 cs.toList := fun j v hv => by
  have := h.cell j
  rw [Nat.zero_add, this]
  simpa using hv
theorem noint9 {g1 g2 b1 b2 b3 : Bool} {q1 q2 q3 q4 : Option Addr} {l1 c1 l2 c2 l3 c3 l4 c4 : Nat} : NoW #[.bool g1, .slice q1 l1 c1, .slice q2 l2 c2, .bool g2, .slice q3 l3 c3, .slice q4 l4 c4, .bool b1, .bool b2, .bool b3] := by
  intro j x
  match j with
  | 0 => simp
  | 1 => simp
  | 2 => simp
  | 3 => simp
  | 4 => simp
  | 5 => simp
  | 6 => simp
  | 7 => simp
  | 8 => simp
  | j + 9 => simp

end Go.Proofs.YtaonejnicgbifaaGreatDoor
namespace Go.Proofs.YtaonejnicgbifaaGreatDoor
open Go Go.RowKit

theorem BlkI.sav {w w' : World} {N M : Nat} {t : TypeId} {cs : Array Value} (h : BlkI w N t cs) (hs : Sav M w w') (hne : N ≠ M) : BlkI w' N t cs := (hs.block N h.lt hne).trans h
theorem store9 {w : World} {N : Nat} {t : TypeId} {y0 y1 y2 y3 y4 y5 y6 y7 y8 : Value} (h : BlkI w N t #[y0, y1, y2, y3, y4, y5, y6, y7, y8]) (v0 v1 v2 v3 v4 v5 v6 v7 v8 : Value) :
    BlkI (((((((((w.setCell ⟨N, 0, none⟩ v0).setCell ⟨N, 1, none⟩ v1).setCell ⟨N, 2, none⟩ v2).setCell ⟨N, 3, none⟩ v3).setCell ⟨N, 4, none⟩ v4).setCell ⟨N, 5, none⟩ v5).setCell ⟨N, 6, none⟩ v6).setCell ⟨N, 7, none⟩ v7).setCell ⟨N, 8, none⟩ v8) N t #[v0, v1, v2, v3, v4, v5, v6, v7, v8] ∧
    Sav N w (((((((((w.setCell ⟨N, 0, none⟩ v0).setCell ⟨N, 1, none⟩ v1).setCell ⟨N, 2, none⟩ v2).setCell ⟨N, 3, none⟩ v3).setCell ⟨N, 4, none⟩ v4).setCell ⟨N, 5, none⟩ v5).setCell ⟨N, 6, none⟩ v6).setCell ⟨N, 7, none⟩ v7).setCell ⟨N, 8, none⟩ v8)  := by
  have a0 : BlkI _ N t #[v0, y1, y2, y3, y4, y5, y6, y7, y8] := h.set 0 v0
  have a1 : BlkI _ N t #[v0, v1, y2, y3, y4, y5, y6, y7, y8] := a0.set 1 v1
  have a2 : BlkI _ N t #[v0, v1, v2, y3, y4, y5, y6, y7, y8] := a1.set 2 v2
  have a3 : BlkI _ N t #[v0, v1, v2, v3, y4, y5, y6, y7, y8] := a2.set 3 v3
  have a4 : BlkI _ N t #[v0, v1, v2, v3, v4, y5, y6, y7, y8] := a3.set 4 v4
  have a5 : BlkI _ N t #[v0, v1, v2, v3, v4, v5, y6, y7, y8] := a4.set 5 v5
  have a6 : BlkI _ N t #[v0, v1, v2, v3, v4, v5, v6, y7, y8] := a5.set 6 v6
  have a7 : BlkI _ N t #[v0, v1, v2, v3, v4, v5, v6, v7, y8] := a6.set 7 v7
  have a8 : BlkI _ N t #[v0, v1, v2, v3, v4, v5, v6, v7, v8] := a7.set 8 v8
  have b : Sav N w _ := ((((((((((Sav.of (Below.refl _ w)).setCell 0 v0).setCell 1 v1).setCell 2 v2).setCell 3 v3).setCell 4 v4).setCell 5 v5).setCell 6 v6).setCell 7 v7).setCell 8 v8)
  exact ⟨a8, b⟩
end Go.Proofs.YtaonejnicgbifaaGreatDoor
