import Derived.Test.YtaonejnicgbifaaGreatDoorPk03
namespace Go.Proofs.YtaonejnicgbifaaGreatDoor
open Go Go.RowKit
theorem val_takeb (l : List Int) (k : Nat) : val (l.take (k + 1)) = val (l.take k) + l.getD k 0 * 4294967296 ^ k := by
  by_cases h : k < l.length
  · exact val_take l k h
  · have h0 : l.getD k 0 = 0 := by simp [List.getD, List.getElem?_eq_none (by omega : l.length ≤ k)]
    rw [List.take_of_length_le (by omega), List.take_of_length_le (by omega), h0]
    omega
theorem val_ltb : ∀ {xs : List Int}, Dig xs → val xs < 4294967296 ^ xs.length
  | [], _ => by simp [val]
  | x :: xs, h => by
    have h0 := h 0
    have h1 := val_ltb (dig_tail h)
    have h2 : val (x :: xs) = x + 4294967296 * val xs := rfl
    rw [h2, List.length_cons, Int.pow_succ]
    simp only [List.getD_cons_zero] at h0
    omega

theorem dig_snocb {l : List Int} (h : Dig l) {d : Int} (hd : 0 ≤ d ∧ d ≤ 4294967295) : Dig (l ++ [d]) := fun j => by
  by_cases hj : j < l.length
  · have := h j
    rwa [show (l ++ [d]).getD j 0 = l.getD j 0 by simp [List.getD, List.getElem?_append_left hj]]
  · by_cases hj2 : j = l.length
    · subst hj2
      simpa [List.getD] using hd
    · have : (l ++ [d]).getD j 0 = 0 := by
        simp only [List.getD]
        rw [List.getElem?_eq_none (by simp; omega)]
        rfl
      rw [this]
      omega
theorem val_snocb (l : List Int) (d : Int) : val (l ++ [d]) = val l + d * 4294967296 ^ l.length := by
  rw [val_append]
  have : val [d] = d := by simp [val]
  rw [this, Int.mul_comm]
theorem dig_takeb {xs : List Int} (h : Dig xs) (k : Nat) : Dig (xs.take k) := fun j => by
  have := h j
  simp only [List.getD, List.getElem?_take] at this ⊢
  split
  · exact this
  · simp
theorem dig_dropb {xs : List Int} (h : Dig xs) (k : Nat) : Dig (xs.drop k) := fun j => by
  have := h (k + j)
  simpa [List.getD, List.getElem?_drop] using this
theorem pow32_pos (k : Nat) : (0 : Int) < 4294967296 ^ k := Int.pow_pos (by decide)
/-- A number with two words more. -/
theorem val_top2b {us : List Int} {m : Nat} (h : us.length = m + 2) : val us = val (us.take m) + (us.getD (m + 1) 0 * 4294967296 + us.getD m 0) * 4294967296 ^ m := by
  have h1 := val_takeb us m
  have h2 := val_takeb us (m + 1)
  rw [List.take_of_length_le (by omega : us.length ≤ m + 1 + 1), h1, Int.pow_succ] at h2
  rw [h2, Int.add_mul, Int.mul_assoc, Int.mul_comm (4294967296 ^ m) 4294967296]
  omega
theorem val_top1b {vs : List Int} {m : Nat} (h : vs.length = m + 1) : val vs = val (vs.take m) + vs.getD m 0 * 4294967296 ^ m := by
  have h1 := val_takeb vs m
  rwa [List.take_of_length_le (by omega : vs.length ≤ m + 1)] at h1
/-- The first guess of a digit is not too small. -/
theorem guess_geb {us vs : List Int} {m : Nat} (du : Dig us) (dv : Dig vs) (hu : us.length = m + 2) (hv : vs.length = m + 1) (ht : 0 < vs.getD m 0) :
    val us / val vs ≤ (us.getD (m + 1) 0 * 4294967296 + us.getD m 0) / vs.getD m 0 := by
  have e1 := val_top2b hu
  have e2 := val_top1b hv
  have l1 := val_ltb (dig_takeb du m)
  have l2 := val_nonneg (dig_takeb dv m)
  rw [List.length_take, Nat.min_eq_left (by omega)] at l1
  have hp := pow32_pos m
  generalize us.getD (m + 1) 0 * 4294967296 + us.getD m 0 = top at *
  generalize vs.getD m 0 = vt at *
  generalize (4294967296 : Int) ^ m = p at *
  have hvp : 0 < vt * p := Int.mul_pos ht hp
  have hd : top < (top / vt + 1) * vt := by
    have := Int.emod_add_mul_ediv top vt
    have := Int.emod_lt_of_pos top ht
    rw [Int.add_mul, Int.one_mul, Int.mul_comm (top / vt)]
    omega
  generalize top / vt = g at *
  have h3 : (top + 1) * p ≤ (g + 1) * vt * p := Int.mul_le_mul_of_nonneg_right (by omega) (by omega)
  rw [Int.add_mul top 1 p, Int.one_mul] at h3
  have hg : 0 ≤ g + 1 ∨ g + 1 < 0 := by omega
  have h4 : val us < (g + 1) * val vs := by
    rw [e2, Int.mul_add]
    have h5 : 0 ≤ (g + 1) * val (vs.take m) := by
      rcases hg with hg | hg
      · exact Int.mul_nonneg hg l2
      · exfalso
        have h7 : (g + 1) * vt < 0 := Int.mul_neg_of_neg_of_pos hg ht
        have h8 : (g + 1) * vt * p < 0 := Int.mul_neg_of_neg_of_pos h7 hp
        have h9 := val_nonneg du
        have h10 := val_nonneg (dig_takeb du m)
        have d1 := du (m + 1)
        have d2 := du m
        omega
    rw [Int.mul_assoc] at h3
    omega
  have := Int.ediv_lt_of_lt_mul (by omega : 0 < val vs) h4
  omega

theorem val_lt_ofb {xs ys : List Int} {k : Nat} (hl : xs.length = ys.length) (dx : Dig xs) (dy : Dig ys) (hk : k < xs.length) (h : xs.getD k 0 < ys.getD k 0) (hag : ∀ j, k + 1 ≤ j → j < xs.length → xs.getD j 0 = ys.getD j 0) : val xs < val ys := by
  have key : ∀ m, k + 1 + m ≤ xs.length → val (xs.take (k + 1 + m)) < val (ys.take (k + 1 + m)) := by
    intro m
    induction m with
    | zero =>
      intro _
      have dt : ∀ l : List Int, Dig l → Dig (l.take k) := fun l hd j => by
        have := hd j
        simp only [List.getD, List.getElem?_take]
        split
        · exact this
        · simp
      have h1 := val_ltb (dt xs dx)
      have h2 := val_nonneg (dt ys dy)
      rw [Nat.add_zero, val_takeb, val_takeb]
      rw [List.length_take, Nat.min_eq_left (by omega)] at h1
      generalize (4294967296 : Int) ^ k = p at *
      have h3 : (xs.getD k 0 + 1) * p ≤ ys.getD k 0 * p := Int.mul_le_mul_of_nonneg_right (by omega) (by have := val_nonneg (dt xs dx); omega)
      rw [Int.add_mul, Int.one_mul] at h3
      omega
    | succ m ih =>
      intro hm
      have h1 := ih (by omega)
      rw [← Nat.add_assoc, val_takeb, val_takeb, hag (k + 1 + m) (by omega) (by omega)]
      omega
  have := key (xs.length - (k + 1)) (by omega)
  rwa [show k + 1 + (xs.length - (k + 1)) = xs.length by omega, List.take_length, hl, List.take_length] at this

/-- The longer canonical number is the greater. -/
theorem val_len_ltb {xs ys : List Int} (dx : Dig xs) (dy : Dig ys) (cy : Canon ys) (hl : xs.length < ys.length) : val xs < val ys := by
  obtain ⟨m, hm⟩ : ∃ m, ys.length = m + 1 := ⟨ys.length - 1, by omega⟩
  have h0 := cy m hm
  have h1 := dy m
  have hv := val_takeb ys m
  rw [← hm, List.take_length] at hv
  have dt : Dig (ys.take m) := fun j => by
    have := dy j
    simp only [List.getD, List.getElem?_take]
    split
    · exact this
    · simp
  have h2 := val_nonneg dt
  have h3 := val_ltb dx
  obtain ⟨d, hd⟩ : ∃ d, m = xs.length + d := ⟨m - xs.length, by omega⟩
  have h4 : (4294967296 : Int) ^ xs.length ≤ 4294967296 ^ m := by
    rw [hd, Int.pow_add]
    have a1 : (0 : Int) < 4294967296 ^ d := Int.pow_pos (by decide)
    have a2 : (0 : Int) < 4294967296 ^ xs.length := Int.pow_pos (by decide)
    have := Int.mul_le_mul_of_nonneg_left (by omega : (1 : Int) ≤ 4294967296 ^ d) (by omega : (0 : Int) ≤ 4294967296 ^ xs.length)
    rwa [Int.mul_one] at this
  have h5 : (1 : Int) * 4294967296 ^ m ≤ ys.getD m 0 * 4294967296 ^ m := Int.mul_le_mul_of_nonneg_right (by omega) (by have : (0 : Int) < 4294967296 ^ m := Int.pow_pos (by decide); omega)
  rw [Int.one_mul] at h5
  omega

theorem dig_appendb {a b : List Int} (ha : Dig a) (hb : Dig b) : Dig (a ++ b) := fun j => by
  by_cases h : j < a.length
  · have := ha j
    rwa [show (a ++ b).getD j 0 = a.getD j 0 by simp [List.getD, List.getElem?_append_left h]]
  · have := hb (j - a.length)
    rwa [show (a ++ b).getD j 0 = b.getD (j - a.length) 0 by simp [List.getD, List.getElem?_append_right (by omega : a.length ≤ j)]]
theorem pow32_mono {a b : Nat} (h : a ≤ b) : (4294967296 : Int) ^ a ≤ 4294967296 ^ b := by
  obtain ⟨d, rfl⟩ : ∃ d, b = a + d := ⟨b - a, by omega⟩
  rw [Int.pow_add]
  have := Int.mul_le_mul_of_nonneg_left (by have := pow32_pos d; omega : (1 : Int) ≤ 4294967296 ^ d) (by have := pow32_pos a; omega : (0 : Int) ≤ 4294967296 ^ a)
  rwa [Int.mul_one] at this
/-- The canonical number that is not the greater one is not the longer one. -/
theorem len_le_of_valb {xs ys : List Int} (dx : Dig xs) (dy : Dig ys) (cx : Canon xs) (h : val xs ≤ val ys) : xs.length ≤ ys.length := by
  rcases Nat.lt_or_ge ys.length xs.length with h1 | h1
  · have := val_len_ltb dy dx cx h1
    omega
  · exact h1

theorem canon_geb {xs : List Int} {k : Nat} (dx : Dig xs) (cx : Canon xs) (h1 : xs.length = k + 1) : 4294967296 ^ k ≤ val xs := by
  have h2 := cx k h1
  have h3 := dx k
  have h4 := val_top1b h1
  have h5 := val_nonneg (dig_takeb dx k)
  have h6 := Int.mul_le_mul_of_nonneg_right (by omega : 1 ≤ xs.getD k 0) (by have := pow32_pos k; omega : (0 : Int) ≤ 4294967296 ^ k)
  omega
/-- The length of a canonical number by its value. -/
theorem len_of_ltb {xs : List Int} {k : Nat} (dx : Dig xs) (cx : Canon xs) (h : val xs < 4294967296 ^ k) : xs.length ≤ k := by
  rcases Nat.lt_or_ge k xs.length with h1 | h1
  · obtain ⟨m, hm⟩ : ∃ m, xs.length = m + 1 := ⟨xs.length - 1, by omega⟩
    have h2 := canon_geb dx cx hm
    have h3 := pow32_mono (by omega : k ≤ m)
    omega
  · exact h1
theorem val_dropb : ∀ (xs : List Int) (k : Nat), k < xs.length → val (xs.drop k) = xs.getD k 0 + 4294967296 * val (xs.drop (k + 1))
  | [], k, h => by simp at h
  | x :: l, 0, h => by simp [val]
  | x :: l, k + 1, h => by
    have := val_dropb l k (by simpa using h)
    simpa using this
/-- small between two rounds. -/
structure Smb (xs : List Int) (B : Int) (k : Nat) (os : List Int) (r : Int) : Prop where
  len : os.length = xs.length
  dig : Dig os
  r0 : 0 ≤ r ∧ r < B
  eq : val (xs.drop k) = B * val (os.drop k) + r
theorem Smb.zero (xs : List Int) {B : Int} (hB : 0 < B) : Smb xs B xs.length (List.replicate xs.length 0) 0 := by
  refine ⟨by simp, fun j => ?_, ⟨by decide, hB⟩, ?_⟩
  · have : (List.replicate xs.length (0 : Int)).getD j 0 = 0 := by
      simp only [List.getD_eq_getElem?_getD, List.getElem?_replicate]
      split <;> rfl
    rw [this]
    omega
  · rw [List.drop_length, List.drop_of_length_le (by simp)]
    simp [val]
theorem Smb.step {xs os : List Int} {B r S : Int} {k : Nat} (h : Smb xs B (k + 1) os r) (hk : k < xs.length) (dx : Dig xs) (hS : S = r * 4294967296 + xs.getD k 0) : Smb xs B k (os.set k (S / B)) (S % B) := by
  have hr := h.r0
  have hB : 0 < B := by omega
  have hx := dx k
  have hS0 : 0 ≤ S := by omega
  have hd0 := Int.ediv_nonneg hS0 (by omega : 0 ≤ B)
  have hd1 : S / B < 4294967296 := Int.ediv_lt_of_lt_mul hB (by omega)
  refine ⟨by simp [h.len], dig_set h.dig (by omega), ⟨Int.emod_nonneg _ (by omega), Int.emod_lt_of_pos _ hB⟩, ?_⟩
  have hdm := Int.emod_add_mul_ediv S B
  have he := h.eq
  rw [val_dropb xs k hk, val_dropb (os.set k (S / B)) k (by simp [h.len, hk]), getD_set_self (by rw [h.len]; exact hk), drop_set_same, he, Int.mul_add, Int.mul_add, ← Int.mul_assoc, ← Int.mul_assoc, Int.mul_comm 4294967296 B]
  omega

/-- The division between two rounds. -/
structure Dvb (u0 vs : List Int) (k : Nat) (us q : List Int) : Prop where
  len : us.length = u0.length
  dig : Dig us
  qlen : q.length + vs.length = u0.length
  qdig : Dig q
  qz : ∀ i, i < k → q.getD i 0 = 0
  eq : val us + val vs * val q = val u0
  top : val (us.drop k) < val vs
theorem Dvb.window {u0 vs us q : List Int} {k : Nat} (h : Dvb u0 vs (k + 1) us q) (hk : k < q.length) (dv : Dig vs) :
    val us = val (us.take k) + 4294967296 ^ k * val ((us.drop k).take (vs.length + 1)) ∧ val (us.drop (k + (vs.length + 1))) = 0 ∧ val ((us.drop k).take (vs.length + 1)) < val vs * 4294967296 := by
  have hq := h.qlen
  have hl := h.len
  have h1 := val_dropb us k (by omega)
  have h2 := (h.dig k)
  have h3 := h.top
  have hsplit : us.drop k = (us.drop k).take (vs.length + 1) ++ us.drop (k + (vs.length + 1)) := by
    rw [← List.drop_drop]
    exact (List.take_append_drop _ _).symm
  have hw : ((us.drop k).take (vs.length + 1)).length = vs.length + 1 := by rw [List.length_take, List.length_drop]; omega
  have h4 : val (us.drop k) = val ((us.drop k).take (vs.length + 1)) + 4294967296 ^ (vs.length + 1) * val (us.drop (k + (vs.length + 1))) := by
    conv => lhs; rw [hsplit]
    rw [val_append, hw]
  have c0 := val_nonneg (dig_dropb h.dig (k + (vs.length + 1)))
  have w0 := val_nonneg (dig_takeb (dig_dropb h.dig k) (vs.length + 1))
  have hv := val_ltb dv
  have hz : val (us.drop (k + (vs.length + 1))) = 0 := by
    refine mul_zero_of (pow32_pos (vs.length + 1)) c0 (v := val (us.drop k)) (by omega) ?_
    rw [Int.pow_succ]
    omega
  have h5 : val us = val (us.take k) + 4294967296 ^ k * val (us.drop k) := by
    conv => lhs; rw [← List.take_append_drop k us]
    rw [val_append, List.length_take, Nat.min_eq_left (by omega)]
  rw [hz, Int.mul_zero, Int.add_zero] at h4
  exact ⟨by rw [h5, h4], hz, by omega⟩
theorem Dvb.step {u0 vs us q W : List Int} {k : Nat} (h : Dvb u0 vs (k + 1) us q) (hk : k < q.length) (dv : Dig vs) (hv : 0 < val vs) (hW : W.length = vs.length + 1) (dW : Dig W)
    (hval : val W = val ((us.drop k).take (vs.length + 1)) % val vs) :
    Dvb u0 vs k (us.take k ++ W ++ us.drop (k + (vs.length + 1))) (q.set k (val ((us.drop k).take (vs.length + 1)) / val vs)) := by
  obtain ⟨h1, h2, h3⟩ := h.window hk dv
  have hq := h.qlen
  have hl := h.len
  have w0 := val_nonneg (dig_takeb (dig_dropb h.dig k) (vs.length + 1))
  generalize hX : val ((us.drop k).take (vs.length + 1)) = X at *
  have hd0 : 0 ≤ X / val vs := Int.ediv_nonneg w0 (by omega)
  have hd1 : X / val vs < 4294967296 := Int.ediv_lt_of_lt_mul hv (by rwa [Int.mul_comm] at h3)
  have hdm := Int.emod_add_mul_ediv X (val vs)
  have hml := Int.emod_lt_of_pos X hv
  have htl : (us.take k).length = k := by rw [List.length_take, Nat.min_eq_left (by omega)]
  have hqs := val_set q k (X / val vs) hk
  rw [h.qz k (by omega), Int.sub_zero] at hqs
  refine ⟨?_, dig_appendb (dig_appendb (dig_takeb h.dig k) dW) (dig_dropb h.dig _), by simpa using hq, dig_set h.qdig ⟨hd0, by omega⟩, fun i hi => ?_, ?_, ?_⟩
  · rw [List.length_append, List.length_append, htl, hW, List.length_drop]
    omega
  · rw [getD_set_ne (by omega)]
    exact h.qz i (by omega)
  · have he := h.eq
    rw [List.append_assoc, val_append, val_append, h2, Int.mul_zero, Int.add_zero, htl, hval, hqs, ← he, h1, Int.mul_add]
    have e1 : 4294967296 ^ k * X = 4294967296 ^ k * (X % val vs) + val vs * (X / val vs * 4294967296 ^ k) := by
      have : val vs * (X / val vs * 4294967296 ^ k) = 4294967296 ^ k * (val vs * (X / val vs)) := by
        rw [← Int.mul_assoc, Int.mul_comm]
      rw [this, ← Int.mul_add, hdm]
    omega
  · rw [List.append_assoc, List.drop_append_of_le_length (by omega), List.drop_of_length_le (by omega), List.nil_append, val_append, h2, Int.mul_zero, Int.add_zero, hval]
    exact hml
theorem Dvb.zero {u0 vs : List Int} {Lq : Nat} (hL : Lq + vs.length = u0.length) (du : Dig u0) (ht : val (u0.drop Lq) < val vs) : Dvb u0 vs Lq u0 (List.replicate Lq 0) := by
  have hg : ∀ j, (List.replicate Lq (0 : Int)).getD j 0 = 0 := fun j => by
    simp only [List.getD_eq_getElem?_getD, List.getElem?_replicate]
    split <;> rfl
  refine ⟨rfl, du, by simpa using hL, fun j => by rw [hg]; omega, fun i _ => hg i, ?_, ht⟩
  have hv : ∀ n : Nat, val (List.replicate n 0) = 0 := by
    intro n
    induction n with
    | zero => rfl
    | succ n ih => simp [List.replicate_succ, val, ih]
  rw [hv, Int.mul_zero, Int.add_zero]
theorem Dvb.done {u0 vs us q : List Int} (h : Dvb u0 vs 0 us q) (hv : 0 < val vs) (dv : Dig vs) (hl : vs.length ≤ us.length) : val q = val u0 / val vs ∧ val (us.take vs.length) = val u0 % val vs := by
  have ht := h.top
  have he := h.eq
  rw [List.drop_zero] at ht
  have h0 := val_nonneg h.dig
  have hs : val us = val (us.take vs.length) + 4294967296 ^ vs.length * val (us.drop vs.length) := by
    conv => lhs; rw [← List.take_append_drop vs.length us]
    rw [val_append, List.length_take, Nat.min_eq_left hl]
  have hz : val (us.drop vs.length) = 0 := by
    refine mul_zero_of (pow32_pos vs.length) (val_nonneg (dig_dropb h.dig _)) (v := val us) ?_ ?_
    · have := val_nonneg (dig_takeb h.dig vs.length)
      omega
    · have := val_ltb dv
      omega
  rw [hz, Int.mul_zero, Int.add_zero] at hs
  rw [← he, ← hs]
  refine ⟨?_, ?_⟩
  · rw [Int.add_mul_ediv_left _ _ (by omega), Int.ediv_eq_zero_of_lt h0 ht, Int.zero_add]
  · rw [Int.add_mul_emod_self_left, Int.emod_eq_of_lt h0 ht]
/-- NatShl between two rounds. -/
structure Shb (xs : List Int) (s k : Nat) (out : List Int) (cy : Int) : Prop where
  len : out.length = k
  dig : Dig out
  c : 0 ≤ cy ∧ cy < 2 ^ s
  eq : val out + cy * 4294967296 ^ k = val (xs.take k) * 2 ^ s
theorem Shb.zero (xs : List Int) (s : Nat) : Shb xs s 0 [] 0 := ⟨rfl, fun j => by simp [List.getD], ⟨by decide, two_pos s⟩, by simp [val]⟩
theorem Shb.step {xs out : List Int} {s k : Nat} {cy S : Int} (h : Shb xs s k out cy) (dx : Dig xs) (hS : S = xs.getD k 0 * 2 ^ s + cy) : Shb xs s (k + 1) (out ++ [S % 4294967296]) (S / 4294967296) := by
  have hd := dx k
  have hc := h.c
  have hp := two_pos s
  have h0 : 0 ≤ xs.getD k 0 * 2 ^ s := Int.mul_nonneg hd.1 (by omega)
  have h1 : xs.getD k 0 * 2 ^ s ≤ 4294967295 * 2 ^ s := Int.mul_le_mul_of_nonneg_right hd.2 (by omega)
  refine ⟨by simp [h.len], dig_snocb h.dig (by omega), by omega, ?_⟩
  have he := h.eq
  rw [val_snocb, val_takeb, h.len, Int.pow_succ, Int.add_mul]
  have e : S * 4294967296 ^ k = S % 4294967296 * 4294967296 ^ k + S / 4294967296 * (4294967296 ^ k * 4294967296) := by
    have h1 : S = S % 4294967296 + 4294967296 * (S / 4294967296) := by omega
    generalize (4294967296 : Int) ^ k = p
    calc S * p = (S % 4294967296 + 4294967296 * (S / 4294967296)) * p := by rw [← h1]
      _ = _ := by rw [Int.add_mul, Int.mul_comm 4294967296, Int.mul_assoc, Int.mul_comm 4294967296 p]
  have e2 : S * 4294967296 ^ k = xs.getD k 0 * 4294967296 ^ k * 2 ^ s + cy * 4294967296 ^ k := by
    rw [hS, Int.add_mul, Int.mul_assoc, Int.mul_comm (2 ^ s), ← Int.mul_assoc]
  omega
/-- One digit of a number shifted to the right. -/
def srdb (x y : Int) (s : Nat) : Int := (x + y * 4294967296) / 2 ^ s % 4294967296
theorem srdb_eq {x y : Int} {s : Nat} (hx : 0 ≤ x ∧ x ≤ 4294967295) (hy : 0 ≤ y ∧ y ≤ 4294967295) (hs : s ≤ 31) : srdb x y s * 2 ^ s = x - x % 2 ^ s + y % 2 ^ s * 4294967296 := by
  unfold srdb
  rcases (by omega : s = 0 ∨ s = 1 ∨ s = 2 ∨ s = 3 ∨ s = 4 ∨ s = 5 ∨ s = 6 ∨ s = 7 ∨ s = 8 ∨ s = 9 ∨ s = 10 ∨ s = 11 ∨ s = 12 ∨ s = 13 ∨ s = 14 ∨ s = 15 ∨ s = 16 ∨ s = 17 ∨ s = 18 ∨ s = 19 ∨ s = 20 ∨ s = 21 ∨ s = 22 ∨ s = 23 ∨ s = 24 ∨ s = 25 ∨ s = 26 ∨ s = 27 ∨ s = 28 ∨ s = 29 ∨ s = 30 ∨ s = 31) with rfl | rfl | rfl | rfl | rfl | rfl | rfl | rfl | rfl | rfl | rfl | rfl | rfl | rfl | rfl | rfl | rfl | rfl | rfl | rfl | rfl | rfl | rfl | rfl | rfl | rfl | rfl | rfl | rfl | rfl | rfl | rfl <;> omega

/-- NatShr between two rounds. -/
structure Srb (xs : List Int) (s k : Nat) (out : List Int) : Prop where
  len : out.length = k
  dig : Dig out
  eq : val out * 2 ^ s = val (xs.take k) - xs.getD 0 0 % 2 ^ s + xs.getD k 0 % 2 ^ s * 4294967296 ^ k
theorem Srb.zero (xs : List Int) (s : Nat) : Srb xs s 0 [] := ⟨rfl, fun j => by simp [List.getD], by simp [val]; exact (Int.add_left_neg _).symm⟩
theorem Srb.step {xs out : List Int} {s k : Nat} (h : Srb xs s k out) (dx : Dig xs) (hs : s ≤ 31) : Srb xs s (k + 1) (out ++ [srdb (xs.getD k 0) (xs.getD (k + 1) 0) s]) := by
  have he := h.eq
  have h1 := srdb_eq (dx k) (dx (k + 1)) hs
  refine ⟨by simp [h.len], dig_snocb h.dig (by unfold srdb; omega), ?_⟩
  rw [val_snocb, val_takeb, h.len, Int.pow_succ, Int.add_mul, he, Int.mul_assoc, Int.mul_comm (4294967296 ^ k) (2 ^ s), ← Int.mul_assoc, h1, Int.add_mul, Int.sub_mul]
  have e : xs.getD (k + 1) 0 % 2 ^ s * 4294967296 * 4294967296 ^ k = xs.getD (k + 1) 0 % 2 ^ s * (4294967296 ^ k * 4294967296) := by rw [Int.mul_assoc, Int.mul_comm 4294967296]
  omega
theorem Srb.done {xs out : List Int} {s : Nat} (h : Srb xs s xs.length out) (dx : Dig xs) (hs : s ≤ 31) : val out = val xs / 2 ^ s := by
  have he := h.eq
  have hz : xs.getD xs.length 0 = 0 := by simp [List.getD]
  rw [List.take_length, hz, Int.zero_emod, Int.zero_mul, Int.add_zero] at he
  have hp := two_pos s
  have h2 : val xs % 2 ^ s = xs.getD 0 0 % 2 ^ s := by
    match xs with
    | [] => rfl
    | x :: r =>
      show (x + 4294967296 * val r) % 2 ^ s = x % 2 ^ s
      obtain ⟨d, hd⟩ : ∃ d, 32 = s + d := ⟨32 - s, by omega⟩
      have : (4294967296 : Int) = 2 ^ s * 2 ^ d := by rw [← Int.pow_add, ← hd]; decide
      rw [this, Int.mul_assoc, Int.add_mul_emod_self_left]
  rw [← h2] at he
  have h3 := Int.emod_add_mul_ediv (val xs) (2 ^ s)
  have h4 : val out * 2 ^ s = val xs / 2 ^ s * 2 ^ s := by rw [he, Int.mul_comm (val xs / 2 ^ s)]; omega
  exact Int.eq_of_mul_eq_mul_right (by omega) h4

end Go.Proofs.YtaonejnicgbifaaGreatDoor
