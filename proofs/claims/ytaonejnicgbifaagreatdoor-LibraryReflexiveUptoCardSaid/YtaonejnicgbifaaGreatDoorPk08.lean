import Derived.Deep.CutBlock
import Derived.Deep.CutRange
import Derived.Outline
import Derived.Test.YtaonejnicgbifaaGreatDoorPk07
namespace Go.Proofs.YtaonejnicgbifaaGreatDoor
open Go Go.RowKit

/-- A slice of words that lie in no cell of this block. -/
def SlN (g : Nat) (w : World) (v : Value) (xs : List Int) : Prop :=
  Dig xs ∧ xs.length ≤ 549755813888 ∧ ∃ q cap, v = .slice q xs.length cap ∧ xs.length ≤ cap ∧ (xs = [] ∨ ∃ b o, q = some ⟨b, o, none⟩ ∧ b < w.heap.size ∧ b ≠ g ∧ ∀ i, i < xs.length → w.cell? ⟨b, o + i, none⟩ = some (.int .u32 (xs.getD i 0)))
theorem SlN.sl {g : Nat} {w : World} {v : Value} {xs : List Int} (h : SlN g w v xs) : Sl w v xs := by
  obtain ⟨h1, h2, q, cap, h3, h4, h5⟩ := h
  refine ⟨h1, h2, q, cap, h3, h4, h5.imp id ?_⟩
  rintro ⟨b, o, e, hlt, _, hc⟩
  exact ⟨b, o, e, hlt, hc⟩
/-- What lay there before the block was made. -/
theorem Sl.ne {w : World} {v : Value} {xs : List Int} (h : Sl w v xs) {w' : World} {g : Nat} (hb : Below w.heap.size w w') (hg : w.heap.size ≤ g) : SlN g w' v xs := by
  obtain ⟨h1, h2, q, cap, h3, h4, h5⟩ := h
  refine ⟨h1, h2, q, cap, h3, h4, h5.imp id ?_⟩
  rintro ⟨b, o, e, hlt, hc⟩
  exact ⟨b, o, e, Nat.lt_of_lt_of_le hlt hb.size, by omega, fun i hi => (hb.cell (by exact hlt)).trans (hc i hi)⟩
theorem SlN.sav {g : Nat} {w w' : World} {v : Value} {xs : List Int} (h : SlN g w v xs) (hs : Sav g w w') : SlN g w' v xs := by
  obtain ⟨h1, h2, q, cap, h3, h4, h5⟩ := h
  refine ⟨h1, h2, q, cap, h3, h4, h5.imp id ?_⟩
  rintro ⟨b, o, e, hlt, hne, hc⟩
  exact ⟨b, o, e, Nat.lt_of_lt_of_le hlt hs.size, hne, fun i hi => (hs.cell hlt hne).trans (hc i hi)⟩

/-- A difference of words that is reckoned modulo 2^64. -/
theorem sub64 {U L b : Int} (hU : 0 ≤ U ∧ U ≤ 4294967295) (hL : 0 ≤ L ∧ L ≤ 4294967295) (hb : b = 0 ∨ b = 1) :
    ((U - L) % 18446744073709551616 - b) % 18446744073709551616 % 4294967296 = (U - L - b) % 4294967296 ∧ ((U - L) % 18446744073709551616 - b) % 18446744073709551616 / 9223372036854775808 = (if U - L - b < 0 then 1 else 0) := by
  rcases hb with rfl | rfl
  · refine ⟨by omega, ?_⟩
    split <;> omega
  · refine ⟨by omega, ?_⟩
    split <;> omega

/-- All that is known of a digit's window and its divisor, ahead of the walk. -/
structure DgF (us vs : List Int) (m : Nat) (Q : Int) : Prop where
  du : Dig us
  dv : Dig vs
  hu : us.length = m + 3
  hv : vs.length = m + 2
  ht : 0 < vs.getD (m + 1) 0
  hq : val us < val vs * 4294967296
  q : val us / val vs = Q
theorem DgF.facts {us vs : List Int} {m : Nat} {Q : Int} (h : DgF us vs m Q) : 0 < val vs ∧ 0 ≤ Q ∧ Q ≤ 4294967295 ∧ val us % val vs = val us - Q * val vs ∧ 0 ≤ val us % val vs ∧ val us % val vs < val vs := by
  have vp := valv_pos h.dv h.hv h.ht
  have u0 := val_nonneg h.du
  have h1 : 0 ≤ val us / val vs := Int.ediv_nonneg u0 (by omega)
  have h2 : val us / val vs < 4294967296 := Int.ediv_lt_of_lt_mul vp (by have := h.hq; rwa [Int.mul_comm] at this)
  have h3 := Int.emod_add_mul_ediv (val us) (val vs)
  have h4 := Int.emod_nonneg (val us) (by omega : val vs ≠ 0)
  have h5 := Int.emod_lt_of_pos (val us) vp
  rw [h.q] at h1 h2 h3
  rw [Int.mul_comm] at h3
  exact ⟨vp, h1, by omega, by omega, h4, h5⟩
theorem Gs.downF {us vs : List Int} {m : Nat} {G R Q V : Int} (h : Gs us vs m G R) (f : DgF us vs m Q) (hV : vs.getD (m + 1) 0 = V) (hgt : 4294967296 ≤ G ∨ R * 4294967296 + us.getD m 0 < G * vs.getD m 0) : Gs us vs m (G - 1) (R + V) ∧ 1 ≤ G := by
  have := h.down f.du f.dv f.hu f.hv f.ht f.hq hgt
  rwa [hV] at this
theorem Gs.goodF {us vs : List Int} {m : Nat} {G R Q : Int} (h : Gs us vs m G R) (f : DgF us vs m Q) (h1 : G < 4294967296) (h2 : G * vs.getD m 0 ≤ R * 4294967296 + us.getD m 0) : Q ≤ G ∧ G ≤ Q + 1 := by
  have h3 := h.good f.du f.dv f.hu f.hv f.ht h1 h2
  have h4 := h.ge
  rw [f.q] at h3 h4
  exact ⟨h4, h3⟩
theorem Gs.bigF {us vs : List Int} {m : Nat} {G R Q : Int} (h : Gs us vs m G R) (f : DgF us vs m Q) (hR : 4294967296 ≤ R) : G < 4294967296 ∧ Q ≤ G ∧ G ≤ Q + 1 := by
  have h1 := h.big f.du f.dv f.hu f.hv f.ht f.hq hR
  exact ⟨h1.1, h.goodF f h1.1 h1.2⟩

set_option maxRecDepth 100000 in
set_option maxHeartbeats 4000000 in
/-- word.digit: one digit of the quotient; the rest is left in the window. -/
theorem digit32_ok {w : World} {g j cap m : Nat} {A us C vs : List Int} {v : Value} (hA : A.length = j) (hu : us.length = m + 3) (hv : vs.length = m + 2) (hblk : BlkP w g (A ++ us ++ C)) (du : Dig us) (hvs : SlN g w v vs)
    (ht : 0 < vs.getD (m + 1) 0) (hq : val us < val vs * 4294967296) (hcap : m + 3 ≤ cap) (hm : m + 3 ≤ 274877906944) (hj : j ≤ 549755813888) :
    Calls Tryz.prog 196 #[.slice (some ⟨g, j, none⟩) (m + 3) cap, v] w fun e w' => ∃ us', e = .returned (.int .u32 (val us / val vs)) ∧ us'.length = m + 3 ∧ Dig us' ∧ val us' = val us % val vs ∧ BlkP w' g (A ++ us' ++ C) ∧ Sav g w w' := by
  obtain ⟨Q, hQ⟩ : ∃ Q, val us / val vs = Q := ⟨_, rfl⟩
  rw [hQ]
  have hF : Hid (DgF us vs m Q) := ⟨du, hvs.1, hu, hv, ht, hq, hQ⟩
  have hgs : Hid (Gs us vs m ((us.getD (m + 2) 0 * 4294967296 + us.getD (m + 1) 0) / vs.getD (m + 1) 0) ((us.getD (m + 2) 0 * 4294967296 + us.getD (m + 1) 0) % vs.getD (m + 1) 0)) := Gs.zero du hvs.1 hu hv ht
  have hU2 := du (m + 2)
  have hU1 := du (m + 1)
  have hU0 := du m
  have hV1 := hvs.1 (m + 1)
  have hV2 := hvs.1 m
  have hgt := hblk.lt
  have cell : ∀ i, i < m + 3 → w.cell? ⟨g, j + i, none⟩ = some (.int .u32 (us.getD i 0)) := by
    intro i hi
    have := hblk.cell (j := A.length + i) (by simp; omega)
    rwa [getD_mid (by omega), hA] at this
  obtain ⟨_, _, q2, cap2, rfl, hc2, hx⟩ := hvs
  rcases hx with hx | ⟨b, o, rfl, hb, hbg, hcv⟩
  · simp [hx] at hv
  have cu2 := cell (m + 2) (by omega)
  have cu1 := cell (m + 1) (by omega)
  have cu0 := cell m (by omega)
  have cv1 := hcv (m + 1) (by omega)
  have cv0 := hcv m (by omega)
  have hcv' : Hid (∀ i, i < m + 2 → w.cell? ⟨b, o + i, none⟩ = some (.int .u32 (vs.getD i 0))) := fun i hi => hcv i (by omega)
  have hblk' : Hid (BlkP w g (A ++ us ++ C)) := hblk
  have hA' : Hid (A.length = j) := hA
  rw [hv] at hc2 ⊢
  have eV : Hid (vs.getD (m + 1) 0 = vs.getD (m + 1) 0) := rfl
  obtain ⟨V, hV⟩ : ∃ V, Hid (vs.getD (m + 1) 0 = V) := ⟨_, rfl⟩
  obtain ⟨V2, hVV⟩ : ∃ V2, Hid (vs.getD m 0 = V2) := ⟨_, rfl⟩
  obtain ⟨U2, hUU2⟩ : ∃ U2, Hid (us.getD (m + 2) 0 = U2) := ⟨_, rfl⟩
  obtain ⟨U1, hUU1⟩ : ∃ U1, Hid (us.getD (m + 1) 0 = U1) := ⟨_, rfl⟩
  obtain ⟨U0, hUU0⟩ : ∃ U0, Hid (us.getD m 0 = U0) := ⟨_, rfl⟩
  rw [hV.out] at cv1 hV1 hgs ht
  rw [hVV.out] at cv0 hV2
  rw [hUU2.out] at cu2 hU2 hgs
  rw [hUU1.out] at cu1 hU1 hgs
  rw [hUU0.out] at cu0 hU0
  have hor := (or_hi hU2 hU1).1
  obtain ⟨T, hT⟩ : ∃ T, U2 * 4294967296 + U1 = T := ⟨_, rfl⟩
  rw [hT] at hor hgs
  have hT0 : 0 ≤ T := by omega
  have hT1 : T ≤ 18446744073709551615 := by omega
  clear hT du hu hv hcv hblk hA cell hq hQ eV
  go_enter Tryz.func196, Tryz.ntmps196
  go_wp2
  go_quiet (fail)
  have cv1' : (w.drewN nq).cell? ⟨b, o + (m + 1), none⟩ = some (.int .u32 V) := cv1
  have cv0' : (w.drewN nq).cell? ⟨b, o + m, none⟩ = some (.int .u32 V2) := cv0
  have cu0' : (w.drewN nq).cell? ⟨g, j + m, none⟩ = some (.int .u32 U0) := cu0
  have hB1 : Below w.heap.size w (w.drewN nq) := below_draws (Below.refl _ _) _
  generalize w.drewN nq = wz at cv1' cv0' cu0' hB1 ⊢
  clear cv1 cv0 cu0 cu1 cu2
  go_wp2
  go_quiet (fail)
  have cv1 : (wz.drewN nq).cell? ⟨b, o + (m + 1), none⟩ = some (.int .u32 V) := cv1'
  have cv0 : (wz.drewN nq).cell? ⟨b, o + m, none⟩ = some (.int .u32 V2) := cv0'
  have cu0 : (wz.drewN nq).cell? ⟨g, j + m, none⟩ = some (.int .u32 U0) := cu0'
  have hB2 : Below w.heap.size w (wz.drewN nq) := below_draws hB1 _
  generalize wz.drewN nq = wy at cv1 cv0 cu0 hB2 ⊢
  clear cv1' cv0' cu0' hB1
  have hTV0 : 0 ≤ T / V := Int.ediv_nonneg hT0 (by omega)
  have hTV1 : T / V ≤ T := Int.ediv_le_self _ hT0
  have hTm0 : 0 ≤ T % V := Int.emod_nonneg _ (by omega)
  have hTm1 : T % V < V := Int.emod_lt_of_pos _ (by omega)
  go_upto_block 0 with fail
  go_cut [7] from 50 to 85 (fun v7 wx => ∃ G : Int, v7 = .int .u64 G ∧ 0 ≤ G ∧ G ≤ 4294967295 ∧ Q ≤ G ∧ G ≤ Q + 1 ∧ Below w.heap.size w wx)
  case first =>
    go_wp2_with fail
    go_loopw [7, 8] (fun t7 t8 wr => ∃ G R : Int, t7 = .int .u64 G ∧ t8 = .int .u64 R ∧ Hid (Gs us vs m G R) ∧ 0 ≤ G ∧ G ≤ 18446744073709551615 ∧ 0 ≤ R ∧ R ≤ 4294967295 ∧ Below wy.heap.size wy wr) (fun t7 _ _ => (intOf t7).toNat)
    case atStart => exact ⟨T / V, T % V, rfl, rfl, hgs, hTV0, by omega, hTm0, by omega, Below.refl _ _⟩
    case round =>
      obtain ⟨G, R, rfl, rfl, hg, hG0, hG1, hR0, hR1, hbw⟩ := hrel
      have hsz := hbw.size
      have hbB : b < wy.heap.size := Nat.lt_of_lt_of_le hb hB2.size
      have hgB : g < wy.heap.size := Nat.lt_of_lt_of_le hgt hB2.size
      have c1 : wr.cell? ⟨b, o + (m + 1), none⟩ = some (.int .u32 V) := (hbw.cell (by exact hbB)).trans cv1
      have c0 : wr.cell? ⟨b, o + m, none⟩ = some (.int .u32 V2) := (hbw.cell (by exact hbB)).trans cv0
      have cu : wr.cell? ⟨g, j + m, none⟩ = some (.int .u32 U0) := (hbw.cell (by exact hgB)).trans cu0
      have hW : Below w.heap.size w wr := hB2.trans (hbw.mono hB2.size)
      clear cv1 cv0 cu0
      by_cases hbig : 4294967296 ≤ G
      · have hd := hg.out.downF hF.out hV.out (.inl hbig)
        have hd' : Hid (Gs us vs m (G - 1) (R + V)) := hd.1
        have hG2 := hd.2
        have hdiv : (G / 4294967296 != 0) = true := by simp; omega
        clear hd
        go_wp2
        go_quiet (fail)
        have c1' : (wr.drewN nq).cell? ⟨b, o + (m + 1), none⟩ = some (.int .u32 V) := c1
        have hbw' : Below wy.heap.size wy (wr.drewN nq) := below_draws hbw _
        have hW' : Below w.heap.size w (wr.drewN nq) := below_draws hW _
        generalize wr.drewN nq = wx at c1' hbw' hW' ⊢
        clear c1 c0 cu hbw hW
        by_cases hR : 4294967296 ≤ R + V
        · have hbf := hd'.out.bigF hF.out hR
          have hdR : 1 ≤ (R + V) / 4294967296 := by omega
          go_wp2
          go_meet
          case rel => exact ⟨G - 1, by go_num, by omega, by omega, hbf.2.1, hbf.2.2, hW'⟩
        · have hdR : (R + V) / 4294967296 = 0 := by omega
          go_wp2
          go_roundw
          case rel => exact ⟨G - 1, R + V, by go_num, by go_num, hd', by omega, by omega, by omega, by omega, hbw'⟩
          case measure => simp [intOf]; omega
      · have hor2 := (or_hi ⟨hR0, hR1⟩ hU0).1
        have hml := mul_bound (a := G) (b := V2) ⟨hG0, by omega⟩ hV2
        obtain ⟨P, hP⟩ : ∃ P, G * V2 = P := ⟨_, rfl⟩
        obtain ⟨S, hS⟩ : ∃ S, R * 4294967296 + U0 = S := ⟨_, rfl⟩
        have hS0 : 0 ≤ S ∧ S ≤ 18446744073709551615 := by omega
        rw [hS] at hor2
        rw [hP] at hml
        have hdiv : (G / 4294967296 != 0) = false := by simp; omega
        by_cases hgt2 : S < P
        · have hd := hg.out.downF hF.out hV.out (.inr (by rw [hVV.out, hUU0.out, hP, hS]; exact hgt2))
          have hd' : Hid (Gs us vs m (G - 1) (R + V)) := hd.1
          have hG2 := hd.2
          have hgt3 : P > S := hgt2
          have hSH : Hid (R * 4294967296 + U0 = S) := hS
          clear hd hS
          go_wp2
          go_quiet (fail)
          have c1' : (wr.drewN nq).cell? ⟨b, o + (m + 1), none⟩ = some (.int .u32 V) := c1
          have hbw' : Below wy.heap.size wy (wr.drewN nq) := below_draws hbw _
          have hW' : Below w.heap.size w (wr.drewN nq) := below_draws hW _
          generalize wr.drewN nq = wx at c1' hbw' hW' ⊢
          clear c1 c0 cu hbw hW
          by_cases hR : 4294967296 ≤ R + V
          · have hbf := hd'.out.bigF hF.out hR
            have hdR : 1 ≤ (R + V) / 4294967296 := by omega
            go_wp2
            go_meet
            case rel => exact ⟨G - 1, by go_num, by omega, by omega, hbf.2.1, hbf.2.2, hW'⟩
          · have hdR : (R + V) / 4294967296 = 0 := by omega
            go_wp2
            go_roundw
            case rel => first | exact ⟨by omega, by omega, by omega⟩ | exact ⟨G - 1, R + V, by go_num, by go_num, hd', by omega, by omega, by omega, by omega, hbw'⟩
            case measure => simp [intOf]; omega
        · have hgd := hg.out.goodF hF.out (by omega) (by rw [hVV.out, hUU0.out, hP, hS]; omega)
          have hgt3 : ¬ P > S := hgt2
          have hSH : Hid (R * 4294967296 + U0 = S) := hS
          clear hS
          go_wp2
          go_quiet (fail)
          have hW' : Below w.heap.size w (wr.drewN nq) := below_draws hW _
          generalize wr.drewN nq = wx at hW' ⊢
          clear c1 c0 cu hbw hW
          go_wp2
          go_meet
          case rel => exact ⟨G, rfl, hG0, by omega, hgd.1, hgd.2, hW'⟩
  case rest =>
    obtain ⟨G, rfl, hG0, hG1, hGQ0, hGQ1, hW⟩ := hcut
    have hS1 : Sav g w wc := Sav.of hW
    have hK1 : BlkP wc g (A ++ us ++ C) := hblk'.out.below hW
    clear hW hB2 cv1 cv0 cu0 hgs hor hTV0 hTV1 hTm0 hTm1 hT0 hT1
    go_wp2
    go_loopw [9, 10, 88] (fun t9 t10 t88 wr => ∃ (i : Nat) (cur : List Int) (c bo : Int), i ≤ m + 2 ∧ t88 = .int .i64 i ∧ t9 = .int .u64 bo ∧ t10 = .int .u64 c ∧ Hid (Mb us vs G i cur c bo) ∧ BlkP wr g (A ++ cur ++ C) ∧ Sav g w wr) (fun _ _ t88 _ => m + 2 - (intOf t88).toNat)
    case atStart => exact ⟨0, us, 0, 0, Nat.zero_le _, rfl, rfl, rfl, Mb.zero hF.out.du, hK1, hS1⟩
    case round =>
      clear hS1 hK1
      obtain ⟨i, cur, c, bo, hi, rfl, rfl, rfl, hmb, hbk, hsv⟩ := hrel
      have hc0 := hmb.out.c0
      have hb0 := hmb.out.b0
      have hfr := hbk.frozen (j + i)
      have hcu : wr.cell? ⟨g, j + i, none⟩ = some (.int .u32 (us.getD i 0)) := by
        have h1 := hbk.cell (j := A.length + i) (by have := hmb.out.len; have := hF.out.hu; simp; omega)
        rwa [getD_mid (by have := hmb.out.len; have := hF.out.hu; omega), hA'.out, hmb.out.rest i (Nat.le_refl _)] at h1
      by_cases hlt : i < m + 2
      · have hlt' : (i : Int) < (m : Int) + 2 := by omega
        have cy := hcv'.out i hlt
        have cy2 : wr.cell? ⟨b, o + i, none⟩ = some (.int .u32 (vs.getD i 0)) := (hsv.cell hb hbg).trans cy
        have hstep := fun S T hS hT => hmb.out.step (S := S) (T := T) hF.out.du hF.out.dv ⟨hG0, hG1⟩ (by have := hF.out.hu; omega) hS hT
        have hYb := hF.out.dv i
        have hUb := hF.out.du i
        have hset : Hid (∀ d, (A ++ cur ++ C).set (j + i) d = A ++ cur.set i d ++ C) := fun d => by
          have := set_mid A cur C i d (by have := hmb.out.len; have := hF.out.hu; omega)
          rwa [hA'.out] at this
        obtain ⟨Y, hY⟩ : ∃ Y, Hid (vs.getD i 0 = Y) := ⟨_, rfl⟩
        obtain ⟨U, hU⟩ : ∃ U, Hid (us.getD i 0 = U) := ⟨_, rfl⟩
        rw [hY.out] at cy2 hYb hstep
        rw [hU.out] at hcu hUb hstep
        have hcb := carry_bound ⟨hG0, hG1⟩ hYb hc0
        have hGY := mul_bound ⟨hG0, hG1⟩ hYb
        obtain ⟨GY, hGYe⟩ : ∃ GY, G * Y = GY := ⟨_, rfl⟩
        rw [hGYe] at hcb hstep hGY
        obtain ⟨S, hS⟩ : ∃ S, GY + c = S := ⟨_, rfl⟩
        rw [hS] at hcb hstep
        have hs64 := sub64 hUb (by omega : 0 ≤ S % 4294967296 ∧ S % 4294967296 ≤ 4294967295) hb0
        obtain ⟨L, hL⟩ : ∃ L, S % 4294967296 = L := ⟨_, rfl⟩
        have hLb : 0 ≤ L ∧ L ≤ 4294967295 := by omega
        have hstep2 := hstep S (U - S % 4294967296 - bo) rfl rfl
        rw [hL] at hs64 hstep2
        obtain ⟨M1, hM1⟩ : ∃ M1, (U - L) % 18446744073709551616 = M1 := ⟨_, rfl⟩
        rw [hM1] at hs64
        obtain ⟨M2, hM2⟩ : ∃ M2, (M1 - bo) % 18446744073709551616 = M2 := ⟨_, rfl⟩
        rw [hM2] at hs64
        have hM1w : IntKind.u64.wrap (U - L) = M1 := by rw [IntKind.wrap_u64]; exact hM1
        have hM2w : IntKind.u64.wrap (M1 - bo) = M2 := by rw [IntKind.wrap_u64]; exact hM2
        obtain ⟨s1, s2⟩ := hs64
        obtain ⟨Dd, hDd⟩ : ∃ Dd, (U - L - bo) % 4294967296 = Dd := ⟨_, rfl⟩
        obtain ⟨Bb, hBb⟩ : ∃ Bb : Int, (if U - L - bo < 0 then 1 else 0) = Bb := ⟨_, rfl⟩
        rw [hDd] at s1 hstep2
        rw [hBb] at s2 hstep2
        have hstep3 : Hid (Mb us vs G (i + 1) (cur.set i Dd) (S / 4294967296) Bb) := hstep2
        have hSd : 0 ≤ S / 4294967296 ∧ S / 4294967296 ≤ 4294967295 := by omega
        have hM1b : 0 ≤ M1 ∧ M1 ≤ 18446744073709551615 := by omega
        have hM2b : 0 ≤ M2 ∧ M2 ≤ 18446744073709551615 := by omega
        have hDdb : 0 ≤ Dd ∧ Dd ≤ 4294967295 := by omega
        have hx1 : Hid ((U - L - bo) % 4294967296 = Dd) := hDd
        clear hstep hstep2 hDd hBb cy hM1 hM2
        go_wp2
        go_roundw
        case rel =>
          have hbS := hbk.set (j + i) Dd
          rw [hset.out] at hbS
          exact ⟨i + 1, _, _, _, by omega, by go_num, rfl, rfl, hstep3, hbS, hsv.setCell _ _⟩
        case measure => simp [intOf]; omega
      · obtain rfl : i = m + 2 := by omega
        rw [hUU2.out] at hcu
        have hfc := hF.out.facts
        obtain ⟨vp, q0, q1, hR, hR0, hR1⟩ := hfc
        obtain ⟨l1, l2, l3⟩ := hmb.out.last hF.out.du hF.out.hu hF.out.hv (T := U2 - c - bo) (by rw [hUU2.out])
        have l4 := val_ltb l2
        have l5 := val_nonneg l2
        rw [l1] at l4
        have hset : Hid ((A ++ cur ++ C).set (j + (m + 2)) ((U2 - c - bo) % 4294967296) = A ++ cur.set (m + 2) ((U2 - c - bo) % 4294967296) ++ C) := by
          have := set_mid A cur C (m + 2) ((U2 - c - bo) % 4294967296) (by have := hmb.out.len; have := hF.out.hu; omega)
          rwa [hA'.out] at this
        have hs64 := sub64 hU2 hc0 hb0
        obtain ⟨M1, hM1⟩ : ∃ M1, (U2 - c) % 18446744073709551616 = M1 := ⟨_, rfl⟩
        rw [hM1] at hs64
        obtain ⟨M2, hM2⟩ : ∃ M2, (M1 - bo) % 18446744073709551616 = M2 := ⟨_, rfl⟩
        rw [hM2] at hs64
        have hM1w : IntKind.u64.wrap (U2 - c) = M1 := by rw [IntKind.wrap_u64]; exact hM1
        have hM2w : IntKind.u64.wrap (M1 - bo) = M2 := by rw [IntKind.wrap_u64]; exact hM2
        obtain ⟨s1, s2⟩ := hs64
        have hM1b : 0 ≤ M1 ∧ M1 ≤ 18446744073709551615 := by omega
        have hM2b : 0 ≤ M2 ∧ M2 ≤ 18446744073709551615 := by omega
        by_cases hneg : U2 - c - bo < 0
        · rw [if_pos hneg] at s2 l3
          have hGQ : G = Q + 1 := by
            rcases (by omega : G = Q + 1 ∨ G = Q) with h | h
            · exact h
            · exfalso
              rw [h] at l3
              omega
          subst hGQ
          rw [Int.add_mul, Int.one_mul] at l3
          have hRR : Hid (val (cur.set (m + 2) ((U2 - c - bo) % 4294967296)) + val vs = val us % val vs + 4294967296 ^ (m + 2 + 1)) := by
            show _ = _
            omega
          have l2' : Hid (Dig (cur.set (m + 2) ((U2 - c - bo) % 4294967296))) := l2
          have hR0' : Hid (0 ≤ val us % val vs ∧ val us % val vs < val vs) := ⟨hR0, hR1⟩
          obtain ⟨Dd, hDd⟩ : ∃ Dd, (U2 - c - bo) % 4294967296 = Dd := ⟨_, rfl⟩
          have hDb : 0 ≤ Dd ∧ Dd ≤ 4294967295 := by omega
          rw [hDd] at s1 l1 l2' hRR hset
          have hmb' : Hid (cur.length = m + 3 ∧ C.length = C.length) := ⟨by have := hmb.out.len; have := hF.out.hu; omega, rfl⟩
          have hbS := hbk.set (j + (m + 2)) Dd
          rw [hset.out] at hbS
          have hsS := hsv.setCell (j + (m + 2)) (.int .u32 Dd)
          clear l2 l3 l4 l5 hR hR0 hR1 hM1 hM2 hDd hmb vp
          obtain ⟨cur1, hc1⟩ : ∃ cur1, Hid (cur.set (m + 2) Dd = cur1) := ⟨_, rfl⟩
          rw [hc1.out] at l1 l2' hRR hbS
          have hl1 : Hid (cur1.length = m + 3) := l1
          clear hc1 l1 hset
          go_wp2
          go_loopw [10, 141] (fun t10 t141 wr => ∃ (i : Nat) (cur2 : List Int) (c2 : Int), i ≤ m + 2 ∧ t141 = .int .i64 i ∧ t10 = .int .u64 c2 ∧ Hid (Ab cur1 vs i cur2 c2) ∧ BlkP wr g (A ++ cur2 ++ C) ∧ Sav g w wr) (fun _ t141 _ => m + 2 - (intOf t141).toNat)
          case atStart => exact ⟨0, cur1, 0, Nat.zero_le _, rfl, rfl, Ab.zero l2'.out, hbS, hsS⟩
          case round =>
            clear hbS hsS hbk hsv hfr hcu
            obtain ⟨i, cur2, c2, hi, rfl, rfl, hab, hbk, hsv⟩ := hrel
            have hc2' := hab.out.c01
            have hfr := hbk.frozen (j + i)
            have hlen2 : cur2.length = m + 3 := by have := hab.out.len; have := hl1.out; omega
            have hcu : wr.cell? ⟨g, j + i, none⟩ = some (.int .u32 (cur1.getD i 0)) := by
              have h1 := hbk.cell (j := A.length + i) (by simp; omega)
              rwa [getD_mid (by omega), hA'.out, hab.out.rest i (Nat.le_refl _)] at h1
            have hUb := l2'.out i
            by_cases hlt2 : i < m + 2
            · have hlt' : (i : Int) < (m : Int) + 2 := by omega
              have cy := hcv'.out i hlt2
              have cy2 : wr.cell? ⟨b, o + i, none⟩ = some (.int .u32 (vs.getD i 0)) := (hsv.cell hb hbg).trans cy
              have hYb := hF.out.dv i
              have hstep := hab.out.step l2'.out hF.out.dv (by have := hl1.out; omega) rfl
              have hset : Hid (∀ d, (A ++ cur2 ++ C).set (j + i) d = A ++ cur2.set i d ++ C) := fun d => by
                have := set_mid A cur2 C i d (by omega)
                rwa [hA'.out] at this
              generalize vs.getD i 0 = Y at *
              generalize cur1.getD i 0 = U at *
              obtain ⟨S, hS⟩ : ∃ S, U + Y + c2 = S := ⟨_, rfl⟩
              rw [hS] at hstep
              have hSb : 0 ≤ S ∧ S ≤ 8589934591 := by omega
              have hstep' : Hid (Ab cur1 vs (i + 1) (cur2.set i (S % 4294967296)) (S / 4294967296)) := hstep
              clear hstep cy hlen2
              go_wp2
              go_roundw
              case rel =>
                have hbS := hbk.set (j + i) (S % 4294967296)
                rw [hset.out] at hbS
                exact ⟨i + 1, _, _, by omega, by go_num, rfl, hstep', hbS, hsv.setCell _ _⟩
              case measure => simp [intOf]; omega
            · obtain rfl : i = m + 2 := by omega
              obtain ⟨e1, e2, e3⟩ := hab.out.last l2'.out hF.out.dv hl1.out hF.out.hv hRR.out hR0'.out.1 hR0'.out.2
              have hset : Hid ((A ++ cur2 ++ C).set (j + (m + 2)) ((cur1.getD (m + 2) 0 + c2) % 4294967296) = A ++ cur2.set (m + 2) ((cur1.getD (m + 2) 0 + c2) % 4294967296) ++ C) := by
                have := set_mid A cur2 C (m + 2) ((cur1.getD (m + 2) 0 + c2) % 4294967296) (by omega)
                rwa [hA'.out] at this
              have hfin : Hid ((cur2.set (m + 2) ((cur1.getD (m + 2) 0 + c2) % 4294967296)).length = m + 3 ∧ Dig (cur2.set (m + 2) ((cur1.getD (m + 2) 0 + c2) % 4294967296)) ∧ val (cur2.set (m + 2) ((cur1.getD (m + 2) 0 + c2) % 4294967296)) = val us % val vs) := ⟨e1, e2, e3⟩
              have hbS := hbk.set (j + (m + 2)) ((cur1.getD (m + 2) 0 + c2) % 4294967296)
              rw [hset.out] at hbS
              clear e1 e2 e3 hset hlen2
              generalize cur1.getD (m + 2) 0 = X at *
              obtain ⟨E, hE⟩ : ∃ E, (X + c2) % 4294967296 = E := ⟨_, rfl⟩
              have hEw : IntKind.u32.wrap (X + c2) = E := by rw [IntKind.wrap_u32]; exact hE
              have hEb : 0 ≤ E ∧ E ≤ 4294967295 := by omega
              rw [hE] at hfin hbS
              clear hE
              go_wp2
              go_ret
              exact ⟨cur2.set (m + 2) E, by go_num, hfin.out.1, hfin.out.2.1, hfin.out.2.2, hbS, hsv.setCell _ _⟩
        · rw [if_neg hneg] at s2 l3
          have hGQ : G = Q := by
            rcases (by omega : G = Q + 1 ∨ G = Q) with h | h
            · exfalso
              rw [h, Int.add_mul, Int.one_mul] at l3
              omega
            · exact h
          subst hGQ
          have hfin : Hid ((cur.set (m + 2) ((U2 - c - bo) % 4294967296)).length = m + 3 ∧ Dig (cur.set (m + 2) ((U2 - c - bo) % 4294967296)) ∧ val (cur.set (m + 2) ((U2 - c - bo) % 4294967296)) = val us % val vs) := ⟨l1, l2, by rw [l3, hR]; omega⟩
          have hbS := hbk.set (j + (m + 2)) ((U2 - c - bo) % 4294967296)
          rw [hset.out] at hbS
          obtain ⟨Dd, hDd⟩ : ∃ Dd, (U2 - c - bo) % 4294967296 = Dd := ⟨_, rfl⟩
          have hDb : 0 ≤ Dd ∧ Dd ≤ 4294967295 := by omega
          rw [hDd] at s1 hfin hbS
          clear l1 l2 l3 l4 l5 hR hR0 hR1 hM1 hM2 hDd hmb vp hset
          go_wp2
          go_ret
          first
            | exact ⟨cur.set (m + 2) Dd, by go_num, hfin.out.1, hfin.out.2.1, hfin.out.2.2, hbS, hsv.setCell _ _⟩
            | exact ⟨by go_num, cur.set (m + 2) Dd, hfin.out.1, hfin.out.2.1, hfin.out.2.2, by rw [← List.append_assoc]; exact hbS, hsv.setCell _ _⟩
end Go.Proofs.YtaonejnicgbifaaGreatDoor
