import Derived.Test.YtaonejnicgbifaaGreatDoorPk11
namespace Go.Proofs.YtaonejnicgbifaaGreatDoor
open Go Go.Proofs.YtaonejnicgbifaaGreatDoor.Gx Go.RowKit

/-! ### Nodes of expressions -/
/-- How many kids a kind has; -1: no kind. -/
def kidsI (k : Int) : Int := match kK.find? (fun x => x.1 == k) with | some x => x.2 | none => -1
def loA (k : Int) : Int := if k = 9 then -32 else if k = 10 then 2 else if k = 11 then 1 else 0
def hiA (k : Int) : Int := if k = 9 then 32 else if k = 10 then 8 else if k = 11 then 8 else 0
/-- A node is right, whatever its kids are. -/
def nodeOk (k f : Int) (ng : Bool) (X Y : Int) (m : ByteArray) (n : Nat) : Bool :=
  decide (kidsI k = n) && (decide (loA k ≤ f) && decide (f ≤ hiA k)) && (if k = 1 then (!large X Y && decide (0 ≤ sgnQ ng X Y)) && decide (m.size = 0) else decide (X = 0) && (if k = 2 then nameB m else decide (m.size = 0)))

theorem kidsI_cases (k : Int) : (∃ x ∈ kK, x.1 = k ∧ kidsI k = x.2 ∧ 0 ≤ x.2) ∨ (kidsI k = -1 ∧ ∀ x ∈ kK, x.1 ≠ k) := by
  unfold kidsI
  cases h : kK.find? (fun x => x.1 == k) with
  | some x =>
    have h1 := List.find?_some h
    have h2 := List.mem_of_find?_eq_some h
    have h3 : ∀ x ∈ kK, 0 ≤ x.2 := by decide
    exact .inl ⟨x, h2, by simpa using h1, rfl, h3 x h2⟩
  | none =>
    rw [List.find?_eq_none] at h
    exact .inr ⟨rfl, fun x hx e => h x hx (by simp [e])⟩

set_option maxRecDepth 100000 in
set_option maxHeartbeats 1000000 in
/-- expr.kids. -/
theorem kids_ok (k : Int) (w : World) : Calls Tryz.prog 107 #[.int .i64 k] w fun e w' => e = .returned (.tuple #[.int .i64 (if kidsI k < 0 then 0 else kidsI k), .bool (decide (0 ≤ kidsI k))]) ∧ Below w.heap.size w w' := by
  rcases kidsI_cases k with ⟨x, hx, rfl, he, h0⟩ | ⟨he, hn⟩
  · rw [he, if_neg (by omega), decide_eq_true h0]
    refine (kCall1 (f := 107) (args := [.int .i64 x.1]) (v := .tup [.int .i64 x.2, .bool true]) (List.mem_append_right _ (List.mem_append_left _ (List.mem_map.2 ⟨_, hx, rfl⟩))) (lrel_one (.int _ _))).mono ?_
    rintro e w' ⟨⟨u, rfl, hu⟩, hb⟩
    obtain ⟨vs, rfl, hl⟩ := hu.tup_inv
    obtain ⟨v1, r1, e1, hv1, hl1⟩ := LRel.inv_cons hl
    obtain ⟨v2, r2, rfl, hv2, hl2⟩ := LRel.inv_cons hl1
    obtain rfl := LRel.inv_nil hl2
    rw [arr_of_list e1, hv1.int_inv, hv2.bool_inv]
    exact ⟨rfl, hb⟩
  · rw [he]
    simp only [kK, List.mem_cons, List.not_mem_nil, or_false, forall_eq_or_imp, forall_eq] at hn
    obtain ⟨h1, h2, h3, h4, h5, h6, h7, h8, h9, h10, h11, h12, h13, h14, h15⟩ := hn
    have n1 : (k == 1) = false := by simp; omega
    have n2 : (k == 2) = false := by simp; omega
    have n3 : (k == 3) = false := by simp; omega
    have n4 : (k == 4) = false := by simp; omega
    have n5 : (k == 5) = false := by simp; omega
    have n6 : (k == 6) = false := by simp; omega
    have n7 : (k == 7) = false := by simp; omega
    have n8 : (k == 8) = false := by simp; omega
    have n9 : (k == 9) = false := by simp; omega
    have n10 : (k == 10) = false := by simp; omega
    have n11 : (k == 11) = false := by simp; omega
    have n12 : (k == 12) = false := by simp; omega
    have n13 : (k == 13) = false := by simp; omega
    have n14 : (k == 14) = false := by simp; omega
    have n15 : (k == 15) = false := by simp; omega
    clear h1 h2 h3 h4 h5 h6 h7 h8 h9 h10 h11 h12 h13 h14 h15 he
    go_enter Tryz.func107, Tryz.ntmps107
    go_wp2
    go_ret2
    exact ⟨rfl, Below.refl _ _⟩

end Go.Proofs.YtaonejnicgbifaaGreatDoor
namespace Go.Proofs.YtaonejnicgbifaaGreatDoor
open Go Go.Proofs.YtaonejnicgbifaaGreatDoor.Gx Go.RowKit

theorem trim_zero {nu : List Int} (h : Dig nu) : decide ((trim nu).length = 0) = decide (val nu = 0) := by
  have hv : val (trim nu) = val nu := val_trim nu
  refine decide_eq_decide.2 ⟨fun h0 => ?_, fun h0 => ?_⟩
  · rw [← hv, List.eq_nil_of_length_eq_zero h0]; rfl
  · rcases Nat.eq_zero_or_pos (trim nu).length with h1 | h1
    · exact h1
    · have := val_pos (dig_trim h) (canon_trim nu) (List.length_pos_iff.1 h1)
      omega

set_option maxRecDepth 100000 in
set_option maxHeartbeats 4000000 in
/-- expr.fields. -/
theorem fields_ok {w : World} {k f : Int} {ng : Bool} {aq cq sq : Option Addr} {ac cc sc n : Nat} {nu de : List Int} {m : ByteArray} (h1 : Sl w (.slice aq nu.length ac) nu) (h2 : Sl w (.slice cq de.length cc) de) (ln : nu.length ≤ 274877906000) (ld : de.length ≤ 274877906000) (hT : Tb w) :
    Calls Tryz.prog 78 #[.agg #[.int .i64 k, .int .i64 f, .bool ng, .slice aq nu.length ac, .slice cq de.length cc, .string m, .slice sq n sc]] w fun e w' => e = .returned (.bool (nodeOk k f ng (val nu) (val de) m n)) ∧ Below w.heap.size w w' := by
  obtain ⟨R, hR⟩ : ∃ R, Hid (nodeOk k f ng (val nu) (val de) m n = R) := ⟨_, rfl⟩
  rw [hR.out]
  have hb0 : Hid (Below w.heap.size w (w.alloc (.cells #[.int .i64 k, .int .i64 f, .bool ng, .slice aq nu.length ac, .slice cq de.length cc, .string m, .slice sq n sc] 30))) := below_alloc w _
  have htz : Hid _ := trim_zero h1.1
  have hx0 := val_nonneg h1.1
  have hy0 := val_nonneg h2.1
  have hsg : Hid _ := sgn_mk32 (g := ng) hx0 hy0
  have hrd := fun z (hz : Below w.heap.size w z) => read32_walk (g := ng) (h1.below hz) (h2.below hz) ln ld (hT.below hz)
  obtain ⟨u, hu, hk⟩ := of32_ok h1
  obtain ⟨qa, ca, rfl⟩ := hu.form
  have hk : Hid (∀ w1, Below w.heap.size w w1 → Calls Tryz.prog 108 #[.slice aq nu.length ac] w1 fun e w' => e = .returned (.slice qa (trim nu).length ca) ∧ w' = w1) := hk
  have hkid := kids_ok k (w.alloc (.cells #[.int .i64 k, .int .i64 f, .bool ng, .slice aq nu.length ac, .slice cq de.length cc, .string m, .slice sq n sc] 30))
  clear h1 h2 hT hu hx0 hy0
  go_enter Tryz.func78, Tryz.ntmps78
  go_upto_block 0 with fail
  go_cut [3, 4] from 11 to 16 (fun v3 v4 wx => v3 = .int .i64 (loA k) ∧ v4 = .int .i64 (hiA k) ∧ wx = (w.alloc (.cells #[.int .i64 k, .int .i64 f, .bool ng, .slice aq nu.length ac, .slice cq de.length cc, .string m, .slice sq n sc] 30)))
  case first =>
    clear hkid hrd hk
    by_cases k9 : k = 9
    · subst k9
      go_wp2
      go_meet
      case rel => exact ⟨rfl, rfl, rfl⟩
    · by_cases k10 : k = 10
      · subst k10
        go_wp2
        go_meet
        case rel => exact ⟨rfl, rfl, rfl⟩
      · by_cases k11 : k = 11
        · subst k11
          go_wp2
          go_meet
          case rel => exact ⟨rfl, rfl, rfl⟩
        · have e1 : Hid (loA k = 0 ∧ hiA k = 0) := ⟨by simp [loA, k9, k10, k11], by simp [hiA, k9, k10, k11]⟩
          have n9 : (k == 9) = false := by simp; omega
          have n10 : (k == 10) = false := by simp; omega
          have n11 : (k == 11) = false := by simp; omega
          clear k9 k10 k11
          go_wp2
          go_meet
          case rel => exact ⟨by rw [e1.out.1], by rw [e1.out.2], rfl⟩
  case rest =>
    obtain ⟨rfl, rfl, hwc⟩ := hcut
    subst wc
    obtain ⟨K, hK⟩ : ∃ K, Hid (kidsI k = K) := ⟨_, rfl⟩
    obtain ⟨lo, hlo⟩ : ∃ K, Hid (loA k = K) := ⟨_, rfl⟩
    obtain ⟨hi, hhi⟩ : ∃ K, Hid (hiA k = K) := ⟨_, rfl⟩
    rw [hlo.out, hhi.out]
    rw [hK.out] at hkid
    have KARM : True := trivial
    by_cases hK0 : 0 ≤ K
    · rw [if_neg (by omega), decide_eq_true hK0] at hkid
      by_cases hn : (n : Int) = K
      · have hn' : ((n : Int) != K) = false := by simp [hn]
        have hn2 : Hid ((n : Int) = K) := hn
        clear hn
        by_cases hf1 : f < lo
        · go_wp2_with (go_at_call 107; with_reducible refine hkid.mono ?_; rintro e w2 ⟨rfl, hb2⟩
                       have s2 : w.heap.size < (w.alloc (.cells #[.int .i64 k, .int .i64 f, .bool ng, .slice aq nu.length ac, .slice cq de.length cc, .string m, .slice sq n sc] 30)).heap.size := by simp
                       have x0 : w2.cell? ⟨w.heap.size, 0, none⟩ = some (.int .i64 k) := (hb2.cell (by exact s2)).trans (by simp)
                       have x1 : w2.cell? ⟨w.heap.size, 1, none⟩ = some (.int .i64 f) := (hb2.cell (by exact s2)).trans (by simp)
                       have x2 : w2.cell? ⟨w.heap.size, 2, none⟩ = some (.bool ng) := (hb2.cell (by exact s2)).trans (by simp)
                       have x3 : w2.cell? ⟨w.heap.size, 3, none⟩ = some (.slice aq nu.length ac) := (hb2.cell (by exact s2)).trans (by simp)
                       have x4 : w2.cell? ⟨w.heap.size, 4, none⟩ = some (.slice cq de.length cc) := (hb2.cell (by exact s2)).trans (by simp)
                       have x5 : w2.cell? ⟨w.heap.size, 5, none⟩ = some (.string m) := (hb2.cell (by exact s2)).trans (by simp)
                       have x6 : w2.cell? ⟨w.heap.size, 6, none⟩ = some (.slice sq n sc) := (hb2.cell (by exact s2)).trans (by simp)
                       have hbw : Hid (Below w.heap.size w w2) := hb0.out.trans (hb2.mono hb0.out.size)
                       have hs2 := hb2.size
                       clear hb2)
          go_ret
          exact ⟨by rw [← hR.out]; unfold nodeOk; rw [hlo.out, decide_eq_false (by omega : ¬ lo ≤ f)]; simp, hbw.out⟩
        · by_cases hf2 : f > hi
          · go_wp2_with (go_at_call 107; with_reducible refine hkid.mono ?_; rintro e w2 ⟨rfl, hb2⟩
                         have s2 : w.heap.size < (w.alloc (.cells #[.int .i64 k, .int .i64 f, .bool ng, .slice aq nu.length ac, .slice cq de.length cc, .string m, .slice sq n sc] 30)).heap.size := by simp
                         have x0 : w2.cell? ⟨w.heap.size, 0, none⟩ = some (.int .i64 k) := (hb2.cell (by exact s2)).trans (by simp)
                         have x1 : w2.cell? ⟨w.heap.size, 1, none⟩ = some (.int .i64 f) := (hb2.cell (by exact s2)).trans (by simp)
                         have x2 : w2.cell? ⟨w.heap.size, 2, none⟩ = some (.bool ng) := (hb2.cell (by exact s2)).trans (by simp)
                         have x3 : w2.cell? ⟨w.heap.size, 3, none⟩ = some (.slice aq nu.length ac) := (hb2.cell (by exact s2)).trans (by simp)
                         have x4 : w2.cell? ⟨w.heap.size, 4, none⟩ = some (.slice cq de.length cc) := (hb2.cell (by exact s2)).trans (by simp)
                         have x5 : w2.cell? ⟨w.heap.size, 5, none⟩ = some (.string m) := (hb2.cell (by exact s2)).trans (by simp)
                         have x6 : w2.cell? ⟨w.heap.size, 6, none⟩ = some (.slice sq n sc) := (hb2.cell (by exact s2)).trans (by simp)
                         have hbw : Hid (Below w.heap.size w w2) := hb0.out.trans (hb2.mono hb0.out.size)
                         have hs2 := hb2.size
                         clear hb2)
            go_ret
            exact ⟨by rw [← hR.out]; unfold nodeOk; rw [hhi.out, decide_eq_false (by omega : ¬ f ≤ hi)]; simp, hbw.out⟩
          · have hA : Hid ((decide (kidsI k = n) && (decide (loA k ≤ f) && decide (f ≤ hiA k))) = true) := by
              show _ = true
              rw [hK.out, hlo.out, hhi.out, decide_eq_true (hn2.out.symm : K = n), decide_eq_true (by omega : lo ≤ f), decide_eq_true (by omega : f ≤ hi)]
              rfl
            clear hn2 hlo hhi hK
            go_upto_region 12 with (go_at_call 107; with_reducible refine hkid.mono ?_; rintro e w2 ⟨rfl, hb2⟩
                                    have s2 : w.heap.size < (w.alloc (.cells #[.int .i64 k, .int .i64 f, .bool ng, .slice aq nu.length ac, .slice cq de.length cc, .string m, .slice sq n sc] 30)).heap.size := by simp
                                    have x0 : w2.cell? ⟨w.heap.size, 0, none⟩ = some (.int .i64 k) := (hb2.cell (by exact s2)).trans (by simp)
                                    have x1 : w2.cell? ⟨w.heap.size, 1, none⟩ = some (.int .i64 f) := (hb2.cell (by exact s2)).trans (by simp)
                                    have x2 : w2.cell? ⟨w.heap.size, 2, none⟩ = some (.bool ng) := (hb2.cell (by exact s2)).trans (by simp)
                                    have x3 : w2.cell? ⟨w.heap.size, 3, none⟩ = some (.slice aq nu.length ac) := (hb2.cell (by exact s2)).trans (by simp)
                                    have x4 : w2.cell? ⟨w.heap.size, 4, none⟩ = some (.slice cq de.length cc) := (hb2.cell (by exact s2)).trans (by simp)
                                    have x5 : w2.cell? ⟨w.heap.size, 5, none⟩ = some (.string m) := (hb2.cell (by exact s2)).trans (by simp)
                                    have x6 : w2.cell? ⟨w.heap.size, 6, none⟩ = some (.slice sq n sc) := (hb2.cell (by exact s2)).trans (by simp)
                                    have hbw : Hid (Below w.heap.size w w2) := hb0.out.trans (hb2.mono hb0.out.size)
                                    have hs2 := hb2.size
                                    clear hb2)
            clear hkid hf1 hf2 hn' hK0
            by_cases k2 : k = 2
            · subst k2
              have hnm := eIsName_ok m w2
              cases hnb : nameB m with
              | false =>
                rw [hnb] at hnm
                go_wp2_with (go_at_call 42; with_reducible refine hnm.mono ?_; rintro e w3 ⟨rfl, hb3⟩)
                go_ret
                exact ⟨by rw [← hR.out]; unfold nodeOk; rw [hnb]; simp, hbw.out.trans (hb3.mono hbw.out.size)⟩
              | true =>
                rw [hnb] at hnm
                have hnb' : Hid (nameB m = true) := hnb
                clear hnb
                go_upto_region 14 with (go_at_call 42; with_reducible refine hnm.mono ?_; rintro e w3 ⟨rfl, hb3⟩
                                        have s3 : w.heap.size < w2.heap.size := Nat.lt_of_lt_of_le s2 hs2
                                        have y0 := (hb3.cell (p := ⟨w.heap.size, 0, none⟩) (by exact s3)).trans x0)
                have y3 := (hb3.cell (p := ⟨w.heap.size, 3, none⟩) (by exact s3)).trans x3
                have hbw3 : Hid (Below w.heap.size w w3) := hbw.out.trans (hb3.mono hbw.out.size)
                have hof : Calls Tryz.prog 108 #[.slice aq nu.length ac] w3 _ := hk.out _ hbw3.out
                have hze := zero32_ok qa (trim nu).length ca w3
                rw [htz.out] at hze
                go_wp2_with (first
                  | (go_at_call 108; with_reducible refine hof.mono ?_; rintro e wa ⟨rfl, hwa⟩; subst wa)
                  | (go_at_call 109; with_reducible refine hze.mono ?_; rintro e wa ⟨rfl, hwa⟩; subst wa))
                go_ret
                exact ⟨by rw [← hR.out]; unfold nodeOk; rw [hA.out, hnb'.out]; simp, hbw3.out⟩
            · have n2 : (k == 2) = false := by simp; omega
              have n2' : (k != 2) = true := by simp; omega
              have k2' : Hid (k ≠ 2) := k2
              clear k2
              cases he : (m.toList == []) with
              | false =>
                have hm : ¬ m.size = 0 := fun h => by
                  rw [empty_list, decide_eq_true h] at he; cases he
                go_wp2
                go_ret
                exact ⟨by rw [← hR.out]; unfold nodeOk; rw [decide_eq_false hm, if_neg k2'.out]; simp, hbw.out⟩
              | true =>
                have hm : Hid (m.size = 0) := of_decide_eq_true (p := m.size = 0) (by rw [← empty_list]; exact he)
                by_cases k1 : k = 1
                · subst k1
                  have hrd2 := hrd w2 hbw.out
                  obtain ⟨L, hL⟩ : ∃ L, Hid (large (val nu) (val de) = L) := ⟨_, rfl⟩
                  rw [hL.out] at hrd2
                  clear hrd
                  cases L with
                  | true =>
                    go_wp2_with (go_at_call 110; with_reducible refine hrd2.mono ?_; rintro e w3 ⟨fv, g', n', d', rfl, hf, _, hb3⟩
                                 obtain ⟨fa, fb, ns, dsf, rfl, z1, z2, z3, z4, z5, z6, z7, z8⟩ := hf
                                 obtain ⟨qn, kn, rfl⟩ := z1.form
                                 obtain ⟨qm, km, rfl⟩ := z4.form
                                 have hw : Hid (Below w.heap.size w (w3.alloc (.cells #[.bool g', .slice qn ns.length kn, .slice qm dsf.length km] 107))) := (hbw.out.trans (hb3.mono hbw.out.size)).trans ((below_alloc w3 _).mono (Nat.le_trans hbw.out.size hb3.size))
                                 clear hb3 z1 z2 z3 z4 z5 z6 z7 z8)
                    go_ret
                    exact ⟨by rw [← hR.out]; unfold nodeOk; rw [hL.out]; simp, hw.out⟩
                  | false =>
                    obtain ⟨S, hS⟩ : ∃ S, Hid (sgnQ ng (val nu) (val de) = S) := ⟨_, rfl⟩
                    by_cases hS0 : 0 ≤ S
                    · have hS1 : (S : Int) ≥ 0 := hS0
                      have hS0 : Hid (0 ≤ S) := hS0
                      go_wp2_with (first
                        | (go_at_call 110; with_reducible refine hrd2.mono ?_; rintro e w3 ⟨fv, g', n', d', rfl, hf, hgn, hb3⟩
                           obtain ⟨rfl, rfl, rfl⟩ := hgn rfl
                           have hf' := hf
                           obtain ⟨fa, fb, ns, dsf, rfl, z1, z2, z3, z4, z5, z6, z7, z8⟩ := hf'
                           obtain ⟨qn, kn, rfl⟩ := z1.form
                           obtain ⟨qm, km, rfl⟩ := z4.form
                           have hb4 : Below w3.heap.size w3 (w3.alloc (.cells #[.bool (mkG ng (val nu) (denI (val de))), .slice qn ns.length kn, .slice qm dsf.length km] 107)) := below_alloc w3 _
                           have hfs := fsign_ok (hf.below hb4)
                           rw [hsg.out, hS.out] at hfs
                           have hw : Hid (Below w.heap.size w (w3.alloc (.cells #[.bool (mkG ng (val nu) (denI (val de))), .slice qn ns.length kn, .slice qm dsf.length km] 107))) := (hbw.out.trans (hb3.mono hbw.out.size)).trans (hb4.mono (Nat.le_trans hbw.out.size hb3.size))
                           clear hb3 hb4 hf z1 z2 z3 z4 z5 z6 z7 z8 hgn)
                        | (go_at_call 87; with_reducible refine hfs.mono ?_; rintro e w4 ⟨rfl, hb5⟩))
                      go_ret
                      exact ⟨by rw [← hR.out]; unfold nodeOk; rw [hA.out, hL.out, hS.out, decide_eq_true hS0.out, decide_eq_true hm.out]; rfl, hw.out.trans (hb5.mono hw.out.size)⟩
                    · have hS1 : ¬ (S : Int) ≥ 0 := hS0
                      have hS0 : Hid (¬ 0 ≤ S) := hS0
                      go_wp2_with (first
                        | (go_at_call 110; with_reducible refine hrd2.mono ?_; rintro e w3 ⟨fv, g', n', d', rfl, hf, hgn, hb3⟩
                           obtain ⟨rfl, rfl, rfl⟩ := hgn rfl
                           have hf' := hf
                           obtain ⟨fa, fb, ns, dsf, rfl, z1, z2, z3, z4, z5, z6, z7, z8⟩ := hf'
                           obtain ⟨qn, kn, rfl⟩ := z1.form
                           obtain ⟨qm, km, rfl⟩ := z4.form
                           have hb4 : Below w3.heap.size w3 (w3.alloc (.cells #[.bool (mkG ng (val nu) (denI (val de))), .slice qn ns.length kn, .slice qm dsf.length km] 107)) := below_alloc w3 _
                           have hfs := fsign_ok (hf.below hb4)
                           rw [hsg.out, hS.out] at hfs
                           have hw : Hid (Below w.heap.size w (w3.alloc (.cells #[.bool (mkG ng (val nu) (denI (val de))), .slice qn ns.length kn, .slice qm dsf.length km] 107))) := (hbw.out.trans (hb3.mono hbw.out.size)).trans (hb4.mono (Nat.le_trans hbw.out.size hb3.size))
                           clear hb3 hb4 hf z1 z2 z3 z4 z5 z6 z7 z8 hgn)
                        | (go_at_call 87; with_reducible refine hfs.mono ?_; rintro e w4 ⟨rfl, hb5⟩))
                      go_ret
                      exact ⟨by rw [← hR.out]; unfold nodeOk; rw [hS.out, decide_eq_false (by have := hS0.out; omega : ¬ 0 ≤ S)]; simp, hw.out.trans (hb5.mono hw.out.size)⟩
                · have n1 : (k != 1) = true := by simp; omega
                  have k1' : Hid (k ≠ 1) := k1
                  clear k1
                  have hof : Calls Tryz.prog 108 #[.slice aq nu.length ac] w2 _ := hk.out _ hbw.out
                  have hze := zero32_ok qa (trim nu).length ca w2
                  rw [htz.out] at hze
                  go_wp2_with (first
                    | (go_at_call 108; with_reducible refine hof.mono ?_; rintro e wa ⟨rfl, hwa⟩; subst wa)
                    | (go_at_call 109; with_reducible refine hze.mono ?_; rintro e wa ⟨rfl, hwa⟩; subst wa))
                  go_ret
                  exact ⟨by rw [← hR.out]; unfold nodeOk; rw [hA.out, if_neg k1'.out, if_neg k2'.out, decide_eq_true hm.out]; simp, hbw.out⟩
      · have hn' : ((n : Int) != K) = true := by simp [hn]
        go_wp2_with (go_at_call 107; with_reducible refine hkid.mono ?_; rintro e w2 ⟨rfl, hb2⟩
                     have s2 : w.heap.size < (w.alloc (.cells #[.int .i64 k, .int .i64 f, .bool ng, .slice aq nu.length ac, .slice cq de.length cc, .string m, .slice sq n sc] 30)).heap.size := by simp
                     have x0 : w2.cell? ⟨w.heap.size, 0, none⟩ = some (.int .i64 k) := (hb2.cell (by exact s2)).trans (by simp)
                     have x1 : w2.cell? ⟨w.heap.size, 1, none⟩ = some (.int .i64 f) := (hb2.cell (by exact s2)).trans (by simp)
                     have x2 : w2.cell? ⟨w.heap.size, 2, none⟩ = some (.bool ng) := (hb2.cell (by exact s2)).trans (by simp)
                     have x3 : w2.cell? ⟨w.heap.size, 3, none⟩ = some (.slice aq nu.length ac) := (hb2.cell (by exact s2)).trans (by simp)
                     have x4 : w2.cell? ⟨w.heap.size, 4, none⟩ = some (.slice cq de.length cc) := (hb2.cell (by exact s2)).trans (by simp)
                     have x5 : w2.cell? ⟨w.heap.size, 5, none⟩ = some (.string m) := (hb2.cell (by exact s2)).trans (by simp)
                     have x6 : w2.cell? ⟨w.heap.size, 6, none⟩ = some (.slice sq n sc) := (hb2.cell (by exact s2)).trans (by simp)
                     have hbw : Hid (Below w.heap.size w w2) := hb0.out.trans (hb2.mono hb0.out.size)
                     have hs2 := hb2.size
                     clear hb2)
        go_ret
        exact ⟨by rw [← hR.out]; unfold nodeOk; rw [hK.out, decide_eq_false (fun e => hn e.symm)]; simp, hbw.out⟩
    · rw [if_pos (by omega), decide_eq_false hK0] at hkid
      go_wp2_with (go_at_call 107; with_reducible refine hkid.mono ?_; rintro e w2 ⟨rfl, hb2⟩
                   have s2 : w.heap.size < (w.alloc (.cells #[.int .i64 k, .int .i64 f, .bool ng, .slice aq nu.length ac, .slice cq de.length cc, .string m, .slice sq n sc] 30)).heap.size := by simp
                   have x0 : w2.cell? ⟨w.heap.size, 0, none⟩ = some (.int .i64 k) := (hb2.cell (by exact s2)).trans (by simp)
                   have x1 : w2.cell? ⟨w.heap.size, 1, none⟩ = some (.int .i64 f) := (hb2.cell (by exact s2)).trans (by simp)
                   have x2 : w2.cell? ⟨w.heap.size, 2, none⟩ = some (.bool ng) := (hb2.cell (by exact s2)).trans (by simp)
                   have x3 : w2.cell? ⟨w.heap.size, 3, none⟩ = some (.slice aq nu.length ac) := (hb2.cell (by exact s2)).trans (by simp)
                   have x4 : w2.cell? ⟨w.heap.size, 4, none⟩ = some (.slice cq de.length cc) := (hb2.cell (by exact s2)).trans (by simp)
                   have x5 : w2.cell? ⟨w.heap.size, 5, none⟩ = some (.string m) := (hb2.cell (by exact s2)).trans (by simp)
                   have x6 : w2.cell? ⟨w.heap.size, 6, none⟩ = some (.slice sq n sc) := (hb2.cell (by exact s2)).trans (by simp)
                   have hbw : Hid (Below w.heap.size w w2) := hb0.out.trans (hb2.mono hb0.out.size)
                   have hs2 := hb2.size
                   clear hb2)
      go_ret
      exact ⟨by rw [← hR.out]; unfold nodeOk; rw [hK.out, decide_eq_false (by omega : ¬ K = n)]; simp, hbw.out⟩
end Go.Proofs.YtaonejnicgbifaaGreatDoor
