import Derived.Test.YtaonejnicgbifaaGreatDoorPk27
namespace Go.Proofs.YtaonejnicgbifaaGreatDoor
open Go Go.RowKit

set_option maxRecDepth 100000 in
set_option maxHeartbeats 8000000 in
/-- library.covers. -/
theorem covers_walk {w : World} {km fm kc fc : Int} {gm gc stm stc : Bool} {am dm qm ac dc qc bxm cxm bxc cxc : Option Addr} {anm acm dnm dcm qnm qcm nbm bcm ncm ccm anc acc dnc dcc qnc qcc nbc bcc ncc ccc : Nat} {nm nc : ByteArray}
    {ms cs : Nat → Si} {md cd : Nat → Sv} {mk : Nat → Co} {me : Nat → Nd} {E : Bool} {O : Nat → Option Nat} {N : Nat → Nat → Bool} {H : Nat → Bool}
    (hE : (∀ z, Below w.heap.size w z → Calls Tryz.prog 28 #[.agg #[.int .i64 km, .int .i64 fm, .bool gm, .slice am anm acm, .slice dm dnm dcm, .string nm, .slice qm qnm qcm], .agg #[.int .i64 kc, .int .i64 fc, .bool gc, .slice ac anc acc, .slice dc dnc dcc, .string nc, .slice qc qnc qcc]] z fun x w' => x = .returned (.bool E) ∧ Below z.heap.size z w')) (hI : (∀ i, i < nbm → ∀ z, Below w.heap.size w z → ∀ B, B < z.heap.size → z.cell? ⟨B, 0, none⟩ = some (.string (ms i).m) → Calls Tryz.prog 29 #[.slice bxc nbc bcc, .func (.func 30) #[] #[.pointer (some ⟨B, 0, none⟩)]] z fun x w' => x = .returned (.int .i64 (ixV (O i))) ∧ Below z.heap.size z w')) (hN : (∀ i j, i < nbm → O i = some j → ∀ z, Below w.heap.size w z → Calls Tryz.prog 31 #[.agg #[.bool (cs j).g1, .slice (cd j).q1 (cd j).l1 (cd j).c1, .slice (cd j).p1 (cd j).m1 (cd j).e1, .bool (cs j).g2, .slice (cd j).q2 (cd j).l2 (cd j).c2, .slice (cd j).p2 (cd j).m2 (cd j).e2, .bool (cs j).li, .bool (cs j).hh], .agg #[.bool (ms i).g1, .slice (md i).q1 (md i).l1 (md i).c1, .slice (md i).p1 (md i).m1 (md i).e1, .bool (ms i).g2, .slice (md i).q2 (md i).l2 (md i).c2, .slice (md i).p2 (md i).m2 (md i).e2, .bool (ms i).li, .bool (ms i).hh]] z fun x w' => x = .returned (.tuple #[.bool (N i j), .int .i64 0]) ∧ Below z.heap.size z w')) (hC : (∀ i, i < ncm → ∀ z, Below w.heap.size w z → ∀ B, B < z.heap.size → BlkI z B 50 #[.int .i64 (me i).k, .int .i64 (me i).f, .bool (me i).neg, .slice (me i).aq (me i).an (me i).ac, .slice (me i).cq (me i).cn (me i).cc, .string (me i).m, .slice (me i).sq (me i).sn (me i).sc, .bool (mk i).st] → Calls Tryz.prog 32 #[.slice cxc ncc ccc, .func (.func 33) #[] #[.pointer (some ⟨B, 0, none⟩)]] z fun x w' => x = .returned (.bool (H i)) ∧ Below z.heap.size z w')) (hms : (nbm = 0 ∨ ∃ b o, bxm = some ⟨b, o, none⟩ ∧ b < w.heap.size ∧ ∀ i, i < nbm → w.rangeAt b (o + i * 9) ((ms i).cells (md i)))) (hcs : (nbc = 0 ∨ ∃ b o, bxc = some ⟨b, o, none⟩ ∧ b < w.heap.size ∧ ∀ i, i < nbc → w.rangeAt b (o + i * 9) ((cs i).cells (cd i)))) (hmc : (ncm = 0 ∨ ∃ b o, cxm = some ⟨b, o, none⟩ ∧ b < w.heap.size ∧ ∀ i, i < ncm → w.rangeAt b (o + i * 8) ((mk i).cells (me i)))) (hO : (∀ i j, O i = some j → j < nbc)) (l1 : nbm ≤ 1048576) (l2 : nbc ≤ 1048576) (l3 : ncm ≤ 1048576) :
    Calls Tryz.prog 11 #[.agg #[.int .i64 km, .int .i64 fm, .bool gm, .slice am anm acm, .slice dm dnm dcm, .string nm, .slice qm qnm qcm, .bool stm, .slice bxm nbm bcm, .slice cxm ncm ccm], .agg #[.int .i64 kc, .int .i64 fc, .bool gc, .slice ac anc acc, .slice dc dnc dcc, .string nc, .slice qc qnc qcc, .bool stc, .slice bxc nbc bcc, .slice cxc ncc ccc]] w fun e w' => e = .returned (.bool (E && ((!stc || stm) && (((List.range nbm).all fun i => match O i with | some j => N i j | none => false) && (List.range ncm).all H)))) ∧ Below w.heap.size w w' := by
  have hE1 := hE _ (below_two w (.cells #[.int .i64 km, .int .i64 fm, .bool gm, .slice am anm acm, .slice dm dnm dcm, .string nm, .slice qm qnm qcm, .bool stm, .slice bxm nbm bcm, .slice cxm ncm ccm] 34) (.cells #[.int .i64 kc, .int .i64 fc, .bool gc, .slice ac anc acc, .slice dc dnc dcc, .string nc, .slice qc qnc qcc, .bool stc, .slice bxc nbc bcc, .slice cxc ncc ccc] 34))
  have hI' : Hid (∀ i, i < nbm → ∀ z, Below w.heap.size w z → ∀ B, B < z.heap.size → z.cell? ⟨B, 0, none⟩ = some (.string (ms i).m) → Calls Tryz.prog 29 #[.slice bxc nbc bcc, .func (.func 30) #[] #[.pointer (some ⟨B, 0, none⟩)]] z fun x w' => x = .returned (.int .i64 (ixV (O i))) ∧ Below z.heap.size z w') := hI
  have hN' : Hid (∀ i j, i < nbm → O i = some j → ∀ z, Below w.heap.size w z → Calls Tryz.prog 31 #[.agg #[.bool (cs j).g1, .slice (cd j).q1 (cd j).l1 (cd j).c1, .slice (cd j).p1 (cd j).m1 (cd j).e1, .bool (cs j).g2, .slice (cd j).q2 (cd j).l2 (cd j).c2, .slice (cd j).p2 (cd j).m2 (cd j).e2, .bool (cs j).li, .bool (cs j).hh], .agg #[.bool (ms i).g1, .slice (md i).q1 (md i).l1 (md i).c1, .slice (md i).p1 (md i).m1 (md i).e1, .bool (ms i).g2, .slice (md i).q2 (md i).l2 (md i).c2, .slice (md i).p2 (md i).m2 (md i).e2, .bool (ms i).li, .bool (ms i).hh]] z fun x w' => x = .returned (.tuple #[.bool (N i j), .int .i64 0]) ∧ Below z.heap.size z w') := hN
  have hC' : Hid (∀ i, i < ncm → ∀ z, Below w.heap.size w z → ∀ B, B < z.heap.size → BlkI z B 50 #[.int .i64 (me i).k, .int .i64 (me i).f, .bool (me i).neg, .slice (me i).aq (me i).an (me i).ac, .slice (me i).cq (me i).cn (me i).cc, .string (me i).m, .slice (me i).sq (me i).sn (me i).sc, .bool (mk i).st] → Calls Tryz.prog 32 #[.slice cxc ncc ccc, .func (.func 33) #[] #[.pointer (some ⟨B, 0, none⟩)]] z fun x w' => x = .returned (.bool (H i)) ∧ Below z.heap.size z w') := hC
  have hms' : Hid (nbm = 0 ∨ ∃ b o, bxm = some ⟨b, o, none⟩ ∧ b < w.heap.size ∧ ∀ i, i < nbm → w.rangeAt b (o + i * 9) ((ms i).cells (md i))) := hms
  have hcs' : Hid (nbc = 0 ∨ ∃ b o, bxc = some ⟨b, o, none⟩ ∧ b < w.heap.size ∧ ∀ i, i < nbc → w.rangeAt b (o + i * 9) ((cs i).cells (cd i))) := hcs
  have hmc' : Hid (ncm = 0 ∨ ∃ b o, cxm = some ⟨b, o, none⟩ ∧ b < w.heap.size ∧ ∀ i, i < ncm → w.rangeAt b (o + i * 8) ((mk i).cells (me i))) := hmc
  have hO' : Hid (∀ i j, O i = some j → j < nbc) := hO
  have hb0 : Hid (Below w.heap.size w ((w.alloc (.cells #[.int .i64 km, .int .i64 fm, .bool gm, .slice am anm acm, .slice dm dnm dcm, .string nm, .slice qm qnm qcm, .bool stm, .slice bxm nbm bcm, .slice cxm ncm ccm] 34)).alloc (.cells #[.int .i64 kc, .int .i64 fc, .bool gc, .slice ac anc acc, .slice dc dnc dcc, .string nc, .slice qc qnc qcc, .bool stc, .slice bxc nbc bcc, .slice cxc ncc ccc] 34))) := below_two w _ _
  have l0 : w.heap.size + 1 < ((w.alloc (.cells #[.int .i64 km, .int .i64 fm, .bool gm, .slice am anm acm, .slice dm dnm dcm, .string nm, .slice qm qnm qcm, .bool stm, .slice bxm nbm bcm, .slice cxm ncm ccm] 34)).alloc (.cells #[.int .i64 kc, .int .i64 fc, .bool gc, .slice ac anc acc, .slice dc dnc dcc, .string nc, .slice qc qnc qcc, .bool stc, .slice bxc nbc bcc, .slice cxc ncc ccc] 34)).heap.size := by simp
  have J0 : BlkI ((w.alloc (.cells #[.int .i64 km, .int .i64 fm, .bool gm, .slice am anm acm, .slice dm dnm dcm, .string nm, .slice qm qnm qcm, .bool stm, .slice bxm nbm bcm, .slice cxm ncm ccm] 34)).alloc (.cells #[.int .i64 kc, .int .i64 fc, .bool gc, .slice ac anc acc, .slice dc dnc dcc, .string nc, .slice qc qnc qcc, .bool stc, .slice bxc nbc bcc, .slice cxc ncc ccc] 34)) w.heap.size 34 #[.int .i64 km, .int .i64 fm, .bool gm, .slice am anm acm, .slice dm dnm dcm, .string nm, .slice qm qnm qcm, .bool stm, .slice bxm nbm bcm, .slice cxm ncm ccm] := by
    have h : BlkI (w.alloc (.cells #[.int .i64 km, .int .i64 fm, .bool gm, .slice am anm acm, .slice dm dnm dcm, .string nm, .slice qm qnm qcm, .bool stm, .slice bxm nbm bcm, .slice cxm ncm ccm] 34)) w.heap.size 34 #[.int .i64 km, .int .i64 fm, .bool gm, .slice am anm acm, .slice dm dnm dcm, .string nm, .slice qm qnm qcm, .bool stm, .slice bxm nbm bcm, .slice cxm ncm ccm] := heap_alloc_new _ _
    exact h.below (below_alloc _ _)
  have J1 : BlkI ((w.alloc (.cells #[.int .i64 km, .int .i64 fm, .bool gm, .slice am anm acm, .slice dm dnm dcm, .string nm, .slice qm qnm qcm, .bool stm, .slice bxm nbm bcm, .slice cxm ncm ccm] 34)).alloc (.cells #[.int .i64 kc, .int .i64 fc, .bool gc, .slice ac anc acc, .slice dc dnc dcc, .string nc, .slice qc qnc qcc, .bool stc, .slice bxc nbc bcc, .slice cxc ncc ccc] 34)) (w.heap.size + 1) 34 #[.int .i64 kc, .int .i64 fc, .bool gc, .slice ac anc acc, .slice dc dnc dcc, .string nc, .slice qc qnc qcc, .bool stc, .slice bxc nbc bcc, .slice cxc ncc ccc] := by
    have h : BlkI ((w.alloc (.cells #[.int .i64 km, .int .i64 fm, .bool gm, .slice am anm acm, .slice dm dnm dcm, .string nm, .slice qm qnm qcm, .bool stm, .slice bxm nbm bcm, .slice cxm ncm ccm] 34)).alloc (.cells #[.int .i64 kc, .int .i64 fc, .bool gc, .slice ac anc acc, .slice dc dnc dcc, .string nc, .slice qc qnc qcc, .bool stc, .slice bxc nbc bcc, .slice cxc ncc ccc] 34)) (w.alloc (.cells #[.int .i64 km, .int .i64 fm, .bool gm, .slice am anm acm, .slice dm dnm dcm, .string nm, .slice qm qnm qcm, .bool stm, .slice bxm nbm bcm, .slice cxm ncm ccm] 34)).heap.size 34 #[.int .i64 kc, .int .i64 fc, .bool gc, .slice ac anc acc, .slice dc dnc dcc, .string nc, .slice qc qnc qcc, .bool stc, .slice bxc nbc bcc, .slice cxc ncc ccc] := heap_alloc_new _ _
    rwa [show (w.alloc (.cells #[.int .i64 km, .int .i64 fm, .bool gm, .slice am anm acm, .slice dm dnm dcm, .string nm, .slice qm qnm qcm, .bool stm, .slice bxm nbm bcm, .slice cxm ncm ccm] 34)).heap.size = w.heap.size + 1 by simp] at h
  have J0' : Hid (BlkI ((w.alloc (.cells #[.int .i64 km, .int .i64 fm, .bool gm, .slice am anm acm, .slice dm dnm dcm, .string nm, .slice qm qnm qcm, .bool stm, .slice bxm nbm bcm, .slice cxm ncm ccm] 34)).alloc (.cells #[.int .i64 kc, .int .i64 fc, .bool gc, .slice ac anc acc, .slice dc dnc dcc, .string nc, .slice qc qnc qcc, .bool stc, .slice bxc nbc bcc, .slice cxc ncc ccc] 34)) w.heap.size 34 #[.int .i64 km, .int .i64 fm, .bool gm, .slice am anm acm, .slice dm dnm dcm, .string nm, .slice qm qnm qcm, .bool stm, .slice bxm nbm bcm, .slice cxm ncm ccm]) := J0
  have J1' : Hid (BlkI ((w.alloc (.cells #[.int .i64 km, .int .i64 fm, .bool gm, .slice am anm acm, .slice dm dnm dcm, .string nm, .slice qm qnm qcm, .bool stm, .slice bxm nbm bcm, .slice cxm ncm ccm] 34)).alloc (.cells #[.int .i64 kc, .int .i64 fc, .bool gc, .slice ac anc acc, .slice dc dnc dcc, .string nc, .slice qc qnc qcc, .bool stc, .slice bxc nbc bcc, .slice cxc ncc ccc] 34)) (w.heap.size + 1) 34 #[.int .i64 kc, .int .i64 fc, .bool gc, .slice ac anc acc, .slice dc dnc dcc, .string nc, .slice qc qnc qcc, .bool stc, .slice bxc nbc bcc, .slice cxc ncc ccc]) := J1
  obtain ⟨Z, hZ⟩ : ∃ Z, Hid ((E && ((!stc || stm) && (((List.range nbm).all fun i => match O i with | some j => N i j | none => false) && (List.range ncm).all H))) = Z) := ⟨_, rfl⟩
  rw [hZ.out]
  clear hE hI hN hC hms hcs hmc hO J0 J1
  go_enter Tryz.func11, Tryz.ntmps11
  go_upto_region 1 with fail
  go_cut [26] from 12 to 26 (fun v26 wx => v26 = .bool (!E || (stc && !stm)) ∧ Hid (Below w.heap.size w wx) ∧ w.heap.size + 1 < wx.heap.size ∧ Hid (BlkI wx w.heap.size 34 #[.int .i64 km, .int .i64 fm, .bool gm, .slice am anm acm, .slice dm dnm dcm, .string nm, .slice qm qnm qcm, .bool stm, .slice bxm nbm bcm, .slice cxm ncm ccm]) ∧ Hid (BlkI wx (w.heap.size + 1) 34 #[.int .i64 kc, .int .i64 fc, .bool gc, .slice ac anc acc, .slice dc dnc dcc, .string nc, .slice qc qnc qcc, .bool stc, .slice bxc nbc bcc, .slice cxc ncc ccc]))
  case first =>
    clear hI' hN' hC' hms' hcs' hmc' hO' hZ
    cases E with
    | false =>
      go_wp2_with (go_at_call 28; with_reducible refine hE1.mono ?_; rintro r w3 ⟨rfl, hb3⟩
                   have B3 : Hid (Below w.heap.size w w3) := hb0.out.trans (hb3.mono hb0.out.size)
                   have L3 : w.heap.size + 1 < w3.heap.size := Nat.lt_of_lt_of_le l0 hb3.size
                   have J03 : Hid (BlkI w3 w.heap.size 34 #[.int .i64 km, .int .i64 fm, .bool gm, .slice am anm acm, .slice dm dnm dcm, .string nm, .slice qm qnm qcm, .bool stm, .slice bxm nbm bcm, .slice cxm ncm ccm]) := J0'.out.below hb3
                   have J13 : Hid (BlkI w3 (w.heap.size + 1) 34 #[.int .i64 kc, .int .i64 fc, .bool gc, .slice ac anc acc, .slice dc dnc dcc, .string nc, .slice qc qnc qcc, .bool stc, .slice bxc nbc bcc, .slice cxc ncc ccc]) := J1'.out.below hb3
                   have m7 : w3.cell? ⟨w.heap.size, 7, none⟩ = some (.bool stm) := J03.out.cell 7
                   have c7 : w3.cell? ⟨w.heap.size + 1, 7, none⟩ = some (.bool stc) := J13.out.cell 7)
      go_meet
      case rel => exact ⟨rfl, B3, L3, J03, J13⟩
    | true =>
      cases stc with
      | false =>
        go_wp2_with (go_at_call 28; with_reducible refine hE1.mono ?_; rintro r w3 ⟨rfl, hb3⟩
                     have B3 : Hid (Below w.heap.size w w3) := hb0.out.trans (hb3.mono hb0.out.size)
                     have L3 : w.heap.size + 1 < w3.heap.size := Nat.lt_of_lt_of_le l0 hb3.size
                     have J03 : Hid (BlkI w3 w.heap.size 34 #[.int .i64 km, .int .i64 fm, .bool gm, .slice am anm acm, .slice dm dnm dcm, .string nm, .slice qm qnm qcm, .bool stm, .slice bxm nbm bcm, .slice cxm ncm ccm]) := J0'.out.below hb3
                     have J13 : Hid (BlkI w3 (w.heap.size + 1) 34 #[.int .i64 kc, .int .i64 fc, .bool gc, .slice ac anc acc, .slice dc dnc dcc, .string nc, .slice qc qnc qcc, .bool false, .slice bxc nbc bcc, .slice cxc ncc ccc]) := J1'.out.below hb3
                     have m7 : w3.cell? ⟨w.heap.size, 7, none⟩ = some (.bool stm) := J03.out.cell 7
                     have c7 : w3.cell? ⟨w.heap.size + 1, 7, none⟩ = some (.bool false) := J13.out.cell 7)
        go_meet
        case rel => exact ⟨rfl, B3, L3, J03, J13⟩
      | true =>
        cases stm with
        | false =>
          go_wp2_with (go_at_call 28; with_reducible refine hE1.mono ?_; rintro r w3 ⟨rfl, hb3⟩
                       have B3 : Hid (Below w.heap.size w w3) := hb0.out.trans (hb3.mono hb0.out.size)
                       have L3 : w.heap.size + 1 < w3.heap.size := Nat.lt_of_lt_of_le l0 hb3.size
                       have J03 : Hid (BlkI w3 w.heap.size 34 #[.int .i64 km, .int .i64 fm, .bool gm, .slice am anm acm, .slice dm dnm dcm, .string nm, .slice qm qnm qcm, .bool false, .slice bxm nbm bcm, .slice cxm ncm ccm]) := J0'.out.below hb3
                       have J13 : Hid (BlkI w3 (w.heap.size + 1) 34 #[.int .i64 kc, .int .i64 fc, .bool gc, .slice ac anc acc, .slice dc dnc dcc, .string nc, .slice qc qnc qcc, .bool true, .slice bxc nbc bcc, .slice cxc ncc ccc]) := J1'.out.below hb3
                       have m7 : w3.cell? ⟨w.heap.size, 7, none⟩ = some (.bool false) := J03.out.cell 7
                       have c7 : w3.cell? ⟨w.heap.size + 1, 7, none⟩ = some (.bool true) := J13.out.cell 7)
          go_meet
          case rel => exact ⟨rfl, B3, L3, J03, J13⟩
        | true =>
          go_wp2_with (go_at_call 28; with_reducible refine hE1.mono ?_; rintro r w3 ⟨rfl, hb3⟩
                       have B3 : Hid (Below w.heap.size w w3) := hb0.out.trans (hb3.mono hb0.out.size)
                       have L3 : w.heap.size + 1 < w3.heap.size := Nat.lt_of_lt_of_le l0 hb3.size
                       have J03 : Hid (BlkI w3 w.heap.size 34 #[.int .i64 km, .int .i64 fm, .bool gm, .slice am anm acm, .slice dm dnm dcm, .string nm, .slice qm qnm qcm, .bool true, .slice bxm nbm bcm, .slice cxm ncm ccm]) := J0'.out.below hb3
                       have J13 : Hid (BlkI w3 (w.heap.size + 1) 34 #[.int .i64 kc, .int .i64 fc, .bool gc, .slice ac anc acc, .slice dc dnc dcc, .string nc, .slice qc qnc qcc, .bool true, .slice bxc nbc bcc, .slice cxc ncc ccc]) := J1'.out.below hb3
                       have m7 : w3.cell? ⟨w.heap.size, 7, none⟩ = some (.bool true) := J03.out.cell 7
                       have c7 : w3.cell? ⟨w.heap.size + 1, 7, none⟩ = some (.bool true) := J13.out.cell 7)
          go_meet
          case rel => exact ⟨rfl, B3, L3, J03, J13⟩
  case rest =>
    obtain ⟨rfl, Bc, Lc, J0c, J1c⟩ := hcut
    clear hE1 hb0 l0 J0' J1'
    by_cases hq : (!E || (stc && !stm)) = true
    · rw [hq]
      have hq' : Hid ((!E || (stc && !stm)) = true) := hq
      clear hq
      go_wp2_with fail
      go_ret
      exact ⟨by rw [← hZ.out]; have := hq'.out; cases E <;> cases stc <;> cases stm <;> simp_all, Bc.out⟩
    · have hq1 : (!E || (stc && !stm)) = false := by simpa using hq
      rw [hq1]
      have hq' : Hid (E = true ∧ (!stc || stm) = true) := by
        show E = true ∧ (!stc || stm) = true
        cases E <;> cases stc <;> cases stm <;> simp_all
      have hZ2 : Hid ((((List.range nbm).all fun i => match O i with | some j => N i j | none => false) && (List.range ncm).all H) = Z) := by
        show _ = Z
        rw [← hZ.out, hq'.out.1, hq'.out.2]
        rfl
      clear hq hq1 hZ hq'
      have m8 : wc.cell? ⟨w.heap.size, 8, none⟩ = some (.slice bxm nbm bcm) := J0c.out.cell 8
      go_wp2_with fail
      go_loopw [30] (fun t wr => ∃ i : Nat, i ≤ nbm ∧ t = .int .i64 i ∧ Hid (∀ q, q < i → (match O q with | some j => N q j | none => false) = true) ∧ Hid (Below wc.heap.size wc wr)) (fun t _ => nbm - (intOf t).toNat)
      case atStart => exact ⟨0, Nat.zero_le _, rfl, fun j hj => by omega, Below.refl _ _⟩
      case round =>
        obtain ⟨i, hi, rfl, hlow, hbw⟩ := hrel
        have Br : Hid (Below w.heap.size w wr) := Bc.out.trans (hbw.out.mono Bc.out.size)
        have J1r : Hid (BlkI wr (w.heap.size + 1) 34 #[.int .i64 kc, .int .i64 fc, .bool gc, .slice ac anc acc, .slice dc dnc dcc, .string nc, .slice qc qnc qcc, .bool stc, .slice bxc nbc bcc, .slice cxc ncc ccc]) := J1c.out.below hbw.out
        clear m8
        by_cases hlt : i < nbm
        · have hlt' : (i : Int) < (nbm : Int) := by omega
          obtain ⟨b, o, rfl, hbl, hr⟩ := hms'.out.resolve_left (by omega)
          have hr := rangeAt_below (hr i hlt) Br.out hbl
          have x0 : wr.cell? ⟨b, o + i * 9, none⟩ = some (.string (ms i).m) := by simpa using hr 0 _ rfl
          have x1 : wr.cell? ⟨b, o + i * 9 + 1, none⟩ = some (.bool (ms i).g1) := by simpa using hr 1 _ rfl
          have x2 : wr.cell? ⟨b, o + i * 9 + 2, none⟩ = some (.slice (md i).q1 (md i).l1 (md i).c1) := by simpa using hr 2 _ rfl
          have x3 : wr.cell? ⟨b, o + i * 9 + 3, none⟩ = some (.slice (md i).p1 (md i).m1 (md i).e1) := by simpa using hr 3 _ rfl
          have x4 : wr.cell? ⟨b, o + i * 9 + 4, none⟩ = some (.bool (ms i).g2) := by simpa using hr 4 _ rfl
          have x5 : wr.cell? ⟨b, o + i * 9 + 5, none⟩ = some (.slice (md i).q2 (md i).l2 (md i).c2) := by simpa using hr 5 _ rfl
          have x6 : wr.cell? ⟨b, o + i * 9 + 6, none⟩ = some (.slice (md i).p2 (md i).m2 (md i).e2) := by simpa using hr 6 _ rfl
          have x7 : wr.cell? ⟨b, o + i * 9 + 7, none⟩ = some (.bool (ms i).li) := by simpa using hr 7 _ rfl
          have x8 : wr.cell? ⟨b, o + i * 9 + 8, none⟩ = some (.bool (ms i).hh) := by simpa using hr 8 _ rfl
          have hbB : Below wr.heap.size wr (wr.alloc (.cells #[.string (ms i).m, .bool (ms i).g1, .slice (md i).q1 (md i).l1 (md i).c1, .slice (md i).p1 (md i).m1 (md i).e1, .bool (ms i).g2, .slice (md i).q2 (md i).l2 (md i).c2, .slice (md i).p2 (md i).m2 (md i).e2, .bool (ms i).li, .bool (ms i).hh] 58)) := below_alloc wr _
          have BB : Hid (Below w.heap.size w (wr.alloc (.cells #[.string (ms i).m, .bool (ms i).g1, .slice (md i).q1 (md i).l1 (md i).c1, .slice (md i).p1 (md i).m1 (md i).e1, .bool (ms i).g2, .slice (md i).q2 (md i).l2 (md i).c2, .slice (md i).p2 (md i).m2 (md i).e2, .bool (ms i).li, .bool (ms i).hh] 58))) := Br.out.trans (hbB.mono Br.out.size)
          have lB : wr.heap.size < (wr.alloc (.cells #[.string (ms i).m, .bool (ms i).g1, .slice (md i).q1 (md i).l1 (md i).c1, .slice (md i).p1 (md i).m1 (md i).e1, .bool (ms i).g2, .slice (md i).q2 (md i).l2 (md i).c2, .slice (md i).p2 (md i).m2 (md i).e2, .bool (ms i).li, .bool (ms i).hh] 58)).heap.size := by simp
          have JB : Hid (BlkI (wr.alloc (.cells #[.string (ms i).m, .bool (ms i).g1, .slice (md i).q1 (md i).l1 (md i).c1, .slice (md i).p1 (md i).m1 (md i).e1, .bool (ms i).g2, .slice (md i).q2 (md i).l2 (md i).c2, .slice (md i).p2 (md i).m2 (md i).e2, .bool (ms i).li, .bool (ms i).hh] 58)) wr.heap.size 58 #[.string (ms i).m, .bool (ms i).g1, .slice (md i).q1 (md i).l1 (md i).c1, .slice (md i).p1 (md i).m1 (md i).e1, .bool (ms i).g2, .slice (md i).q2 (md i).l2 (md i).c2, .slice (md i).p2 (md i).m2 (md i).e2, .bool (ms i).li, .bool (ms i).hh]) := heap_alloc_new _ _
          have c8 : (wr.alloc (.cells #[.string (ms i).m, .bool (ms i).g1, .slice (md i).q1 (md i).l1 (md i).c1, .slice (md i).p1 (md i).m1 (md i).e1, .bool (ms i).g2, .slice (md i).q2 (md i).l2 (md i).c2, .slice (md i).p2 (md i).m2 (md i).e2, .bool (ms i).li, .bool (ms i).hh] 58)).cell? ⟨w.heap.size + 1, 8, none⟩ = some (.slice bxc nbc bcc) := (J1r.out.below hbB).cell 8
          have hi1 := hI'.out i hlt _ BB.out wr.heap.size lB (JB.out.cell 0)
          obtain ⟨Q, hQ⟩ : ∃ Q, O i = Q := ⟨_, rfl⟩
          have hQ : Hid (O i = Q) := hQ
          rw [hQ.out] at hi1
          clear hr
          cases Q with
          | none =>
            have hneg : (ixV none : Int) < 0 := by decide
            generalize ixV none = rr at *
            go_wp2_with (go_at_call 29; with_reducible refine hi1.mono ?_; rintro r w4 ⟨rfl, hb4⟩)
            go_ret
            exact ⟨by rw [← hZ2.out, all_no hlt (by rw [hQ.out])]; rfl, BB.out.trans (hb4.mono BB.out.size)⟩
          | some j =>
            have hneg : ¬ (ixV (some j) : Int) < 0 := fun h => by simp only [ixV] at h; omega
            have hij : (ixV (some j) : Int) = (j : Int) := rfl
            rw [hij] at hi1 hneg
            have hjl := hO'.out i j hQ.out
            obtain ⟨b2, o2, rfl, hbl2, hr2⟩ := hcs'.out.resolve_left (by omega)
            have hr2 : Hid (w.rangeAt b2 (o2 + j * 9) ((cs j).cells (cd j))) := hr2 j hjl
            have hjl' : (j : Int) < (nbc : Int) := by omega
            have hnj : ¬ nbc ≤ j := by omega
            obtain ⟨V, hV⟩ : ∃ V, N i j = V := ⟨_, rfl⟩
            have hV : Hid (N i j = V) := hV
            go_upto_region 9 with (go_at_call 29; with_reducible refine hi1.mono ?_; rintro r w4 ⟨rfl, hb4⟩)
            have B4 : Hid (Below w.heap.size w w4) := BB.out.trans (hb4.mono BB.out.size)
            have hw4 : w.heap.size ≤ w4.heap.size := B4.out.size
            have J14 : BlkI w4 (w.heap.size + 1) 34 #[.int .i64 kc, .int .i64 fc, .bool gc, .slice ac anc acc, .slice dc dnc dcc, .string nc, .slice qc qnc qcc, .bool stc, .slice (some ⟨b2, o2, none⟩) nbc bcc, .slice cxc ncc ccc] := (J1r.out.below hbB).below hb4
            have J14 : Hid (BlkI w4.drew (w.heap.size + 1) 34 #[.int .i64 kc, .int .i64 fc, .bool gc, .slice ac anc acc, .slice dc dnc dcc, .string nc, .slice qc qnc qcc, .bool stc, .slice (some ⟨b2, o2, none⟩) nbc bcc, .slice cxc ncc ccc]) := J14
            have P4 : BlkI w4 wr.heap.size 58 #[.string (ms i).m, .bool (ms i).g1, .slice (md i).q1 (md i).l1 (md i).c1, .slice (md i).p1 (md i).m1 (md i).e1, .bool (ms i).g2, .slice (md i).q2 (md i).l2 (md i).c2, .slice (md i).p2 (md i).m2 (md i).e2, .bool (ms i).li, .bool (ms i).hh] := JB.out.below hb4
            have P4 : Hid (BlkI w4.drew wr.heap.size 58 #[.string (ms i).m, .bool (ms i).g1, .slice (md i).q1 (md i).l1 (md i).c1, .slice (md i).p1 (md i).m1 (md i).e1, .bool (ms i).g2, .slice (md i).q2 (md i).l2 (md i).c2, .slice (md i).p2 (md i).m2 (md i).e2, .bool (ms i).li, .bool (ms i).hh]) := P4
            have hcr : w4.drew.rangeAt b2 (o2 + j * 9) ((cs j).cells (cd j)) := rangeAt_below hr2.out B4.out.drew hbl2
            have hn1 := hN'.out i j hlt hQ.out w4.drew B4.out.drew
            rw [hV.out] at hn1
            have Bfin : Hid (Below wc.heap.size wc w4.drew) := hbw.out.trans ((hbB.trans ((hb4.drew).mono hbB.size)).mono hbw.out.size)
            clear x0 x1 x2 x3 x4 x5 x6 x7 x8 c8 hi1
            cases V with
            | false =>
              have hS0 : (fun z => BlkI z (w.heap.size + 1) 34 #[.int .i64 kc, .int .i64 fc, .bool gc, .slice ac anc acc, .slice dc dnc dcc, .string nc, .slice qc qnc qcc, .bool stc, .slice (some ⟨b2, o2, none⟩) nbc bcc, .slice cxc ncc ccc] ∧ BlkI z wr.heap.size 58 #[.string (ms i).m, .bool (ms i).g1, .slice (md i).q1 (md i).l1 (md i).c1, .slice (md i).p1 (md i).m1 (md i).e1, .bool (ms i).g2, .slice (md i).q2 (md i).l2 (md i).c2, .slice (md i).p2 (md i).m2 (md i).e2, .bool (ms i).li, .bool (ms i).hh] ∧ z.rangeAt b2 (o2 + j * 9) ((cs j).cells (cd j))) w4.drew := ⟨J14.out, P4.out, hcr⟩
              refine wp_region_held_drew (S := (fun z => BlkI z (w.heap.size + 1) 34 #[.int .i64 kc, .int .i64 fc, .bool gc, .slice ac anc acc, .slice dc dnc dcc, .string nc, .slice qc qnc qcc, .bool stc, .slice (some ⟨b2, o2, none⟩) nbc bcc, .slice cxc ncc ccc] ∧ BlkI z wr.heap.size 58 #[.string (ms i).m, .bool (ms i).g1, .slice (md i).q1 (md i).l1 (md i).c1, .slice (md i).p1 (md i).m1 (md i).e1, .bool (ms i).g2, .slice (md i).q2 (md i).l2 (md i).c2, .slice (md i).p2 (md i).m2 (md i).e2, .bool (ms i).li, .bool (ms i).hh] ∧ z.rangeAt b2 (o2 + j * 9) ((cs j).cells (cd j)))) (by kernel_rfl) hS0 (fun hHeld => ?_)
              refine wpAnyH_take (i := 0) (v := .pointer (some ⟨w.heap.size + 1, 8, none⟩)) rfl (by kernel_rfl) (by kernel_rfl) (by kernel_rfl) (fun _ _ _ h => h) (.inl ⟨by rfl, fun z hSz => by go_simp⟩) hHeld ?_
              simp only [Act.put, List.getElem_toArray, List.getElem_cons_succ, List.getElem_cons_zero, List.setIfInBounds_toArray, List.set_cons_zero, List.set_cons_succ]
              refine wpAnyH_take (i := 1) (v := .slice (some ⟨b2, o2, none⟩) nbc bcc) rfl (by kernel_rfl) (by kernel_rfl) (by kernel_rfl) (fun _ _ _ h => h) (.inl ⟨by rfl, fun z hSz => by (have h8 := hSz.1.cell 8; go_simp)⟩) hHeld ?_
              simp only [Act.put, List.getElem_toArray, List.getElem_cons_succ, List.getElem_cons_zero, List.setIfInBounds_toArray, List.set_cons_zero, List.set_cons_succ]
              refine wpAnyH_take (i := 2) (v := .int .i64 (j : Int)) rfl (by kernel_rfl) (by kernel_rfl) (by kernel_rfl) (fun _ _ _ h => h) (.inl ⟨by rfl, fun z hSz => by go_simp⟩) hHeld ?_
              simp only [Act.put, List.getElem_toArray, List.getElem_cons_succ, List.getElem_cons_zero, List.setIfInBounds_toArray, List.set_cons_zero, List.set_cons_succ]
              refine wpAnyH_take (i := 3) (v := .pointer (some ⟨b2, o2 + j * 9, none⟩)) rfl (by kernel_rfl) (by kernel_rfl) (by kernel_rfl) (fun _ _ _ h => h) (.inl ⟨by rfl, fun z hSz => by go_simp⟩) hHeld ?_
              simp only [Act.put, List.getElem_toArray, List.getElem_cons_succ, List.getElem_cons_zero, List.setIfInBounds_toArray, List.set_cons_zero, List.set_cons_succ]
              refine wpAnyH_take (i := 4) (v := .pointer (some ⟨b2, o2 + j * 9 + 1, none⟩)) rfl (by kernel_rfl) (by kernel_rfl) (by kernel_rfl) (fun _ _ _ h => h) (.inl ⟨by rfl, fun z hSz => by go_simp⟩) hHeld ?_
              simp only [Act.put, List.getElem_toArray, List.getElem_cons_succ, List.getElem_cons_zero, List.setIfInBounds_toArray, List.set_cons_zero, List.set_cons_succ]
              refine wpAnyH_take (i := 5) (v := .agg #[.bool (cs j).g1, .slice (cd j).q1 (cd j).l1 (cd j).c1, .slice (cd j).p1 (cd j).m1 (cd j).e1, .bool (cs j).g2, .slice (cd j).q2 (cd j).l2 (cd j).c2, .slice (cd j).p2 (cd j).m2 (cd j).e2, .bool (cs j).li, .bool (cs j).hh]) rfl (by kernel_rfl) (by kernel_rfl) (by kernel_rfl) (fun _ _ _ h => h) (.inl ⟨by rfl, fun z hSz => by (have h0 := hSz.2.2 1 _ rfl; have g0 : z.cell? ⟨b2, o2 + j * 9 + 1, none⟩ = some (.bool (cs j).g1) := (by simpa [Nat.add_assoc] using h0); have h1 := hSz.2.2 2 _ rfl; have g1 : z.cell? ⟨b2, o2 + j * 9 + 1 + 1, none⟩ = some (.slice (cd j).q1 (cd j).l1 (cd j).c1) := (by simpa [Nat.add_assoc] using h1); have h2 := hSz.2.2 3 _ rfl; have g2 : z.cell? ⟨b2, o2 + j * 9 + 1 + 2, none⟩ = some (.slice (cd j).p1 (cd j).m1 (cd j).e1) := (by simpa [Nat.add_assoc] using h2); have h3 := hSz.2.2 4 _ rfl; have g3 : z.cell? ⟨b2, o2 + j * 9 + 1 + 3, none⟩ = some (.bool (cs j).g2) := (by simpa [Nat.add_assoc] using h3); have h4 := hSz.2.2 5 _ rfl; have g4 : z.cell? ⟨b2, o2 + j * 9 + 1 + 4, none⟩ = some (.slice (cd j).q2 (cd j).l2 (cd j).c2) := (by simpa [Nat.add_assoc] using h4); have h5 := hSz.2.2 6 _ rfl; have g5 : z.cell? ⟨b2, o2 + j * 9 + 1 + 5, none⟩ = some (.slice (cd j).p2 (cd j).m2 (cd j).e2) := (by simpa [Nat.add_assoc] using h5); have h6 := hSz.2.2 7 _ rfl; have g6 : z.cell? ⟨b2, o2 + j * 9 + 1 + 6, none⟩ = some (.bool (cs j).li) := (by simpa [Nat.add_assoc] using h6); have h7 := hSz.2.2 8 _ rfl; have g7 : z.cell? ⟨b2, o2 + j * 9 + 1 + 7, none⟩ = some (.bool (cs j).hh) := (by simpa [Nat.add_assoc] using h7); clear h0 h1 h2 h3 h4 h5 h6 h7; go_simp)⟩) hHeld ?_
              simp only [Act.put, List.getElem_toArray, List.getElem_cons_succ, List.getElem_cons_zero, List.setIfInBounds_toArray, List.set_cons_zero, List.set_cons_succ]
              refine wpAnyH_take (i := 6) (v := .pointer (some ⟨wr.heap.size, 1, none⟩)) rfl (by kernel_rfl) (by kernel_rfl) (by kernel_rfl) (fun _ _ _ h => h) (.inl ⟨by rfl, fun z hSz => by go_simp⟩) hHeld ?_
              simp only [Act.put, List.getElem_toArray, List.getElem_cons_succ, List.getElem_cons_zero, List.setIfInBounds_toArray, List.set_cons_zero, List.set_cons_succ]
              refine wpAnyH_take (i := 7) (v := .agg #[.bool (ms i).g1, .slice (md i).q1 (md i).l1 (md i).c1, .slice (md i).p1 (md i).m1 (md i).e1, .bool (ms i).g2, .slice (md i).q2 (md i).l2 (md i).c2, .slice (md i).p2 (md i).m2 (md i).e2, .bool (ms i).li, .bool (ms i).hh]) rfl (by kernel_rfl) (by kernel_rfl) (by kernel_rfl) (fun _ _ _ h => h) (.inl ⟨by rfl, fun z hSz => by (have h1 := hSz.2.1.cell 1; have h2 := hSz.2.1.cell 2; have h3 := hSz.2.1.cell 3; have h4 := hSz.2.1.cell 4; have h5 := hSz.2.1.cell 5; have h6 := hSz.2.1.cell 6; have h7 := hSz.2.1.cell 7; have h8 := hSz.2.1.cell 8; go_simp)⟩) hHeld ?_
              simp only [Act.put, List.getElem_toArray, List.getElem_cons_succ, List.getElem_cons_zero, List.setIfInBounds_toArray, List.set_cons_zero, List.set_cons_succ]
              refine wpAnyH_ready (rs := [8]) (by kernel_rfl) (by simp) ?_
              refine AllReadyH.cons rfl (fun K hK => ?_) AllReadyH.nil
              go_simp
              with_reducible refine hn1.mono ?_
              rintro r w5 ⟨rfl, hb5⟩
              have hS5 : (fun z => BlkI z (w.heap.size + 1) 34 #[.int .i64 kc, .int .i64 fc, .bool gc, .slice ac anc acc, .slice dc dnc dcc, .string nc, .slice qc qnc qcc, .bool stc, .slice (some ⟨b2, o2, none⟩) nbc bcc, .slice cxc ncc ccc] ∧ BlkI z wr.heap.size 58 #[.string (ms i).m, .bool (ms i).g1, .slice (md i).q1 (md i).l1 (md i).c1, .slice (md i).p1 (md i).m1 (md i).e1, .bool (ms i).g2, .slice (md i).q2 (md i).l2 (md i).c2, .slice (md i).p2 (md i).m2 (md i).e2, .bool (ms i).li, .bool (ms i).hh] ∧ z.rangeAt b2 (o2 + j * 9) ((cs j).cells (cd j))) w5 := ⟨J14.out.below hb5, P4.out.below hb5, rangeAt_below hcr hb5 (by show b2 < w4.heap.size; omega)⟩
              refine hK.out _ _ hS5 (fun hHeld1 => ?_)
              clear hK K hHeld
              try simp only [Act.put, List.getElem_toArray, List.getElem_cons_succ, List.getElem_cons_zero, List.setIfInBounds_toArray, List.set_cons_zero, List.set_cons_succ]
              refine wpAnyH_take (i := 9) (v := .tuple #[.bool false, .int .i64 0]) rfl (by kernel_rfl) (by kernel_rfl) (by kernel_rfl) (fun _ _ _ h => h) (.inl ⟨by rfl, fun z hSz => by go_simp⟩) hHeld1 ?_
              simp only [Act.put, List.getElem_toArray, List.getElem_cons_succ, List.getElem_cons_zero, List.setIfInBounds_toArray, List.set_cons_zero, List.set_cons_succ]
              refine wpAnyH_take (i := 10) (v := .bool false) rfl (by kernel_rfl) (by kernel_rfl) (by kernel_rfl) (fun _ _ _ h => h) (.inl ⟨by rfl, fun z hSz => by go_simp⟩) hHeld1 ?_
              simp only [Act.put, List.getElem_toArray, List.getElem_cons_succ, List.getElem_cons_zero, List.setIfInBounds_toArray, List.set_cons_zero, List.set_cons_succ]
              refine wpAnyH_take (i := 11) (v := .int .i64 0) rfl (by kernel_rfl) (by kernel_rfl) (by kernel_rfl) (fun _ _ _ h => h) (.inl ⟨by rfl, fun z hSz => by go_simp⟩) hHeld1 ?_
              simp only [Act.put, List.getElem_toArray, List.getElem_cons_succ, List.getElem_cons_zero, List.setIfInBounds_toArray, List.set_cons_zero, List.set_cons_succ]
              refine wpAnyH_take (i := 12) (v := .bool false) rfl (by kernel_rfl) (by kernel_rfl) (by kernel_rfl) (fun _ _ _ h => h) (.inl ⟨by rfl, fun z hSz => by go_simp⟩) hHeld1 ?_
              simp only [Act.put, List.getElem_toArray, List.getElem_cons_succ, List.getElem_cons_zero, List.setIfInBounds_toArray, List.set_cons_zero, List.set_cons_succ]
              refine wpAnyH_take (i := 13) (v := .int .i64 0) rfl (by kernel_rfl) (by kernel_rfl) (by kernel_rfl) (fun _ _ _ h => h) (.inl ⟨by rfl, fun z hSz => by go_simp⟩) hHeld1 ?_
              simp only [Act.put, List.getElem_toArray, List.getElem_cons_succ, List.getElem_cons_zero, List.setIfInBounds_toArray, List.set_cons_zero, List.set_cons_succ]
              refine wpAnyH_done (by kernel_rfl) ?_ _
              go_wp2_with fail
              go_ret
              exact ⟨by rw [← hZ2.out, all_no hlt (by rw [hQ.out]; exact hV.out)]; rfl, B4.out.drew.trans (hb5.mono B4.out.drew.size)⟩
            | true =>
              have hS0 : (fun z => BlkI z (w.heap.size + 1) 34 #[.int .i64 kc, .int .i64 fc, .bool gc, .slice ac anc acc, .slice dc dnc dcc, .string nc, .slice qc qnc qcc, .bool stc, .slice (some ⟨b2, o2, none⟩) nbc bcc, .slice cxc ncc ccc] ∧ BlkI z wr.heap.size 58 #[.string (ms i).m, .bool (ms i).g1, .slice (md i).q1 (md i).l1 (md i).c1, .slice (md i).p1 (md i).m1 (md i).e1, .bool (ms i).g2, .slice (md i).q2 (md i).l2 (md i).c2, .slice (md i).p2 (md i).m2 (md i).e2, .bool (ms i).li, .bool (ms i).hh] ∧ z.rangeAt b2 (o2 + j * 9) ((cs j).cells (cd j))) w4.drew := ⟨J14.out, P4.out, hcr⟩
              refine wp_region_held_drew (S := (fun z => BlkI z (w.heap.size + 1) 34 #[.int .i64 kc, .int .i64 fc, .bool gc, .slice ac anc acc, .slice dc dnc dcc, .string nc, .slice qc qnc qcc, .bool stc, .slice (some ⟨b2, o2, none⟩) nbc bcc, .slice cxc ncc ccc] ∧ BlkI z wr.heap.size 58 #[.string (ms i).m, .bool (ms i).g1, .slice (md i).q1 (md i).l1 (md i).c1, .slice (md i).p1 (md i).m1 (md i).e1, .bool (ms i).g2, .slice (md i).q2 (md i).l2 (md i).c2, .slice (md i).p2 (md i).m2 (md i).e2, .bool (ms i).li, .bool (ms i).hh] ∧ z.rangeAt b2 (o2 + j * 9) ((cs j).cells (cd j)))) (by kernel_rfl) hS0 (fun hHeld => ?_)
              refine wpAnyH_take (i := 0) (v := .pointer (some ⟨w.heap.size + 1, 8, none⟩)) rfl (by kernel_rfl) (by kernel_rfl) (by kernel_rfl) (fun _ _ _ h => h) (.inl ⟨by rfl, fun z hSz => by go_simp⟩) hHeld ?_
              simp only [Act.put, List.getElem_toArray, List.getElem_cons_succ, List.getElem_cons_zero, List.setIfInBounds_toArray, List.set_cons_zero, List.set_cons_succ]
              refine wpAnyH_take (i := 1) (v := .slice (some ⟨b2, o2, none⟩) nbc bcc) rfl (by kernel_rfl) (by kernel_rfl) (by kernel_rfl) (fun _ _ _ h => h) (.inl ⟨by rfl, fun z hSz => by (have h8 := hSz.1.cell 8; go_simp)⟩) hHeld ?_
              simp only [Act.put, List.getElem_toArray, List.getElem_cons_succ, List.getElem_cons_zero, List.setIfInBounds_toArray, List.set_cons_zero, List.set_cons_succ]
              refine wpAnyH_take (i := 2) (v := .int .i64 (j : Int)) rfl (by kernel_rfl) (by kernel_rfl) (by kernel_rfl) (fun _ _ _ h => h) (.inl ⟨by rfl, fun z hSz => by go_simp⟩) hHeld ?_
              simp only [Act.put, List.getElem_toArray, List.getElem_cons_succ, List.getElem_cons_zero, List.setIfInBounds_toArray, List.set_cons_zero, List.set_cons_succ]
              refine wpAnyH_take (i := 3) (v := .pointer (some ⟨b2, o2 + j * 9, none⟩)) rfl (by kernel_rfl) (by kernel_rfl) (by kernel_rfl) (fun _ _ _ h => h) (.inl ⟨by rfl, fun z hSz => by go_simp⟩) hHeld ?_
              simp only [Act.put, List.getElem_toArray, List.getElem_cons_succ, List.getElem_cons_zero, List.setIfInBounds_toArray, List.set_cons_zero, List.set_cons_succ]
              refine wpAnyH_take (i := 4) (v := .pointer (some ⟨b2, o2 + j * 9 + 1, none⟩)) rfl (by kernel_rfl) (by kernel_rfl) (by kernel_rfl) (fun _ _ _ h => h) (.inl ⟨by rfl, fun z hSz => by go_simp⟩) hHeld ?_
              simp only [Act.put, List.getElem_toArray, List.getElem_cons_succ, List.getElem_cons_zero, List.setIfInBounds_toArray, List.set_cons_zero, List.set_cons_succ]
              refine wpAnyH_take (i := 5) (v := .agg #[.bool (cs j).g1, .slice (cd j).q1 (cd j).l1 (cd j).c1, .slice (cd j).p1 (cd j).m1 (cd j).e1, .bool (cs j).g2, .slice (cd j).q2 (cd j).l2 (cd j).c2, .slice (cd j).p2 (cd j).m2 (cd j).e2, .bool (cs j).li, .bool (cs j).hh]) rfl (by kernel_rfl) (by kernel_rfl) (by kernel_rfl) (fun _ _ _ h => h) (.inl ⟨by rfl, fun z hSz => by (have h0 := hSz.2.2 1 _ rfl; have g0 : z.cell? ⟨b2, o2 + j * 9 + 1, none⟩ = some (.bool (cs j).g1) := (by simpa [Nat.add_assoc] using h0); have h1 := hSz.2.2 2 _ rfl; have g1 : z.cell? ⟨b2, o2 + j * 9 + 1 + 1, none⟩ = some (.slice (cd j).q1 (cd j).l1 (cd j).c1) := (by simpa [Nat.add_assoc] using h1); have h2 := hSz.2.2 3 _ rfl; have g2 : z.cell? ⟨b2, o2 + j * 9 + 1 + 2, none⟩ = some (.slice (cd j).p1 (cd j).m1 (cd j).e1) := (by simpa [Nat.add_assoc] using h2); have h3 := hSz.2.2 4 _ rfl; have g3 : z.cell? ⟨b2, o2 + j * 9 + 1 + 3, none⟩ = some (.bool (cs j).g2) := (by simpa [Nat.add_assoc] using h3); have h4 := hSz.2.2 5 _ rfl; have g4 : z.cell? ⟨b2, o2 + j * 9 + 1 + 4, none⟩ = some (.slice (cd j).q2 (cd j).l2 (cd j).c2) := (by simpa [Nat.add_assoc] using h4); have h5 := hSz.2.2 6 _ rfl; have g5 : z.cell? ⟨b2, o2 + j * 9 + 1 + 5, none⟩ = some (.slice (cd j).p2 (cd j).m2 (cd j).e2) := (by simpa [Nat.add_assoc] using h5); have h6 := hSz.2.2 7 _ rfl; have g6 : z.cell? ⟨b2, o2 + j * 9 + 1 + 6, none⟩ = some (.bool (cs j).li) := (by simpa [Nat.add_assoc] using h6); have h7 := hSz.2.2 8 _ rfl; have g7 : z.cell? ⟨b2, o2 + j * 9 + 1 + 7, none⟩ = some (.bool (cs j).hh) := (by simpa [Nat.add_assoc] using h7); clear h0 h1 h2 h3 h4 h5 h6 h7; go_simp)⟩) hHeld ?_
              simp only [Act.put, List.getElem_toArray, List.getElem_cons_succ, List.getElem_cons_zero, List.setIfInBounds_toArray, List.set_cons_zero, List.set_cons_succ]
              refine wpAnyH_take (i := 6) (v := .pointer (some ⟨wr.heap.size, 1, none⟩)) rfl (by kernel_rfl) (by kernel_rfl) (by kernel_rfl) (fun _ _ _ h => h) (.inl ⟨by rfl, fun z hSz => by go_simp⟩) hHeld ?_
              simp only [Act.put, List.getElem_toArray, List.getElem_cons_succ, List.getElem_cons_zero, List.setIfInBounds_toArray, List.set_cons_zero, List.set_cons_succ]
              refine wpAnyH_take (i := 7) (v := .agg #[.bool (ms i).g1, .slice (md i).q1 (md i).l1 (md i).c1, .slice (md i).p1 (md i).m1 (md i).e1, .bool (ms i).g2, .slice (md i).q2 (md i).l2 (md i).c2, .slice (md i).p2 (md i).m2 (md i).e2, .bool (ms i).li, .bool (ms i).hh]) rfl (by kernel_rfl) (by kernel_rfl) (by kernel_rfl) (fun _ _ _ h => h) (.inl ⟨by rfl, fun z hSz => by (have h1 := hSz.2.1.cell 1; have h2 := hSz.2.1.cell 2; have h3 := hSz.2.1.cell 3; have h4 := hSz.2.1.cell 4; have h5 := hSz.2.1.cell 5; have h6 := hSz.2.1.cell 6; have h7 := hSz.2.1.cell 7; have h8 := hSz.2.1.cell 8; go_simp)⟩) hHeld ?_
              simp only [Act.put, List.getElem_toArray, List.getElem_cons_succ, List.getElem_cons_zero, List.setIfInBounds_toArray, List.set_cons_zero, List.set_cons_succ]
              refine wpAnyH_ready (rs := [8]) (by kernel_rfl) (by simp) ?_
              refine AllReadyH.cons rfl (fun K hK => ?_) AllReadyH.nil
              go_simp
              with_reducible refine hn1.mono ?_
              rintro r w5 ⟨rfl, hb5⟩
              have hS5 : (fun z => BlkI z (w.heap.size + 1) 34 #[.int .i64 kc, .int .i64 fc, .bool gc, .slice ac anc acc, .slice dc dnc dcc, .string nc, .slice qc qnc qcc, .bool stc, .slice (some ⟨b2, o2, none⟩) nbc bcc, .slice cxc ncc ccc] ∧ BlkI z wr.heap.size 58 #[.string (ms i).m, .bool (ms i).g1, .slice (md i).q1 (md i).l1 (md i).c1, .slice (md i).p1 (md i).m1 (md i).e1, .bool (ms i).g2, .slice (md i).q2 (md i).l2 (md i).c2, .slice (md i).p2 (md i).m2 (md i).e2, .bool (ms i).li, .bool (ms i).hh] ∧ z.rangeAt b2 (o2 + j * 9) ((cs j).cells (cd j))) w5 := ⟨J14.out.below hb5, P4.out.below hb5, rangeAt_below hcr hb5 (by show b2 < w4.heap.size; omega)⟩
              refine hK.out _ _ hS5 (fun hHeld1 => ?_)
              clear hK K hHeld
              try simp only [Act.put, List.getElem_toArray, List.getElem_cons_succ, List.getElem_cons_zero, List.setIfInBounds_toArray, List.set_cons_zero, List.set_cons_succ]
              refine wpAnyH_take (i := 9) (v := .tuple #[.bool true, .int .i64 0]) rfl (by kernel_rfl) (by kernel_rfl) (by kernel_rfl) (fun _ _ _ h => h) (.inl ⟨by rfl, fun z hSz => by go_simp⟩) hHeld1 ?_
              simp only [Act.put, List.getElem_toArray, List.getElem_cons_succ, List.getElem_cons_zero, List.setIfInBounds_toArray, List.set_cons_zero, List.set_cons_succ]
              refine wpAnyH_take (i := 10) (v := .bool true) rfl (by kernel_rfl) (by kernel_rfl) (by kernel_rfl) (fun _ _ _ h => h) (.inl ⟨by rfl, fun z hSz => by go_simp⟩) hHeld1 ?_
              simp only [Act.put, List.getElem_toArray, List.getElem_cons_succ, List.getElem_cons_zero, List.setIfInBounds_toArray, List.set_cons_zero, List.set_cons_succ]
              refine wpAnyH_take (i := 11) (v := .int .i64 0) rfl (by kernel_rfl) (by kernel_rfl) (by kernel_rfl) (fun _ _ _ h => h) (.inl ⟨by rfl, fun z hSz => by go_simp⟩) hHeld1 ?_
              simp only [Act.put, List.getElem_toArray, List.getElem_cons_succ, List.getElem_cons_zero, List.setIfInBounds_toArray, List.set_cons_zero, List.set_cons_succ]
              refine wpAnyH_take (i := 12) (v := .bool true) rfl (by kernel_rfl) (by kernel_rfl) (by kernel_rfl) (fun _ _ _ h => h) (.inl ⟨by rfl, fun z hSz => by go_simp⟩) hHeld1 ?_
              simp only [Act.put, List.getElem_toArray, List.getElem_cons_succ, List.getElem_cons_zero, List.setIfInBounds_toArray, List.set_cons_zero, List.set_cons_succ]
              refine wpAnyH_take (i := 13) (v := .int .i64 0) rfl (by kernel_rfl) (by kernel_rfl) (by kernel_rfl) (fun _ _ _ h => h) (.inl ⟨by rfl, fun z hSz => by go_simp⟩) hHeld1 ?_
              simp only [Act.put, List.getElem_toArray, List.getElem_cons_succ, List.getElem_cons_zero, List.setIfInBounds_toArray, List.set_cons_zero, List.set_cons_succ]
              refine wpAnyH_done (by kernel_rfl) ?_ _
              go_wp2_with fail
              go_roundw
              case rel =>
                refine ⟨i + 1, by omega, by go_num, fun q hq => ?_, Bfin.out.trans (hb5.mono Bfin.out.size)⟩
                rcases Nat.lt_or_ge q i with h | h
                · exact hlow.out q h
                · obtain rfl : q = i := by omega
                  rw [hQ.out]
                  exact hV.out
              case measure => simp [intOf]; omega
        · obtain rfl : i = nbm := by omega
          have hall1 : Hid (((List.range i).all fun i => match O i with | some j => N i j | none => false) = true) := all_yes hlow.out
          have J0r : Hid (BlkI wr w.heap.size 34 #[.int .i64 km, .int .i64 fm, .bool gm, .slice am anm acm, .slice dm dnm dcm, .string nm, .slice qm qnm qcm, .bool stm, .slice bxm i bcm, .slice cxm ncm ccm]) := J0c.out.below hbw.out
          have m9 : wr.cell? ⟨w.heap.size, 9, none⟩ = some (.slice cxm ncm ccm) := J0r.out.cell 9
          clear hI' hN' hms' hcs' hO' hlow
          go_wp2_with fail
          generalize hwo : wr = wo at *
          clear hwo wr
          go_loopw [62] (fun t wz => ∃ q : Nat, q ≤ ncm ∧ t = .int .i64 q ∧ Hid (∀ p, p < q → H p = true) ∧ Hid (Below wo.heap.size wo wz)) (fun t _ => ncm - (intOf t).toNat)
          case atStart => exact ⟨0, Nat.zero_le _, rfl, fun j hj => by omega, Below.refl _ _⟩
          case round =>
            obtain ⟨q, hq, rfl, hlow, hbz⟩ := hrel
            have Bz : Hid (Below w.heap.size w wr) := Br.out.trans (hbz.out.mono Br.out.size)
            have J1z : Hid (BlkI wr (w.heap.size + 1) 34 #[.int .i64 kc, .int .i64 fc, .bool gc, .slice ac anc acc, .slice dc dnc dcc, .string nc, .slice qc qnc qcc, .bool stc, .slice bxc nbc bcc, .slice cxc ncc ccc]) := J1r.out.below hbz.out
            clear m9
            by_cases hlt2 : q < ncm
            · have hlt2' : (q : Int) < (ncm : Int) := by omega
              obtain ⟨b3, o3, rfl, hbl3, hr3⟩ := hmc'.out.resolve_left (by omega)
              have hr3 := rangeAt_below (hr3 q hlt2) Bz.out hbl3
              have x0 : wr.cell? ⟨b3, o3 + q * 8, none⟩ = some (.int .i64 (me q).k) := by simpa using hr3 0 _ rfl
              have x1 : wr.cell? ⟨b3, o3 + q * 8 + 1, none⟩ = some (.int .i64 (me q).f) := by simpa using hr3 1 _ rfl
              have x2 : wr.cell? ⟨b3, o3 + q * 8 + 2, none⟩ = some (.bool (me q).neg) := by simpa using hr3 2 _ rfl
              have x3 : wr.cell? ⟨b3, o3 + q * 8 + 3, none⟩ = some (.slice (me q).aq (me q).an (me q).ac) := by simpa using hr3 3 _ rfl
              have x4 : wr.cell? ⟨b3, o3 + q * 8 + 4, none⟩ = some (.slice (me q).cq (me q).cn (me q).cc) := by simpa using hr3 4 _ rfl
              have x5 : wr.cell? ⟨b3, o3 + q * 8 + 5, none⟩ = some (.string (me q).m) := by simpa using hr3 5 _ rfl
              have x6 : wr.cell? ⟨b3, o3 + q * 8 + 6, none⟩ = some (.slice (me q).sq (me q).sn (me q).sc) := by simpa using hr3 6 _ rfl
              have x7 : wr.cell? ⟨b3, o3 + q * 8 + 7, none⟩ = some (.bool (mk q).st) := by simpa using hr3 7 _ rfl
              have hbB : Below wr.heap.size wr (wr.alloc (.cells #[.int .i64 (me q).k, .int .i64 (me q).f, .bool (me q).neg, .slice (me q).aq (me q).an (me q).ac, .slice (me q).cq (me q).cn (me q).cc, .string (me q).m, .slice (me q).sq (me q).sn (me q).sc, .bool (mk q).st] 50)) := below_alloc wr _
              have BB : Hid (Below w.heap.size w (wr.alloc (.cells #[.int .i64 (me q).k, .int .i64 (me q).f, .bool (me q).neg, .slice (me q).aq (me q).an (me q).ac, .slice (me q).cq (me q).cn (me q).cc, .string (me q).m, .slice (me q).sq (me q).sn (me q).sc, .bool (mk q).st] 50))) := Bz.out.trans (hbB.mono Bz.out.size)
              have lB : wr.heap.size < (wr.alloc (.cells #[.int .i64 (me q).k, .int .i64 (me q).f, .bool (me q).neg, .slice (me q).aq (me q).an (me q).ac, .slice (me q).cq (me q).cn (me q).cc, .string (me q).m, .slice (me q).sq (me q).sn (me q).sc, .bool (mk q).st] 50)).heap.size := by simp
              have JB : Hid (BlkI (wr.alloc (.cells #[.int .i64 (me q).k, .int .i64 (me q).f, .bool (me q).neg, .slice (me q).aq (me q).an (me q).ac, .slice (me q).cq (me q).cn (me q).cc, .string (me q).m, .slice (me q).sq (me q).sn (me q).sc, .bool (mk q).st] 50)) wr.heap.size 50 #[.int .i64 (me q).k, .int .i64 (me q).f, .bool (me q).neg, .slice (me q).aq (me q).an (me q).ac, .slice (me q).cq (me q).cn (me q).cc, .string (me q).m, .slice (me q).sq (me q).sn (me q).sc, .bool (mk q).st]) := heap_alloc_new _ _
              have c9 : (wr.alloc (.cells #[.int .i64 (me q).k, .int .i64 (me q).f, .bool (me q).neg, .slice (me q).aq (me q).an (me q).ac, .slice (me q).cq (me q).cn (me q).cc, .string (me q).m, .slice (me q).sq (me q).sn (me q).sc, .bool (mk q).st] 50)).cell? ⟨w.heap.size + 1, 9, none⟩ = some (.slice cxc ncc ccc) := (J1z.out.below hbB).cell 9
              have hc1 := hC'.out q hlt2 _ BB.out wr.heap.size lB JB.out
              obtain ⟨V, hV⟩ : ∃ V, H q = V := ⟨_, rfl⟩
              have hV : Hid (H q = V) := hV
              rw [hV.out] at hc1
              clear hr3
              cases V with
              | false =>
                go_wp2_with (go_at_call 32; with_reducible refine hc1.mono ?_; rintro r w4 ⟨rfl, hb4⟩)
                go_ret
                exact ⟨by rw [← hZ2.out, all_no hlt2 hV.out, Bool.and_false]; rfl, BB.out.trans (hb4.mono BB.out.size)⟩
              | true =>
                go_wp2_with (go_at_call 32; with_reducible refine hc1.mono ?_; rintro r w4 ⟨rfl, hb4⟩)
                go_roundw
                case rel =>
                  refine ⟨q + 1, by omega, by go_num, fun p hp => ?_, hbz.out.trans ((hbB.trans (hb4.mono hbB.size)).mono hbz.out.size)⟩
                  rcases Nat.lt_or_ge p q with h | h
                  · exact hlow.out p h
                  · obtain rfl : p = q := by omega
                    exact hV.out
                case measure => simp [intOf]; omega
            · obtain rfl : q = ncm := by omega
              go_wp2_with fail
              go_ret
              exact ⟨by rw [← hZ2.out, hall1.out, all_yes hlow.out]; rfl, Bz.out⟩
end Go.Proofs.YtaonejnicgbifaaGreatDoor
