import Derived.Test.YtaonejnicgbifaaGreatDoorGxF
import Derived.Test.YtaonejnicgbifaaGreatDoorPk10
namespace Go.Proofs.YtaonejnicgbifaaGreatDoor
open Go Go.RowKit

theorem FNew.drew {w : World} {N nq : Nat} (h : FNew w N) : FNew (w.drewN nq) N := h
theorem large_big {n d : Int} (h : ¬ n < pw 256 ∨ ¬ d < pw 256) : large n d = true := by
  unfold large
  rcases h with h | h <;> simp [h]
theorem large_fit {n d : Int} (h1 : n < pw 256) (h2 : d < pw 256) : (decide (mkN n (denI d) < pw 64) && decide (mkD n (denI d) < pw 64)) = !large n d := by
  unfold large
  simp [h1, h2]

set_option maxRecDepth 100000 in
set_option maxHeartbeats 2000000 in
theorem read32_walk {w : World} {g : Bool} {q1 p1 : Option Addr} {c1 e1 : Nat} {nu de : List Int} (h1 : Sl w (.slice q1 nu.length c1) nu) (h2 : Sl w (.slice p1 de.length e1) de) (ln : nu.length ≤ 274877906000) (ld : de.length ≤ 274877906000) (hT : Tb w) :
    Calls Tryz.prog 110 #[.agg #[.bool g, .slice q1 nu.length c1, .slice p1 de.length e1]] w fun e w' => ∃ f g' n' d', e = .returned (.tuple #[f, .bool (!large (val nu) (val de))]) ∧ FAt w' f g' n' d' ∧ (large (val nu) (val de) = false → g' = mkG g (val nu) (denI (val de)) ∧ n' = mkN (val nu) (denI (val de)) ∧ d' = mkD (val nu) (denI (val de))) ∧ Below w.heap.size w w' := by
  obtain ⟨u1, s1, k1⟩ := of32_ok h1
  obtain ⟨u2, s2, k2⟩ := of32_ok h2
  obtain ⟨qa, ca, rfl⟩ := s1.form
  obtain ⟨qb, cb, rfl⟩ := s2.form
  have v1 : val (trim nu) = val nu := val_trim nu
  have v2 : val (trim de) = val de := val_trim de
  have cn := canon_trim nu
  have cd := canon_trim de
  have l1 : (trim nu).length ≤ 274877906000 := by
    have := trimTo_le nu nu.length
    rw [trim_length]; omega
  have l2 : (trim de).length ≤ 274877906000 := by
    have := trimTo_le de de.length
    rw [trim_length]; omega
  have L1 := len_pw s1.1 cn 256
  have L2 := len_pw s2.1 cd 256
  rw [v1] at L1
  rw [v2] at L2
  generalize trim nu = N at *
  generalize trim de = D at *
  generalize val nu = X at *
  generalize val de = Y at *
  have hs : Hid (Sl w (.slice qa N.length ca) N ∧ Sl w (.slice qb D.length cb) D ∧ val N = X ∧ val D = Y ∧ Canon N ∧ Canon D ∧ N.length ≤ 274877906000 ∧ D.length ≤ 274877906000 ∧ Tb w) := ⟨s1, s2, v1, v2, cn, cd, l1, l2, hT⟩
  have hb := below_two w (Obj.cells #[.bool g, .slice q1 nu.length c1, .slice p1 de.length e1] 27) (Obj.cells #[.bool false, .slice none 0 0, .slice none 0 0] 107)
  obtain ⟨dd, hu, hd⟩ := f_row
  have hL : Hid ((N.length ≤ 256 ↔ X < pw 256) ∧ (D.length ≤ 256 ↔ Y < pw 256)) := ⟨L1, L2⟩
  clear s1 s2 v1 v2 cn cd hT h1 h2 L1 L2
  go_enter Tryz.func110, Tryz.ntmps110
  go_wp2_with fail
  go_quiet (first
    | (go_at_call_of 108 (Value.slice q1 nu.length c1); refine Calls.quiet_of_same (k1 _ (below_draws hb _)))
    | (go_at_call_of 108 (Value.slice p1 de.length e1); refine Calls.quiet_of_same (k2 _ (below_draws hb _))))
  clear k1 k2
  have hb1 := below_draws hb nq
  have x0 : (((w.alloc (Obj.cells #[.bool g, .slice q1 nu.length c1, .slice p1 de.length e1] 27)).alloc (Obj.cells #[.bool false, .slice none 0 0, .slice none 0 0] 107)).drewN nq).cell? ⟨w.heap.size, 0, none⟩ = some (.bool g) := by simp
  have hsz : (((w.alloc (Obj.cells #[.bool g, .slice q1 nu.length c1, .slice p1 de.length e1] 27)).alloc (Obj.cells #[.bool false, .slice none 0 0, .slice none 0 0] 107)).drewN nq).heap.size = w.heap.size + 2 := by simp
  have hnew : FNew (((w.alloc (Obj.cells #[.bool g, .slice q1 nu.length c1, .slice p1 de.length e1] 27)).alloc (Obj.cells #[.bool false, .slice none 0 0, .slice none 0 0] 107)).drewN nq) (w.heap.size + 1) := by
    have := FNew.made (w.alloc (Obj.cells #[.bool g, .slice q1 nu.length c1, .slice p1 de.length e1] 27))
    have e : (w.alloc (Obj.cells #[.bool g, .slice q1 nu.length c1, .slice p1 de.length e1] 27)).heap.size = w.heap.size + 1 := by simp
    rw [e] at this
    exact this.drew
  clear hb
  generalize (((w.alloc (Obj.cells #[.bool g, .slice q1 nu.length c1, .slice p1 de.length e1] 27)).alloc (Obj.cells #[.bool false, .slice none 0 0, .slice none 0 0] 107)).drewN nq) = W1 at hb1 x0 hsz hnew ⊢
  have hnew' : Hid (FNew W1 (w.heap.size + 1)) := hnew
  have hb1' : Hid (Below w.heap.size w W1) := hb1
  have c0 := hnew.c0
  have c1 := hnew.c1
  have c2 := hnew.c2
  have fr := hnew.fr
  clear hnew hb1
  by_cases hA : N.length ≤ 256
  · have hA' : ((N.length : Int) > 256) = False := by simp; omega
    by_cases hB : D.length ≤ 256
    · have hB' : ((D.length : Int) > 256) = False := by simp; omega
      have hz := fun z => zero32_ok qb D.length cb z
      obtain ⟨bz, hbz⟩ : ∃ bz, Hid (decide (D.length = 0) = bz) := ⟨_, rfl⟩
      simp only [hbz.out] at hz
      have hof := fun z => small32_ok z 1 (by omega) (by omega)
      have hs1 : Hid _ := smallW_ok (x := 1) (by omega) (by omega)
      go_upto_if 23 with (go_at_call 109; with_reducible refine (hz _).mono ?_; rintro e w1 ⟨rfl, hw1⟩; subst w1)
      go_cut [5] from 23 to 24 (fun v5 wx => ∃ qd nd cd ds, v5 = .slice qd nd cd ∧ Hid (Sl wx (.slice qd nd cd) ds ∧ Canon ds ∧ val ds = denI Y ∧ ds ≠ [] ∧ ds.length ≤ 274877906000) ∧ Hid (Below W1.heap.size W1 wx))
      case first =>
        cases bz with
        | true =>
          have hY : denI Y = 1 := by
            have := hs.out.2.2.2.1
            rw [List.eq_nil_of_length_eq_zero (of_decide_eq_true hbz.out)] at this
            simp [denI, ← this, val]
          go_wp2_with (go_at_call 144; with_reducible refine (hof _).mono ?_; rintro e w2 ⟨r, rfl, hz2, hb2⟩
                       obtain ⟨qr, cr, rfl⟩ := hz2.form)
          have hfin : Hid (Sl w2 (.slice qr (smallW 1).length cr) (smallW 1) ∧ Canon (smallW 1) ∧ val (smallW 1) = denI Y ∧ smallW 1 ≠ [] ∧ (smallW 1).length ≤ 274877906000) := ⟨hz2, hs1.out.2.1, by rw [hY]; exact hs1.out.2.2.1, by decide, by have := hs1.out.2.2.2; omega⟩
          go_meet
          case rel => exact ⟨_, _, _, _, rfl, hfin, hb2⟩
        | false =>
          have hD : Hid (D ≠ []) := by
            rintro rfl
            exact of_decide_eq_false hbz.out rfl
          have hY : denI Y = Y := by
            have := val_pos hs.out.2.1.1 hs.out.2.2.2.2.2.1 hD.out
            rw [hs.out.2.2.2.1] at this
            simp [denI]; omega
          have hfin : Hid (Sl (W1) (.slice qb D.length cb) D ∧ Canon D ∧ val D = denI Y ∧ D ≠ [] ∧ D.length ≤ 274877906000) := ⟨hs.out.2.1.below hb1'.out, hs.out.2.2.2.2.2.1, by rw [hY]; exact hs.out.2.2.2.1, hD.out, hs.out.2.2.2.2.2.2.2.1⟩
          go_wp2_with fail
          go_meet
          case rel => exact ⟨_, _, _, _, rfl, hfin, Below.refl _ _⟩
      case rest =>
        obtain ⟨qd, nd, cd, ds, rfl, hds, hbw⟩ := hcut
        have hred := reduce32_ok (g := g) ((hs.out.1.below hb1'.out).below hbw.out) hds.out.1 hs.out.2.2.2.2.1 hds.out.2.1 hds.out.2.2.2.1 hs.out.2.2.2.2.2.2.1 hds.out.2.2.2.2 ((hs.out.2.2.2.2.2.2.2.2.below hb1'.out).below hbw.out)
        rw [hs.out.2.2.1, hds.out.2.2.1] at hred
        have hlf : Hid _ := large_fit (hL.out.1.1 hA) (hL.out.2.1 hB)
        have x0' : wc.cell? ⟨w.heap.size, 0, none⟩ = some (.bool g) := (hbw.out.cell (by show w.heap.size < _; omega)).trans x0
        clear x0 hz hof hs1 c0 c1 c2 fr
        go_wp2_with (go_at_call 145; with_reducible refine hred.mono ?_; rintro e w3 ⟨f, rfl, hf, hb3⟩
                     have hf' := hf
                     obtain ⟨fa, fb, ns, dsf, rfl, z1, z2, z3, z4, z5, z6, z7, z8⟩ := hf'
                     obtain ⟨qn, kn, rfl⟩ := z1.form
                     obtain ⟨qm, km, rfl⟩ := z4.form
                     have hzz : Hid (Sl w3 (.slice qn ns.length kn) ns ∧ Canon ns ∧ val ns = mkN X (denI Y) ∧ Sl w3 (.slice qm dsf.length km) dsf ∧ Canon dsf ∧ val dsf = mkD X (denI Y) ∧ ns.length ≤ 274877906000 ∧ dsf.length ≤ 274877906000) := ⟨z1, z2, z3, z4, z5, z6, z7, z8⟩
                     clear z1 z2 z3 z4 z5 z6 z7 z8 hred)
        have hB4 : Below w3.heap.size w3 (w3.alloc (.cells #[.bool (mkG g X (denI Y)), .slice qn ns.length kn, .slice qm dsf.length km] 107)) := below_alloc _ _
        have hfit := fits32_ok ((hf.below hB4).below (Below.refl _ _).drew)
        rw [hlf.out] at hfit
        have y0 : (w3.alloc (.cells #[.bool (mkG g X (denI Y)), .slice qn ns.length kn, .slice qm dsf.length km] 107)).cell? ⟨w3.heap.size, 0, none⟩ = some (.bool (mkG g X (denI Y))) := by simp
        have y1 : (w3.alloc (.cells #[.bool (mkG g X (denI Y)), .slice qn ns.length kn, .slice qm dsf.length km] 107)).cell? ⟨w3.heap.size, 1, none⟩ = some (.slice qn ns.length kn) := by simp
        have y2 : (w3.alloc (.cells #[.bool (mkG g X (denI Y)), .slice qn ns.length kn, .slice qm dsf.length km] 107)).cell? ⟨w3.heap.size, 2, none⟩ = some (.slice qm dsf.length km) := by simp
        have y5 : (w3.alloc (.cells #[.bool (mkG g X (denI Y)), .slice qn ns.length kn, .slice qm dsf.length km] 107)).heap.size = w3.heap.size + 1 := by simp
        have hlt : w.heap.size + 1 < w3.heap.size := by
          have := hbw.out.size
          have := hb3.size
          omega
        have hlt2 : w3.heap.size ≠ w.heap.size + 1 := by omega
        have hb14 : Below W1.heap.size W1 (w3.alloc (.cells #[.bool (mkG g X (denI Y)), .slice qn ns.length kn, .slice qm dsf.length km] 107)) := (hbw.out.trans (hb3.mono hbw.out.size)).trans (hB4.mono (Nat.le_trans hbw.out.size hb3.size))
        generalize (w3.alloc (.cells #[.bool (mkG g X (denI Y)), .slice qn ns.length kn, .slice qm dsf.length km] 107)) = W4 at *
        have hS4 : (fun z => z.cell? ⟨w3.heap.size, 0, none⟩ = some (.bool (mkG g X (denI Y))) ∧ z.cell? ⟨w3.heap.size, 1, none⟩ = some (.slice qn ns.length kn) ∧ z.cell? ⟨w3.heap.size, 2, none⟩ = some (.slice qm dsf.length km)) W4.drew := ⟨y0, y1, y2⟩
        have y5' : W4.drew.heap.size = w3.heap.size + 1 := y5
        clear y0 y1 y2 hf x0'
        go_region_held3 (fun z => z.cell? ⟨w3.heap.size, 0, none⟩ = some (.bool (mkG g X (denI Y))) ∧ z.cell? ⟨w3.heap.size, 1, none⟩ = some (.slice qn ns.length kn) ∧ z.cell? ⟨w3.heap.size, 2, none⟩ = some (.slice qm dsf.length km)) (first | exact hSs | exact hS5 | exact hS4)
          (first
            | (go_at_call 146; with_reducible refine hfit.mono ?_; rintro e w5 ⟨rfl, hb5⟩
               have hS5 : (fun z => z.cell? ⟨w3.heap.size, 0, none⟩ = some (.bool (mkG g X (denI Y))) ∧ z.cell? ⟨w3.heap.size, 1, none⟩ = some (.slice qn ns.length kn) ∧ z.cell? ⟨w3.heap.size, 2, none⟩ = some (.slice qm dsf.length km)) w5 := ⟨(hb5.cell (by show w3.heap.size < _; omega)).trans hS4.1, (hb5.cell (by show w3.heap.size < _; omega)).trans hS4.2.1, (hb5.cell (by show w3.heap.size < _; omega)).trans hS4.2.2⟩
               have hb45 : Below W4.heap.size W4 w5 := (Below.refl _ _).drew.trans hb5
               have hb15 : Below W1.heap.size W1 w5 := hb14.trans (hb45.mono hb14.size)
               have hzz' := hzz.out
               have hb35 : Below w3.heap.size w3 w5 := hB4.trans (hb45.mono hB4.size)
               obtain ⟨hk, hrow⟩ := f_end (g := mkG g X (denI Y)) (by omega) hnew'.out hb1'.out hb15 (hzz'.1.below hb35) hzz'.2.1 hzz'.2.2.1 (hzz'.2.2.2.1.below hb35) hzz'.2.2.2.2.1 hzz'.2.2.2.2.2.1 hzz'.2.2.2.2.2.2.1 hzz'.2.2.2.2.2.2.2
               have h9 := hnew'.out.below hb15
               have f0 := h9.c0
               have f1 := h9.c1
               have f2 := h9.c2
               have fr := h9.fr
               have hSs : (fun z => z.cell? ⟨w3.heap.size, 0, none⟩ = some (.bool (mkG g X (denI Y))) ∧ z.cell? ⟨w3.heap.size, 1, none⟩ = some (.slice qn ns.length kn) ∧ z.cell? ⟨w3.heap.size, 2, none⟩ = some (.slice qm dsf.length km)) (((w5.setCell ⟨w.heap.size + 1, 0, none⟩ (.bool (mkG g X (denI Y)))).setCell ⟨w.heap.size + 1, 1, none⟩ (.slice qn ns.length kn)).setCell ⟨w.heap.size + 1, 2, none⟩ (.slice qm dsf.length km)) := by
                 exact ⟨(World.cell?_setCell_far _ _ _ _ (by simp; omega)).trans ((World.cell?_setCell_far _ _ _ _ (by simp; omega)).trans ((World.cell?_setCell_far _ _ _ _ (by simp; omega)).trans hS5.1)), (World.cell?_setCell_far _ _ _ _ (by simp; omega)).trans ((World.cell?_setCell_far _ _ _ _ (by simp; omega)).trans ((World.cell?_setCell_far _ _ _ _ (by simp; omega)).trans hS5.2.1)), (World.cell?_setCell_far _ _ _ _ (by simp; omega)).trans ((World.cell?_setCell_far _ _ _ _ (by simp; omega)).trans ((World.cell?_setCell_far _ _ _ _ (by simp; omega)).trans hS5.2.2))⟩
               clear h9 hb45 hb35 hb15 hb5 hzz'))
        go_wp2_with fail
        refine bodyPost_ret (results_cell_tmp_mid rfl _ _ (w.heap.size + 1) _ dd rfl hrow hu hd f_size) rfl ?_
        exact ⟨_, _, _, _, rfl, hk.out.1, fun _ => ⟨rfl, rfl, rfl⟩, hk.out.2⟩
    · have hB' : (D.length : Int) > 256 := by omega
      have hl := large_big (n := X) (d := Y) (.inr (fun h => hB (hL.out.2.2 h)))
      obtain ⟨hk, hrow⟩ := f_end (g := false) (by omega) hnew'.out hb1'.out (Below.refl _ _) (Sl.nil _) canon_nil rfl (Sl.nil _) canon_nil rfl (by simp) (by simp)
      go_wp2_with fail
      refine bodyPost_ret (results_cell_tmp_mid rfl _ _ (w.heap.size + 1) _ dd rfl hrow hu hd f_size) rfl ?_
      exact ⟨_, false, 0, 0, by rw [hl]; rfl, hk.out.1, fun h => (by rw [hl] at h; cases h), hk.out.2⟩
  · have hA' : (N.length : Int) > 256 := by omega
    have hl := large_big (n := X) (d := Y) (.inl (fun h => hA (hL.out.1.2 h)))
    obtain ⟨hk, hrow⟩ := f_end (g := false) (by omega) hnew'.out hb1'.out (Below.refl _ _) (Sl.nil _) canon_nil rfl (Sl.nil _) canon_nil rfl (by simp) (by simp)
    go_wp2_with fail
    refine bodyPost_ret (results_cell_tmp_mid rfl _ _ (w.heap.size + 1) _ dd rfl hrow hu hd f_size) rfl ?_
    exact ⟨_, false, 0, 0, by rw [hl]; rfl, hk.out.1, fun h => (by rw [hl] at h; cases h), hk.out.2⟩
end Go.Proofs.YtaonejnicgbifaaGreatDoor
namespace Go.Proofs.YtaonejnicgbifaaGreatDoor
open Go Go.RowKit

theorem denI_pos32 {Y : Int} (h : 0 ≤ Y) : 0 < denI Y := by
  unfold denI
  split <;> omega
theorem mkN_zero {X Y : Int} (hX : 0 ≤ X) (hY : 0 ≤ Y) : mkN X (denI Y) = 0 ↔ X = 0 := by
  have hd := denI_pos32 hY
  unfold mkN
  by_cases h : X = 0
  · simp [h]
  · rw [if_neg (by omega)]
    have hg := gcdI_pos (b := denI Y) (by omega : 0 < X)
    obtain ⟨⟨p, hp⟩, _⟩ := gcdI_dvd hX (by omega : 0 ≤ denI Y)
    have hp2 : X / gcdI X (denI Y) = p := by
      conv => lhs; lhs; rw [hp]
      exact Int.mul_ediv_cancel_left _ (by omega)
    rw [hp2]
    constructor
    · rintro rfl; omega
    · intro h2; exact absurd h2 h
/-- The sign of a number by the values of its parts. -/
def sgnQ (g : Bool) (X Y : Int) : Int := if X = 0 then 0 else if g then -1 else 1
theorem sgn_mk32 {g : Bool} {X Y : Int} (hX : 0 ≤ X) (hY : 0 ≤ Y) : (if mkN X (denI Y) = 0 then 0 else if mkG g X (denI Y) then -1 else 1 : Int) = sgnQ g X Y := by
  have hd := denI_pos32 hY
  unfold sgnQ
  by_cases h : X = 0
  · rw [if_pos ((mkN_zero hX hY).2 h), if_pos h]
  · rw [if_neg (fun e => h ((mkN_zero hX hY).1 e)), if_neg h]
    have : mkG g X (denI Y) = g := by
      unfold mkG
      rw [if_neg (by omega)]
    rw [this]

end Go.Proofs.YtaonejnicgbifaaGreatDoor
namespace Go.Proofs.YtaonejnicgbifaaGreatDoor
open Go Go.Proofs.YtaonejnicgbifaaGreatDoor.Gx Go.RowKit

def GK : Nat → Option (List AV) := fun _ => none
def XK : FuncId → Option Ent := fun _ => none
noncomputable def PK : Program := Tryz.prog
/-- The reserved words. -/
def resL : List (List UInt8) := [[101, 120, 112], [108, 111, 103], [115, 105, 110], [99, 111, 115], [116, 97, 110], [97, 115, 105, 110], [97, 99, 111, 115], [97, 116, 97, 110], [112, 105], [97, 98, 115], [109, 105, 110], [109, 97, 120], [114, 111, 111, 116], [115, 113, 114, 116], [105, 102], [105, 110, 102], [102, 111, 114], [105, 110], [119, 104, 101, 114, 101]]
/-- How many kids a kind has. -/
def kK : List (Int × Int) := [(1, 0), (2, 0), (3, 0), (4, 1), (5, 2), (6, 2), (7, 2), (8, 2), (9, 1), (10, 1), (11, 1), (12, 1), (13, 2), (14, 2), (15, 3)]
def loI : Int := (-9223372036854775808)
def hiI : Int := 9223372036854775807
def kT1 : Tab := resL.map fun l => (101, [.str l], .bool true)
def kT2 : Tab := kK.map fun x => (107, [.int .i64 x.1], .tup [.int .i64 x.2, .bool true])
def kT6 : Tab := [(101, [.ostr resL], .bool false),
  (107, [.oint .i64 loI 0], .tup [.int .i64 0, .bool false]), (107, [.oint .i64 16 hiI], .tup [.int .i64 0, .bool false]),
  (92, [], .isl 19 (resL.map .str) (some 19))]
def kTab1 : Tab := kT1 ++ (kT2 ++ kT6)
theorem kMixed : Tryz.prog.follows .mixedOrders = true := by kernel_rfl
theorem kNoNum : NoNum Tryz.prog := by
  have h : (Tryz.prog.funcs.toList.all fun fn => !fn.body.isSome || !(fn.name == "runtime.NumGoroutine")) = true := by kernel_rfl
  intro f fn hf hb
  have hm : fn ∈ Tryz.prog.funcs.toList := by
    rw [Array.mem_toList_iff]; exact Array.mem_of_getElem? hf
  have := List.all_eq_true.1 h fn hm
  simp only [hb, Bool.not_true, Bool.false_or, Bool.not_eq_true'] at this
  exact this
theorem kNoX : XOk PK XK := fun f k h => by cases h
theorem kChk1 : chkT PK GK XK (fun _ => true) 6000 [] kTab1 = true := by decide +kernel
theorem kOk1 : TabOk PK GK (kTab1 ++ []) := TabOk.chk (TabOk.nil PK GK) kNoNum kMixed kNoX kChk1
theorem kGlob {w : World} : ∀ g cs, GK g = some cs → VRel (fun _ => False) w phi0 (.iptr cs) (.pointer (some ⟨g, 0, none⟩)) := fun g cs h => by cases h
theorem kUse {f : FuncId} {args : List AV} {v : AV} (h : SealOk (tenv PK GK (fun _ => none) (fun _ => true) []) f args (.ret v)) {w : World} {us : Array Value} (hA : LRel (fun _ => False) w phi0 args us.toList) :
    Calls Tryz.prog f us w fun e w' => (∃ u, e = .returned u ∧ VRel (fun _ => False) w' phi0 v u) ∧ Below w.heap.size w w' :=
  SealOk.use h (sess0 kGlob) (by rw [bd0]; exact hA) (Below.refl _ _)
/-- A closed call of a table in any world. -/
theorem kCall1 {f : FuncId} {args : List AV} {v : AV} (h : (f, args, v) ∈ kTab1) {w : World} {us : Array Value} (hA : LRel (fun _ => False) w phi0 args us.toList) :
    Calls Tryz.prog f us w fun e w' => (∃ u, e = .returned u ∧ VRel (fun _ => False) w' phi0 v u) ∧ Below w.heap.size w w' :=
  kUse (kOk1 _ (List.mem_append_left _ h)) hA
end Go.Proofs.YtaonejnicgbifaaGreatDoor
namespace Go.Proofs.YtaonejnicgbifaaGreatDoor
open Go Go.RowKit

/-! ### Names -/
/-- The byte of a text at a place. -/
def bt (s : ByteArray) (i : Nat) : Nat := if h : i < s.size then (s[i]'h).toNat else 0
theorem bt_eq {s : ByteArray} {i : Nat} (h : i < s.size) : (s[i]'h).toNat = bt s i := by
  unfold bt
  rw [dif_pos h]
def lowB (c : Nat) : Bool := decide (97 ≤ c) && decide (c ≤ 122)
def digB (c : Nat) : Bool := decide (48 ≤ c) && decide (c ≤ 57)
/-- A word: a small letter, then small letters and digits. -/
def wordB (s : ByteArray) : Bool := decide (0 < s.size) && lowB (bt s 0) && (List.range s.size).all fun i => lowB (bt s i) || digB (bt s i)
set_option maxRecDepth 100000 in
theorem letter_ok (c : Nat) (w : World) : Calls Tryz.prog 132 #[.int .u8 c] w fun e w' => e = .returned (.bool (lowB c)) ∧ w' = w := by
  unfold lowB
  by_cases h1 : 97 ≤ c
  · have h1' : (c : Int) ≥ 97 := by omega
    by_cases h2 : c ≤ 122
    · have h2' : (c : Int) ≤ 122 := by omega
      go_enter Tryz.func132, Tryz.ntmps132
      go_wp2
      go_ret
      exact ⟨by simp [h1, h2], rfl⟩
    · have h2' : ¬ (c : Int) ≤ 122 := by omega
      go_enter Tryz.func132, Tryz.ntmps132
      go_wp2
      go_ret
      exact ⟨by simp [h1, h2], rfl⟩
  · have h1' : ¬ (c : Int) ≥ 97 := by omega
    go_enter Tryz.func132, Tryz.ntmps132
    go_wp2
    go_ret
    exact ⟨by simp [h1], rfl⟩
set_option maxRecDepth 100000 in
theorem isdig_ok (c : Nat) (w : World) : Calls Tryz.prog 133 #[.int .u8 c] w fun e w' => e = .returned (.bool (digB c)) ∧ w' = w := by
  unfold digB
  by_cases h1 : 48 ≤ c
  · have h1' : (c : Int) ≥ 48 := by omega
    by_cases h2 : c ≤ 57
    · have h2' : (c : Int) ≤ 57 := by omega
      go_enter Tryz.func133, Tryz.ntmps133
      go_wp2
      go_ret
      exact ⟨by simp [h1, h2], rfl⟩
    · have h2' : ¬ (c : Int) ≤ 57 := by omega
      go_enter Tryz.func133, Tryz.ntmps133
      go_wp2
      go_ret
      exact ⟨by simp [h1, h2], rfl⟩
  · have h1' : ¬ (c : Int) ≥ 48 := by omega
    go_enter Tryz.func133, Tryz.ntmps133
    go_wp2
    go_ret
    exact ⟨by simp [h1], rfl⟩

theorem empty_list (s : ByteArray) : (s.toList == []) = decide (s.size = 0) := by
  have h : s.toList.length = s.size := by rw [ByteArray.toList_eq, Array.length_toList]; rfl
  cases hl : s.toList with
  | nil =>
    rw [hl] at h
    have h2 : s.size = 0 := by simpa using h.symm
    rw [decide_eq_true h2]
    rfl
  | cons a l =>
    rw [hl] at h
    have h2 : ¬ s.size = 0 := by simp at h; omega
    rw [decide_eq_false h2]
    rfl
set_option maxRecDepth 100000 in
set_option maxHeartbeats 1000000 in
/-- syntax.word. -/
theorem wordP_ok (s : ByteArray) (w : World) (hl : s.size ≤ 1099511627776) :
    Calls Tryz.prog 100 #[.string s] w fun e w' => ∃ n : Nat, e = .returned (.int .i64 n) ∧ n ≤ s.size ∧ (n = s.size ↔ s.size = 0 ∨ wordB s = true) ∧ w' = w := by
  by_cases h0 : s.size = 0
  · have he : (s.toList == []) = true := by rw [empty_list]; simp [h0]
    go_enter Tryz.func100, Tryz.ntmps100
    go_wp2
    go_ret
    exact ⟨0, rfl, by omega, by simp [h0], rfl⟩
  · have he : (s.toList == []) = false := by rw [empty_list]; simp [h0]
    have hp : (0 : Int) < s.size := by omega
    have hp' : 0 < s.size := by omega
    have hb := bt_eq hp'
    have hw0 : Hid (lowB (bt s 0) = false → wordB s = false) := fun h => by unfold wordB; simp [h]
    have hc0 := letter_ok (bt s 0) w
    cases hl0 : lowB (bt s 0) with
    | false =>
      rw [hl0] at hc0
      have hwf := hw0.out hl0
      clear hw0 hl0
      go_enter Tryz.func100, Tryz.ntmps100
      go_wp2_with (go_at_call 132; with_reducible refine hc0.mono ?_; rintro e w1 ⟨rfl, rfl⟩)
      go_ret
      exact ⟨0, rfl, by omega, ⟨fun h => absurd h.symm h0, fun h => h.elim (fun h => absurd h h0) (fun h => by rw [hwf] at h; cases h)⟩, rfl⟩
    | true =>
      rw [hl0] at hc0
      have hw1 : Hid ((∀ i, i < s.size → (lowB (bt s i) || digB (bt s i)) = true) → wordB s = true) := fun h => by
        unfold wordB
        rw [decide_eq_true hp', hl0]
        simp only [Bool.true_and, List.all_eq_true]
        intro i hi
        exact h i (List.mem_range.1 hi)
      have hw2 : Hid (∀ i, i < s.size → (lowB (bt s i) || digB (bt s i)) = false → wordB s = false) := fun i hi h => by
        unfold wordB
        have : ((List.range s.size).all fun i => lowB (bt s i) || digB (bt s i)) = false := by
          rw [List.all_eq_false]
          exact ⟨i, List.mem_range.2 hi, by rw [h]; simp⟩
        rw [this]
        simp
      have hl0' : Hid (lowB (bt s 0) = true) := hl0
      clear hw0 hl0
      go_enter Tryz.func100, Tryz.ntmps100
      go_wp2_with (go_at_call 132; with_reducible refine hc0.mono ?_; rintro e w1 ⟨rfl, hw⟩; subst w1)
      clear hb hc0
      go_loop [3] (fun v => ∃ k : Nat, 1 ≤ k ∧ k ≤ s.size ∧ v = .int .i64 k ∧ Hid (∀ i, i < k → (lowB (bt s i) || digB (bt s i)) = true)) (fun v => s.size - (intOf v).toNat)
      case atStart => exact ⟨1, Nat.le_refl _, hp', rfl, fun i hi => by
        have : i = 0 := by omega
        subst this
        rw [hl0'.out]; rfl⟩
      case round =>
        obtain ⟨k, hk1, hk, rfl, hz⟩ := hrel
        by_cases hlt : k < s.size
        · have hlt' : (k : Int) < s.size := by omega
          have hb := bt_eq hlt
          have hc := letter_ok (bt s k) w
          have hd := isdig_ok (bt s k) w
          cases h1 : lowB (bt s k) with
          | true =>
            rw [h1] at hc
            have h1' : Hid (lowB (bt s k) = true) := h1
            clear h1 hd
            go_wp2_with (go_at_call 132; with_reducible refine hc.mono ?_; rintro e w1 ⟨rfl, hw⟩; subst w1)
            go_round
            case rel =>
              refine ⟨k + 1, by omega, by omega, by go_num, fun i hi => ?_⟩
              rcases Nat.lt_or_ge i k with h | h
              · exact hz.out i h
              · have : i = k := by omega
                subst this
                rw [h1'.out]; rfl
            case measure => simp [intOf]; omega
          | false =>
            rw [h1] at hc
            cases h2 : digB (bt s k) with
            | true =>
              rw [h2] at hd
              have h2' : Hid (digB (bt s k) = true) := h2
              clear h1 h2
              go_wp2_with (first
                | (go_at_call 132; with_reducible refine hc.mono ?_; rintro e w1 ⟨rfl, hw⟩; subst w1)
                | (go_at_call 133; with_reducible refine hd.mono ?_; rintro e w1 ⟨rfl, hw⟩; subst w1))
              go_round
              case rel =>
                refine ⟨k + 1, by omega, by omega, by go_num, fun i hi => ?_⟩
                rcases Nat.lt_or_ge i k with h | h
                · exact hz.out i h
                · have : i = k := by omega
                  subst this
                  rw [h2'.out, Bool.or_true]
              case measure => simp [intOf]; omega
            | false =>
              rw [h2] at hd
              have hwf := hw2.out k hlt (by rw [h1, h2]; rfl)
              clear h1 h2
              go_wp2_with (first
                | (go_at_call 132; with_reducible refine hc.mono ?_; rintro e w1 ⟨rfl, hw⟩; subst w1)
                | (go_at_call 133; with_reducible refine hd.mono ?_; rintro e w1 ⟨rfl, hw⟩; subst w1))
              go_ret
              exact ⟨k, rfl, by omega, ⟨fun h => absurd h (by omega), fun h => h.elim (fun h => absurd h h0) (fun h => by rw [hwf] at h; cases h)⟩, rfl⟩
        · obtain rfl : k = s.size := by omega
          have hwt : Hid _ := hw1.out hz.out
          go_wp2
          go_ret
          exact ⟨s.size, rfl, Nat.le_refl _, ⟨fun _ => hwt.out, fun _ => rfl⟩, rfl⟩
end Go.Proofs.YtaonejnicgbifaaGreatDoor
namespace Go.Proofs.YtaonejnicgbifaaGreatDoor
open Go Go.Proofs.YtaonejnicgbifaaGreatDoor.Gx Go.RowKit

/-- A name. -/
def nameB (s : ByteArray) : Bool := decide (s.size ≤ 8) && (wordB s && !decide (s.toList ∈ resL))

theorem string_eq (s : ByteArray) : (Value.string s) = .string ⟨s.toList.toArray⟩ := by
  rw [ByteArray.toList_eq]
theorem lrel_one {w : World} {x : AV} {v : Value} (h : VRel (fun _ => False) w phi0 x v) : LRel (fun _ => False) w phi0 [x] #[v].toList := LRel.cons h .nil
/-- syntax.Reserved. -/
theorem reserved_ok (s : ByteArray) (w : World) : Calls Tryz.prog 101 #[.string s] w fun e w' => e = .returned (.bool (decide (s.toList ∈ resL))) ∧ Below w.heap.size w w' := by
  rw [string_eq]
  by_cases h : s.toList ∈ resL
  · refine (kCall1 (f := 101) (args := [.str s.toList]) (v := .bool true) (List.mem_append_left _ (List.mem_map.2 ⟨_, h, rfl⟩)) (lrel_one (.str _))).mono ?_
    rintro e w' ⟨⟨u, rfl, hu⟩, hb⟩
    rw [hu.bool_inv, decide_eq_true h]
    exact ⟨rfl, hb⟩
  · refine (kCall1 (f := 101) (args := [.ostr resL]) (v := .bool false) (List.mem_append_right _ (List.mem_append_right _ (by unfold kT6; simp))) (lrel_one (.ostr h))).mono ?_
    rintro e w' ⟨⟨u, rfl, hu⟩, hb⟩
    rw [hu.bool_inv, decide_eq_false h]
    exact ⟨rfl, hb⟩

set_option maxRecDepth 100000 in
set_option maxHeartbeats 1000000 in
/-- syntax.IsName. -/
theorem isName_ok (s : ByteArray) (w : World) : Calls Tryz.prog 71 #[.string s] w fun e w' => e = .returned (.bool (nameB s)) ∧ Below w.heap.size w w' := by
  unfold nameB
  by_cases h8 : s.size ≤ 8
  · have h8' : (s.size : Int) ≤ 8 := by omega
    have hw := wordP_ok s w (by omega)
    have hr := reserved_ok s w
    rw [decide_eq_true h8]
    by_cases h0 : s.size = 0
    · have he : (s.toList == []) = true := by rw [empty_list, decide_eq_true h0]
      have hwf : wordB s = false := by unfold wordB; rw [decide_eq_false (by omega)]; rfl
      rw [hwf]
      clear hr hwf
      go_enter Tryz.func71, Tryz.ntmps71
      go_wp2_with (go_at_call 100; with_reducible refine hw.mono ?_; rintro e w1 ⟨n, rfl, hn1, hn2, hw1⟩; subst w1
                   have hn : n = 0 := by omega
                   subst hn
                   clear hn1 hn2)
      go_ret
      exact ⟨rfl, Below.refl _ _⟩
    · have he : (s.toList == []) = false := by rw [empty_list, decide_eq_false h0]
      cases hb : wordB s with
      | true =>
        go_enter Tryz.func71, Tryz.ntmps71
        go_wp2_with (first
          | (go_at_call 100; with_reducible refine hw.mono ?_; rintro e w1 ⟨n, rfl, hn1, hn2, hw1⟩; subst w1
             have hn : ((n : Int) == (s.size : Int)) = true := by
               have := hn2.2 (.inr hb)
               simp; omega
             clear hn1 hn2)
          | (go_at_call 101; with_reducible refine hr.mono ?_; rintro e w2 ⟨rfl, hb2⟩))
        go_ret
        exact ⟨by simp, hb2⟩
      | false =>
        go_enter Tryz.func71, Tryz.ntmps71
        go_wp2_with (go_at_call 100; with_reducible refine hw.mono ?_; rintro e w1 ⟨n, rfl, hn1, hn2, hw1⟩; subst w1
                     have hn : ((n : Int) == (s.size : Int)) = false := by
                       have : ¬ n = s.size := fun h => (hn2.1 h).elim h0 (fun h => by rw [hb] at h; cases h)
                       simp; omega
                     clear hn1 hn2)
        go_ret
        exact ⟨rfl, Below.refl _ _⟩
  · have h8' : ¬ (s.size : Int) ≤ 8 := by omega
    rw [decide_eq_false h8]
    go_enter Tryz.func71, Tryz.ntmps71
    go_wp2
    go_ret
    exact ⟨rfl, Below.refl _ _⟩
set_option maxRecDepth 100000 in
/-- expr.IsName. -/
theorem eIsName_ok (s : ByteArray) (w : World) : Calls Tryz.prog 42 #[.string s] w fun e w' => e = .returned (.bool (nameB s)) ∧ Below w.heap.size w w' := by
  have h := isName_ok s w
  go_enter Tryz.func42, Tryz.ntmps42
  go_wp2_with (go_at_call 71; with_reducible refine h.mono ?_; rintro e w1 ⟨rfl, hb⟩)
  go_ret
  exact ⟨rfl, hb⟩

end Go.Proofs.YtaonejnicgbifaaGreatDoor
