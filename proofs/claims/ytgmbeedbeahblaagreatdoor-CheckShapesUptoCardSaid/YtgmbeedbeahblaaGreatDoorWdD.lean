/-
  The reference's rational numbers: Make, Of.
-/
import Derived.Test.YtgmbeedbeahblaaGreatDoorDvI
import Derived.Test.YtgmbeedbeahblaaGreatDoorWdC
import Derived.Deep.RegionHeld3
namespace Go.Proofs.YtgmbeedbeahblaaGreatDoor
open Go Go.RowKit

/-- A rational number of the reference, by its values. -/
def QAt (w : World) (v : Value) (g : Bool) (n d : Int) : Prop :=
  ∃ a b ns ds, v = .agg #[.bool g, a, b] ∧ Sl16 w a ns ∧ Canon ns ∧ val16 ns = n ∧ Sl16 w b ds ∧ Canon ds ∧ val16 ds = d
theorem QAt.below {w w' : World} {v : Value} {g : Bool} {n d : Int} (h : QAt w v g n d) (hb : Below w.heap.size w w') : QAt w' v g n d := by
  obtain ⟨a, b, ns, ds, h1, h2, h3, h4, h5, h6, h7⟩ := h
  exact ⟨a, b, ns, ds, h1, h2.below hb, h3, h4, h5.below hb, h6, h7⟩
def mkG (g : Bool) (n d : Int) : Bool := if n = 0 ∨ d = 0 then false else g
def mkN (n d : Int) : Int := if n = 0 ∨ d = 0 then 0 else n / gcdI n d
def mkD (n d : Int) : Int := if n = 0 ∨ d = 0 then 1 else d / gcdI n d
theorem gcdI_one {a : Int} : gcdI a 1 = 1 := by
  unfold gcdI
  simp
theorem gcdI_pos {a b : Int} (ha : 0 < a) : 0 < gcdI a b := by
  unfold gcdI
  have := Nat.gcd_pos_of_pos_left b.toNat (by omega : 0 < a.toNat)
  omega
theorem val_one16 {ds : List Int} (h1 : ds.length = 1) : val16 ds = ds.getD 0 0 := by
  have := val_top1 (m := 0) h1
  rw [this]
  simp [val16]
theorem two_cells (w : World) (o : Obj) : Below w.heap.size w (w.alloc o) := below_alloc w o


/-- A rational number's variable as it is made. -/
def QNew (w : World) (N : Nat) : Prop := w.heap[N]? = some (.cells #[.bool false, .slice none 0 0, .slice none 0 0] 70 (0, 0))
theorem QNew.made (w : World) : QNew (w.alloc (.cells #[.bool false, .slice none 0 0, .slice none 0 0] 70)) w.heap.size := heap_alloc_new w _
theorem QNew.below {w w' : World} {N : Nat} (h : QNew w N) (hb : Below w.heap.size w w') : QNew w' N := by
  unfold QNew at h ⊢
  rw [hb.block N (Array.getElem?_eq_some_iff.1 h).1]
  exact h
theorem QNew.c0 {w : World} {N : Nat} (h : QNew w N) : w.cell? ⟨N, 0, none⟩ = some (.bool false) := by unfold QNew at h; simp [World.cell?, h]
theorem QNew.c1 {w : World} {N : Nat} (h : QNew w N) : w.cell? ⟨N, 1, none⟩ = some (.slice none 0 0) := by unfold QNew at h; simp [World.cell?, h]
theorem QNew.c2 {w : World} {N : Nat} (h : QNew w N) : w.cell? ⟨N, 2, none⟩ = some (.slice none 0 0) := by unfold QNew at h; simp [World.cell?, h]
theorem QNew.fr {w : World} {N : Nat} (h : QNew w N) (j : Nat) : w.frozen? ⟨N, j, none⟩ = false := by unfold QNew at h; simp [World.frozen?, h]
theorem QNew.no {w : World} {N : Nat} (h : QNew w N) (j : Nat) (x : Int) : w.cell? ⟨N, j, none⟩ ≠ some (.int .u32 x) := by
  unfold QNew at h
  simp only [World.cell?, h]
  match j with
  | 0 => simp
  | 1 => simp
  | 2 => simp
  | j + 3 => simp
/-- No word lies in it. -/
theorem Sl16.notQ {w : World} {v : Value} {xs : List Int} {N : Nat} (h : Sl16 w v xs) (hN : QNew w N) : Sl16N N w v xs := by
  obtain ⟨h1, h2, q, cap, h3, h4, h5⟩ := h
  refine ⟨h1, h2, q, cap, h3, h4, ?_⟩
  by_cases hx : xs = []
  · exact .inl hx
  · rcases h5 with h5 | ⟨b, o, e, hlt, hc⟩
    · exact absurd h5 hx
    · refine .inr ⟨b, o, e, hlt, ?_, hc⟩
      rintro rfl
      exact hN.no _ _ (hc 0 (List.length_pos_iff.2 hx))
theorem set3_row {w : World} {N : Nat} (h : QNew w N) (x0 x1 x2 : Value) : (((w.setCell ⟨N, 0, none⟩ x0).setCell ⟨N, 1, none⟩ x1).setCell ⟨N, 2, none⟩ x2).rangeAt N 0 [x0, x1, x2] ∧ Sav N w (((w.setCell ⟨N, 0, none⟩ x0).setCell ⟨N, 1, none⟩ x1).setCell ⟨N, 2, none⟩ x2) := by
  refine ⟨fun j v hv => ?_, ((Sav.of (Below.refl _ _)).setCell 0 x0 |>.setCell 1 x1).setCell 2 x2⟩
  match j, hv with
  | 0, hv =>
    simp only [List.getElem?_cons_zero, Option.some.injEq] at hv
    subst hv
    rw [World.cell?_setCell_other _ _ _ _ (by simp), World.cell?_setCell_other _ _ _ _ (by simp), World.cell?_setCell_same _ _ _ h.c0]
  | 1, hv =>
    simp only [List.getElem?_cons_succ, List.getElem?_cons_zero, Option.some.injEq] at hv
    subst hv
    rw [World.cell?_setCell_other _ _ _ _ (by simp), World.cell?_setCell_same _ _ _ (by rw [World.cell?_setCell_other _ _ _ _ (by simp)]; exact h.c1)]
  | 2, hv =>
    simp only [List.getElem?_cons_succ, List.getElem?_cons_zero, Option.some.injEq] at hv
    subst hv
    rw [World.cell?_setCell_same _ _ _ (by rw [World.cell?_setCell_other _ _ _ _ (by simp), World.cell?_setCell_other _ _ _ _ (by simp)]; exact h.c2)]
theorem q_row : ∃ d, Tryz.prog.underlying 70 = some d ∧ d.isRow = true := ⟨_, Tryz.underlying70, rfl⟩
theorem q_size : (Tryz.prog.info? 70).map (·.size) = some 3 := by kernel_rfl

set_option maxRecDepth 100000 in
set_option maxHeartbeats 1000000 in
theorem make_zero {w : World} {g : Bool} {q q' : Option Addr} {m n cap cap' : Nat} (h : ((m : Int) == 0) = true ∨ ((m : Int) == 0) = false ∧ ((n : Int) == 0) = true) :
    Calls Tryz.prog 44 #[.bool g, .slice q m cap, .slice q' n cap'] w fun e w' => ∃ v, e = .returned v ∧ QAt w' v false 0 1 ∧ Below w.heap.size w w' := by
  have hof := fun z => natOf_ok z 1 (by omega) (by omega)
  have hnew := QNew.made w
  have hb0 : Below w.heap.size w (w.alloc (.cells #[.bool false, .slice none 0 0, .slice none 0 0] 70)) := below_alloc w _
  obtain ⟨dd, hu, hd⟩ := q_row
  have key : ∀ w1 r zs, Below (w.alloc (.cells #[.bool false, .slice none 0 0, .slice none 0 0] 70)).heap.size (w.alloc (.cells #[.bool false, .slice none 0 0, .slice none 0 0] 70)) w1 → Sl16 w1 r zs → Canon zs → val16 zs = 1 →
      Hid (QAt (((w1.setCell ⟨w.heap.size, 0, none⟩ (.bool false)).setCell ⟨w.heap.size, 1, none⟩ (.slice none 0 0)).setCell ⟨w.heap.size, 2, none⟩ r) (.agg #[.bool false, .slice none 0 0, r]) false 0 1 ∧ Below w.heap.size w (((w1.setCell ⟨w.heap.size, 0, none⟩ (.bool false)).setCell ⟨w.heap.size, 1, none⟩ (.slice none 0 0)).setCell ⟨w.heap.size, 2, none⟩ r)) := by
    intro w1 r zs hb1 hz hzc hzv
    have h1 := hnew.below hb1
    obtain ⟨_, h3⟩ := set3_row h1 (.bool false) (.slice none 0 0) r
    exact ⟨⟨_, r, [], zs, rfl, ⟨fun j => by simp [List.getD], by simp, none, 0, rfl, Nat.le_refl _, .inl rfl⟩, fun m hm => by simp at hm, rfl, ((hz.notQ h1).sav h3).sl, hzc, hzv⟩, (hb0.trans (hb1.mono hb0.size)).trans (h3.below (Nat.le_refl _) (Nat.le_trans hb0.size hb1.size))⟩
  rcases h with h | ⟨h, h2⟩
  · go_enter Tryz.func44, Tryz.ntmps44
    go_wp2_with (go_at_call 45; with_reducible refine (hof _).mono ?_; rintro e w1 ⟨r, zs, rfl, hz, hzc, hzv, hzl, hb1⟩
                 obtain ⟨qr, cr, rfl⟩ := hz.form
                 have hk := key _ _ _ hb1 hz hzc hzv
                 have h1 := hnew.below hb1
                 have c0 := h1.c0
                 have c1 := h1.c1
                 have c2 := h1.c2
                 have fr := h1.fr
                 have hrow := (set3_row h1 (.bool false) (.slice none 0 0) (.slice qr zs.length cr)).1
                 clear key hb1 h1 hnew hb0)
    refine bodyPost_ret (results_cell_mid rfl _ _ w.heap.size _ dd rfl hrow hu hd q_size) rfl ?_
    exact ⟨_, rfl, hk.out⟩
  · go_enter Tryz.func44, Tryz.ntmps44
    go_wp2_with (go_at_call 45; with_reducible refine (hof _).mono ?_; rintro e w1 ⟨r, zs, rfl, hz, hzc, hzv, hzl, hb1⟩
                 obtain ⟨qr, cr, rfl⟩ := hz.form
                 have hk := key _ _ _ hb1 hz hzc hzv
                 have h1 := hnew.below hb1
                 have c0 := h1.c0
                 have c1 := h1.c1
                 have c2 := h1.c2
                 have fr := h1.fr
                 have hrow := (set3_row h1 (.bool false) (.slice none 0 0) (.slice qr zs.length cr)).1
                 clear key hb1 h1 hnew hb0)
    refine bodyPost_ret (results_cell_mid rfl _ _ w.heap.size _ dd rfl hrow hu hd q_size) rfl ?_
    exact ⟨_, rfl, hk.out⟩

theorem q_end {w W0 w1 : World} {g : Bool} {a b : Value} {ns ds : List Int} {n d : Int} (h0 : QNew W0 w.heap.size) (hb0 : Below w.heap.size w W0) (hb1 : Below W0.heap.size W0 w1) (ha : Sl16 w1 a ns) (ca : Canon ns) (va : val16 ns = n) (hb : Sl16 w1 b ds) (cb : Canon ds) (vb : val16 ds = d) :
    Hid (QAt (((w1.setCell ⟨w.heap.size, 0, none⟩ (.bool g)).setCell ⟨w.heap.size, 1, none⟩ a).setCell ⟨w.heap.size, 2, none⟩ b) (.agg #[.bool g, a, b]) g n d ∧ Below w.heap.size w (((w1.setCell ⟨w.heap.size, 0, none⟩ (.bool g)).setCell ⟨w.heap.size, 1, none⟩ a).setCell ⟨w.heap.size, 2, none⟩ b)) ∧
    (((w1.setCell ⟨w.heap.size, 0, none⟩ (.bool g)).setCell ⟨w.heap.size, 1, none⟩ a).setCell ⟨w.heap.size, 2, none⟩ b).rangeAt w.heap.size 0 [.bool g, a, b] := by
  have h1 := h0.below hb1
  obtain ⟨h2, h3⟩ := set3_row h1 (.bool g) a b
  exact ⟨⟨⟨a, b, ns, ds, rfl, ((ha.notQ h1).sav h3).sl, ca, va, ((hb.notQ h1).sav h3).sl, cb, vb⟩, (hb0.trans (hb1.mono hb0.size)).trans (h3.below (Nat.le_refl _) (Nat.le_trans hb0.size hb1.size))⟩, h2⟩

set_option maxRecDepth 100000 in
set_option maxHeartbeats 1000000 in
/-- Make where the second number is one. -/
theorem make_whole {w : World} {g : Bool} {q q' : Option Addr} {cap cap' : Nat} {xs ys : List Int} (hx : Sl16 w (.slice q xs.length cap) xs) (hy : Sl16 w (.slice q' 1 cap') ys) (cx : Canon xs) (nx : ((xs.length : Int) == 0) = false) (hy0 : ys.length = 1) (hy1 : ys.getD 0 0 = 1) :
    Calls Tryz.prog 44 #[.bool g, .slice q xs.length cap, .slice q' 1 cap'] w fun e w' => ∃ v, e = .returned v ∧ QAt w' v g (val16 xs) 1 ∧ Below w.heap.size w w' := by
  have hof := fun z => natOf_ok z 1 (by omega) (by omega)
  have hnew := QNew.made w
  have hb0 : Below w.heap.size w (w.alloc (.cells #[.bool false, .slice none 0 0, .slice none 0 0] 70)) := below_alloc w _
  obtain ⟨dd, hu, hd⟩ := q_row
  have lx := hx.2.1
  obtain ⟨_, _, q2, cap2, e, _, hyx⟩ := hy
  simp only [Value.slice.injEq] at e
  obtain ⟨rfl, he, rfl⟩ := e
  clear he
  rcases hyx with h | ⟨b, o, rfl, hb, hc⟩
  · simp [h] at hy0
  have h00 := hc 0 (by omega)
  rw [hy1] at h00
  have c9 : (w.alloc (.cells #[.bool false, .slice none 0 0, .slice none 0 0] 70)).cell? ⟨b, o, none⟩ = some (.int .u32 1) := (hb0.cell (p := ⟨b, o, none⟩) (by exact hb)).trans h00
  clear h00
  have hx1 := (hx.below hb0).below (below_alloc (w.alloc (.cells #[.bool false, .slice none 0 0, .slice none 0 0] 70)) (.cells #[] 103))
  have hx' : Hid (Sl16 w (.slice q xs.length cap) xs) := hx
  have cx' : Hid (Canon xs) := cx
  have hx1' : Hid (Sl16 ((w.alloc (.cells #[.bool false, .slice none 0 0, .slice none 0 0] 70)).alloc (.cells #[] 103)) (.slice q xs.length cap) xs) := hx1
  clear hx hc hy0 hy1 cx hx1
  have own1 : Hid (((w.alloc (.cells #[.bool false, .slice none 0 0, .slice none 0 0] 70)).alloc (.cells #[] 103)).ownsRow (w.alloc (.cells #[.bool false, .slice none 0 0, .slice none 0 0] 70)).heap.size 103 1 (.slice (some ⟨w.heap.size + 1, 0, none⟩) 0 0) 0 []) := by
    have := own_none0 (w.alloc (.cells #[.bool false, .slice none 0 0, .slice none 0 0] 70))
    have e : (w.alloc (.cells #[.bool false, .slice none 0 0, .slice none 0 0] 70)).heap.size = w.heap.size + 1 := by simp
    rw [e] at this ⊢
    exact this
  go_enter Tryz.func44, Tryz.ntmps44
  go_wp2_with (first
    | (at_builtin; refine wpList_append_words rfl _ _ rfl (w.alloc (.cells #[.bool false, .slice none 0 0, .slice none 0 0] 70)).heap.size (.slice (some ⟨w.heap.size + 1, 0, none⟩) 0 0) 0 [] rfl own1.out xs (.slice q xs.length cap) rfl hx1'.out (by omega) (by simp) ?_; intro v' w2 hown2 hgr2
       have hb2 : Below (w.alloc (.cells #[.bool false, .slice none 0 0, .slice none 0 0] 70)).heap.size (w.alloc (.cells #[.bool false, .slice none 0 0, .slice none 0 0] 70)) w2 := (below_alloc (w.alloc (.cells #[.bool false, .slice none 0 0, .slice none 0 0] 70)) _).grown hgr2 (by simp) (fun g hg => by cases hg; simp)
       have hs2 : Sl16 w2 v' xs := row_sl16 (base := (w.alloc (.cells #[.bool false, .slice none 0 0, .slice none 0 0] 70)).heap.size) rfl (by simpa using hown2) hx'.out.1 lx
       obtain ⟨q3, cap3, rfl⟩ := hs2.form)
    | (go_at_call 45; with_reducible refine (hof _).mono ?_; rintro e w3 ⟨r, zs, rfl, hz, hzc, hzv, hzl, hb3⟩
       obtain ⟨qr, cr, rfl⟩ := hz.form
       have hb13 : Below (w.alloc (.cells #[.bool false, .slice none 0 0, .slice none 0 0] 70)).heap.size (w.alloc (.cells #[.bool false, .slice none 0 0, .slice none 0 0] 70)) w3 := hb2.trans (hb3.mono hb2.size)
       obtain ⟨hk, hrow⟩ := q_end (g := g) hnew hb0 hb13 (hs2.below hb3) cx'.out rfl hz hzc hzv
       have h1 := hnew.below hb13
       have c0 := h1.c0
       have c1 := h1.c1
       have c2 := h1.c2
       have fr := h1.fr
       clear hb3 h1 hnew hb0 hb2 hb13))
  refine bodyPost_ret (results_cell_mid rfl _ _ w.heap.size _ dd rfl hrow hu hd q_size) rfl ?_
  exact ⟨_, rfl, hk.out⟩

set_option maxRecDepth 100000 in
set_option maxHeartbeats 1000000 in
/-- Make by the greatest common divisor. -/
theorem make_gcd {w : World} {g : Bool} {q q' : Option Addr} {cap cap' : Nat} {xs ys : List Int} (hx : Sl16 w (.slice q xs.length cap) xs) (hy : Sl16 w (.slice q' ys.length cap') ys) (cx : Canon xs) (cy : Canon ys) (nx : ((xs.length : Int) == 0) = false) (ny : ((ys.length : Int) == 0) = false)
    (lx : xs.length ≤ 274877906000) (ly : ys.length ≤ 274877906000)
    (h1 : ((ys.length : Int) == 1) = false ∨ ((ys.length : Int) == 1) = true ∧ ∃ b o X, q' = some ⟨b, o, none⟩ ∧ b < w.heap.size ∧ w.cell? ⟨b, o, none⟩ = some (.int .u32 X) ∧ (X == 1) = false ∧ 0 < ys.length) :
    Calls Tryz.prog 44 #[.bool g, .slice q xs.length cap, .slice q' ys.length cap'] w fun e w' => ∃ v, e = .returned v ∧ QAt w' v g (val16 xs / gcdI (val16 xs) (val16 ys)) (val16 ys / gcdI (val16 xs) (val16 ys)) ∧ Below w.heap.size w w' := by
  have hnew := QNew.made w
  have hb0 : Below w.heap.size w (w.alloc (.cells #[.bool false, .slice none 0 0, .slice none 0 0] 70)) := below_alloc w _
  obtain ⟨dd, hu, hd⟩ := q_row
  have x0 : xs ≠ [] := by rintro rfl; simp at nx
  have vx := val_pos16 hx.1 cx x0
  have hgp := gcdI_pos (b := val16 ys) vx
  have hx0 : Hid (Sl16 w (.slice q xs.length cap) xs ∧ Canon xs) := ⟨hx, cx⟩
  have hy0 : Hid (Sl16 w (.slice q' ys.length cap') ys ∧ Canon ys) := ⟨hy, cy⟩
  have hgcd := natGcd_ok (hx.below hb0) (hy.below hb0) cx cy lx ly
  obtain ⟨G, hG⟩ : ∃ G, gcdI (val16 xs) (val16 ys) = G := ⟨_, rfl⟩
  rw [hG] at hgcd hgp ⊢
  have hgp' : Hid (0 < G) := hgp
  clear hx hy cx cy hG x0 vx hgp
  rcases h1 with h1 | ⟨h1, b, o, X, rfl, hb, hc, hX, hyl⟩
  · go_enter Tryz.func44, Tryz.ntmps44
    go_wp2_with (first
      | (go_at_call 81; with_reducible refine hgcd.mono ?_; rintro e w1 ⟨rg, gs, rfl, hg, cg, vg, lg, hb1⟩
         have ng : gs ≠ [] := by
           rintro rfl
           have := hgp'.out
           simp only [val16] at vg
           omega
         have hd1 := natDiv_ok ((hx0.out.1.below hb0).below hb1) hg hx0.out.2 cg ng lx)
      | (go_at_call 82; with_reducible refine hd1.mono ?_; rintro e w2 ⟨r1, r2, ns, rs, rfl, hn, cn, vn, _, _, _, hb2⟩
         have hd2 := natDiv_ok (((hy0.out.1.below hb0).below hb1).below hb2) (hg.below hb2) hy0.out.2 cg ng ly)
      | (go_at_call 82; with_reducible refine hd2.mono ?_; rintro e w3 ⟨r3, r4, ds, rs', rfl, hdd, cd, vd, _, _, _, hb3⟩
         rw [vg] at vn vd
         obtain ⟨qn, kn, rfl⟩ := hn.form
         obtain ⟨qd, kd, rfl⟩ := hdd.form
         have hb13 : Below (w.alloc (.cells #[.bool false, .slice none 0 0, .slice none 0 0] 70)).heap.size (w.alloc (.cells #[.bool false, .slice none 0 0, .slice none 0 0] 70)) w3 := hb1.trans ((hb2.trans (hb3.mono hb2.size)).mono hb1.size)
         obtain ⟨hk, hrow⟩ := q_end (g := g) hnew hb0 hb13 (hn.below hb3) cn vn hdd cd vd
         have h9 := hnew.below hb13
         have c0 := h9.c0
         have c1 := h9.c1
         have c2 := h9.c2
         have fr := h9.fr
         clear hb3 h9 hnew hb0 hb2 hb13 hb1 hd1 hd2 hgcd))
    refine bodyPost_ret (results_cell_mid rfl _ _ w.heap.size _ dd rfl hrow hu hd q_size) rfl ?_
    exact ⟨_, rfl, hk.out⟩
  · have c9 : (w.alloc (.cells #[.bool false, .slice none 0 0, .slice none 0 0] 70)).cell? ⟨b, o, none⟩ = some (.int .u32 X) := (hb0.cell (by exact hb)).trans hc
    clear hc
    go_enter Tryz.func44, Tryz.ntmps44
    go_wp2_with (first
      | (go_at_call 81; with_reducible refine hgcd.mono ?_; rintro e w1 ⟨rg, gs, rfl, hg, cg, vg, lg, hb1⟩
         have ng : gs ≠ [] := by
           rintro rfl
           have := hgp'.out
           simp only [val16] at vg
           omega
         have hd1 := natDiv_ok ((hx0.out.1.below hb0).below hb1) hg hx0.out.2 cg ng lx)
      | (go_at_call 82; with_reducible refine hd1.mono ?_; rintro e w2 ⟨r1, r2, ns, rs, rfl, hn, cn, vn, _, _, _, hb2⟩
         have hd2 := natDiv_ok (((hy0.out.1.below hb0).below hb1).below hb2) (hg.below hb2) hy0.out.2 cg ng ly)
      | (go_at_call 82; with_reducible refine hd2.mono ?_; rintro e w3 ⟨r3, r4, ds, rs', rfl, hdd, cd, vd, _, _, _, hb3⟩
         rw [vg] at vn vd
         obtain ⟨qn, kn, rfl⟩ := hn.form
         obtain ⟨qd, kd, rfl⟩ := hdd.form
         have hb13 : Below (w.alloc (.cells #[.bool false, .slice none 0 0, .slice none 0 0] 70)).heap.size (w.alloc (.cells #[.bool false, .slice none 0 0, .slice none 0 0] 70)) w3 := hb1.trans ((hb2.trans (hb3.mono hb2.size)).mono hb1.size)
         obtain ⟨hk, hrow⟩ := q_end (g := g) hnew hb0 hb13 (hn.below hb3) cn vn hdd cd vd
         have h9 := hnew.below hb13
         have c0 := h9.c0
         have c1 := h9.c1
         have c2 := h9.c2
         have fr := h9.fr
         clear hb3 h9 hnew hb0 hb2 hb13 hb1 hd1 hd2 hgcd))
    refine bodyPost_ret (results_cell_mid rfl _ _ w.heap.size _ dd rfl hrow hu hd q_size) rfl ?_
    exact ⟨_, rfl, hk.out⟩

/-- The reference's Make. -/
theorem make_ok {w : World} {a b : Value} {g : Bool} {xs ys : List Int} (hx : Sl16 w a xs) (hy : Sl16 w b ys) (cx : Canon xs) (cy : Canon ys) (lx : xs.length ≤ 274877906000) (ly : ys.length ≤ 274877906000) :
    Calls Tryz.prog 44 #[.bool g, a, b] w fun e w' => ∃ v, e = .returned v ∧ QAt w' v (mkG g (val16 xs) (val16 ys)) (mkN (val16 xs) (val16 ys)) (mkD (val16 xs) (val16 ys)) ∧ Below w.heap.size w w' := by
  obtain ⟨q, cap, rfl⟩ := hx.form
  obtain ⟨q', cap', rfl⟩ := hy.form
  by_cases hx0 : xs = []
  · subst hx0
    simpa [mkG, mkN, mkD, val16] using make_zero (g := g) (q := q) (q' := q') (m := 0) (n := ys.length) (cap := cap) (cap' := cap') (w := w) (.inl rfl)
  · have vx := val_pos16 hx.1 cx hx0
    have nx : ((xs.length : Int) == 0) = false := by
      have : xs.length ≠ 0 := fun h => hx0 (List.eq_nil_of_length_eq_zero h)
      simp; omega
    by_cases hy0 : ys = []
    · subst hy0
      simpa [mkG, mkN, mkD, val16] using make_zero (g := g) (q := q) (q' := q') (m := xs.length) (n := 0) (cap := cap) (cap' := cap') (w := w) (.inr ⟨nx, rfl⟩)
    · have vy := val_pos16 hy.1 cy hy0
      have ny : ((ys.length : Int) == 0) = false := by
        have : ys.length ≠ 0 := fun h => hy0 (List.eq_nil_of_length_eq_zero h)
        simp; omega
      have e1 : ¬ (val16 xs = 0 ∨ val16 ys = 0) := by omega
      unfold mkG mkN mkD
      rw [if_neg e1, if_neg e1, if_neg e1]
      by_cases h1 : ys.length = 1
      · have hv := val_one16 h1
        by_cases h2 : ys.getD 0 0 = 1
        · rw [hv, h2, gcdI_one, Int.ediv_one, Int.ediv_one]
          have hm := make_whole (g := g) hx (by rw [h1] at hy; exact hy) cx nx h1 h2
          rw [h1]
          exact hm
        · obtain ⟨_, _, q2, cap2, e, _, hyx⟩ := id hy
          simp only [Value.slice.injEq] at e
          obtain ⟨rfl, _, rfl⟩ := e
          rcases hyx with h | ⟨b, o, rfl, hb, hc⟩
          · exact absurd h hy0
          · exact make_gcd hx hy cx cy nx ny lx ly (.inr ⟨by simp [h1], b, o, _, rfl, hb, by simpa using hc 0 (by omega), by simpa using h2, by omega⟩)
      · exact make_gcd hx hy cx cy nx ny lx ly (.inl (by simp; omega))
end Go.Proofs.YtgmbeedbeahblaaGreatDoor

namespace Go.Proofs.YtgmbeedbeahblaaGreatDoor
open Go Go.RowKit

theorem canon_of_val {zs : List Int} {k : Nat} (dz : Dig16 zs) (h1 : zs.length = k + 1) (h2 : 65536 ^ k ≤ val16 zs) : Canon zs := by
  intro m hm
  obtain rfl : m = k := by omega
  intro h0
  have h3 := val_top1 h1
  have h4 := val_lt16 (dig_take16 dz m)
  rw [h0, Int.zero_mul, Int.add_zero] at h3
  rw [List.length_take, Nat.min_eq_left (by omega)] at h4
  omega
theorem canon_ge {xs : List Int} {k : Nat} (dx : Dig16 xs) (cx : Canon xs) (h1 : xs.length = k + 1) : 65536 ^ k ≤ val16 xs := by
  have h2 := cx k h1
  have h3 := dx k
  have h4 := val_top1 h1
  have h5 := val_nonneg16 (dig_take16 dx k)
  have h6 := Int.mul_le_mul_of_nonneg_right (by omega : 1 ≤ xs.getD k 0) (by have := pow16_pos k; omega : (0 : Int) ≤ 65536 ^ k)
  omega
theorem add_canon {xs ys zs : List Int} (dx : Dig16 xs) (dy : Dig16 ys) (dz : Dig16 zs) (cx : Canon xs) (hv : val16 zs = val16 xs + val16 ys) (hl : zs.length = xs.length ∨ zs.length = xs.length + 1 ∧ zs.getD xs.length 0 = 1) : Canon zs := by
  rcases hl with h | ⟨h, h1⟩
  · intro m hm
    have := canon_of_val dz hm (by have h1 := canon_ge dx cx (by omega : xs.length = m + 1); have := val_nonneg16 dy; omega)
    exact this m hm
  · intro m hm
    obtain rfl : m = xs.length := by omega
    omega
set_option maxRecDepth 100000 in
theorem natMul_zero_left (q q' : Option Addr) (n cap cap' : Nat) (w : World) : Calls Tryz.prog 340 #[.slice q 0 cap, .slice q' n cap'] w fun e w' => e = .returned (.slice none 0 0) ∧ w' = w := by
  go_enter Tryz.func340, Tryz.ntmps340
  go_wp2
  go_ret
  exact ⟨rfl, rfl⟩
/-- NatMul of whatever. -/
theorem natMul_any {w : World} {v u : Value} {xs ys : List Int} (hx : Sl16 w v xs) (hy : Sl16 w u ys) (hn : xs.length + ys.length ≤ 549755813888) :
    Calls Tryz.prog 340 #[v, u] w fun e w' => ∃ r zs, e = .returned r ∧ Sl16 w' r zs ∧ Canon zs ∧ val16 zs = val16 xs * val16 ys ∧ Below w.heap.size w w' := by
  by_cases nx : xs = []
  · subst nx
    obtain ⟨q, cap, rfl⟩ := hx.form
    obtain ⟨q', cap', rfl⟩ := hy.form
    refine (natMul_zero_left q q' ys.length cap cap' w).mono ?_
    rintro e w' ⟨rfl, rfl⟩
    exact ⟨_, [], rfl, ⟨hx.1, by simp, none, 0, rfl, Nat.le_refl _, .inl rfl⟩, fun m hm => by simp at hm, by simp [val16], Below.refl _ _⟩
  · exact natMul_all hx hy nx hn

/-- The length of a canonical number by its value. -/
theorem len_of_lt {xs : List Int} {k : Nat} (dx : Dig16 xs) (cx : Canon xs) (h : val16 xs < 65536 ^ k) : xs.length ≤ k := by
  rcases Nat.lt_or_ge k xs.length with h1 | h1
  · obtain ⟨m, hm⟩ : ∃ m, xs.length = m + 1 := ⟨xs.length - 1, by omega⟩
    have h2 := canon_ge dx cx hm
    have h3 := pow16_mono (by omega : k ≤ m)
    omega
  · exact h1
def denI (d : Int) : Int := if d = 0 then 1 else d
theorem val_denOf {ds : List Int} (dd : Dig16 ds) (cd : Canon ds) : val16 (denOf ds) = denI (val16 ds) ∧ Canon (denOf ds) ∧ Dig16 (denOf ds) ∧ (denOf ds).length ≤ ds.length + 1 ∧ 0 < val16 (denOf ds) := by
  unfold denOf denI
  by_cases h : ds = []
  · subst h
    simp only [if_pos rfl, val16]
    refine ⟨by decide, fun m hm => ?_, fun j => ?_, by simp, by decide⟩
    · obtain rfl : m = 0 := by simp at hm; omega
      decide
    · match j with
      | 0 => decide
      | j + 1 => simp
  · have := val_pos16 dd cd h
    rw [if_neg h, if_neg (by omega)]
    exact ⟨rfl, cd, dd, by omega, this⟩

set_option maxRecDepth 100000 in
theorem sgn_ok {w : World} {v : Value} {g : Bool} {n d : Int} (h : QAt w v g n d) : Calls Tryz.prog 248 #[v] w fun e w' => e = .returned (.int .i64 (if n = 0 then 0 else if g then -1 else 1)) ∧ Below w.heap.size w w' := by
  obtain ⟨a, b, ns, ds, rfl, h2, h3, h4, h5, h6, h7⟩ := h
  obtain ⟨q, cap, rfl⟩ := h2.form
  obtain ⟨q', cap', rfl⟩ := h5.form
  by_cases hx : ns = []
  · subst hx
    have hn : n = 0 := by rw [← h4]; rfl
    subst hn
    clear h2 h3 h4 h5 h6 h7
    go_enter Tryz.func248, Tryz.ntmps248
    go_wp2
    go_ret
    exact ⟨rfl, below_alloc _ _⟩
  · have hlen : ¬ (ns.length : Int) = 0 := by
      have := List.length_pos_iff.2 hx
      omega
    have hp := val_pos16 h2.1 h3 hx
    rw [h4] at hp
    have hn : ¬ n = 0 := by omega
    clear h2 h3 h4 h5 h6 h7 hp
    cases g
    · go_enter Tryz.func248, Tryz.ntmps248
      go_wp2
      go_ret
      exact ⟨by simp [hn], below_alloc _ _⟩
    · go_enter Tryz.func248, Tryz.ntmps248
      go_wp2
      go_ret
      exact ⟨by simp [hn], below_alloc _ _⟩
end Go.Proofs.YtgmbeedbeahblaaGreatDoor

namespace Go.Proofs.YtgmbeedbeahblaaGreatDoor
open Go Go.RowKit

def sg (g : Bool) : Int := if g then -1 else 1
theorem q_endN {w W0 w1 : World} {N : Nat} {g : Bool} {a b : Value} {ns ds : List Int} {n d : Int} (hN : w.heap.size ≤ N) (h0 : QNew W0 N) (hb0 : Below w.heap.size w W0) (hb1 : Below W0.heap.size W0 w1) (ha : Sl16 w1 a ns) (ca : Canon ns) (va : val16 ns = n) (hb : Sl16 w1 b ds) (cb : Canon ds) (vb : val16 ds = d) :
    Hid (QAt (((w1.setCell ⟨N, 0, none⟩ (.bool g)).setCell ⟨N, 1, none⟩ a).setCell ⟨N, 2, none⟩ b) (.agg #[.bool g, a, b]) g n d ∧ Below w.heap.size w (((w1.setCell ⟨N, 0, none⟩ (.bool g)).setCell ⟨N, 1, none⟩ a).setCell ⟨N, 2, none⟩ b)) ∧
    (((w1.setCell ⟨N, 0, none⟩ (.bool g)).setCell ⟨N, 1, none⟩ a).setCell ⟨N, 2, none⟩ b).rangeAt N 0 [.bool g, a, b] := by
  have h1 := h0.below hb1
  obtain ⟨h2, h3⟩ := set3_row h1 (.bool g) a b
  exact ⟨⟨⟨a, b, ns, ds, rfl, ((ha.notQ h1).sav h3).sl, ca, va, ((hb.notQ h1).sav h3).sl, cb, vb⟩, (hb0.trans (hb1.mono hb0.size)).trans (h3.below hN (Nat.le_trans hb0.size hb1.size))⟩, h2⟩

theorem alloc2_row (w : World) (o : Obj) (x0 x1 x2 : Value) (t : TypeId) : ((w.alloc o).alloc (.cells #[x0, x1, x2] t)).rangeAt (w.heap.size + 1) 0 [x0, x1, x2] := by
  intro j v hv
  match j, hv with
  | 0, hv => simp at hv; subst hv; simp
  | 1, hv => simp at hv; subst hv; simp
  | 2, hv => simp at hv; subst hv; simp
end Go.Proofs.YtgmbeedbeahblaaGreatDoor

namespace Go.Proofs.YtgmbeedbeahblaaGreatDoor
open Go Go.RowKit

theorem halves_len (xs : List Int) : (trim (halves xs)).length ≤ 2 * xs.length := by
  rw [trim_length]
  have := trimTo_le (halves xs) (halves xs).length
  rw [halves_length] at this ⊢
  exact this
theorem denOf_none {de : List Int} (hd : Dig de) (h : trim (halves de) = []) : denI (val de) = 1 := by
  have := (trim_nil16 (dig_halves hd)).1 h
  rw [val_halves] at this
  simp [denI, this]
theorem denOf_some {de : List Int} (hd : Dig de) (h : ¬ trim (halves de) = []) : denI (val de) = val de := by
  have : ¬ val de = 0 := fun e => h ((trim_nil16 (dig_halves hd)).2 (by rw [val_halves]; exact e))
  simp [denI, this]

set_option maxRecDepth 100000 in
set_option maxHeartbeats 4000000 in
theorem of_walk {w : World} {g : Bool} {q1 p1 : Option Addr} {l1 c1 m1 e1 : Nat} {nu de : List Int} (h1 : Sl w (.slice q1 l1 c1) nu) (h2 : Sl w (.slice p1 m1 e1) de) (ln : nu.length ≤ 34359738000) (ld : de.length ≤ 34359738000) :
    Calls Tryz.prog 74 #[.agg #[.bool g, .slice q1 l1 c1, .slice p1 m1 e1]] w fun e w' => ∃ v, e = .returned v ∧ QAt w' v (mkG g (val nu) (denI (val de))) (mkN (val nu) (denI (val de))) (mkD (val nu) (denI (val de))) ∧ Below w.heap.size w w' := by
  have kw1 : ∀ z, Below w.heap.size w z → Calls Tryz.prog 72 #[.slice q1 l1 c1] z fun e w' => ∃ r, e = .returned r ∧ Sl16 w' r (trim (halves nu)) ∧ Below z.heap.size z w' := fun z hz => words_ok (h1.below hz) (by omega)
  have kw2 : ∀ z, Below w.heap.size w z → Calls Tryz.prog 72 #[.slice p1 m1 e1] z fun e w' => ∃ r, e = .returned r ∧ Sl16 w' r (trim (halves de)) ∧ Below z.heap.size z w' := fun z hz => words_ok (h2.below hz) (by omega)
  have lw1 : (trim (halves nu)).length ≤ 274877906000 := by have := halves_len nu; omega
  have lw2 : (trim (halves de)).length ≤ 274877906000 := by have := halves_len de; omega
  have hdn : trim (halves de) = [] → Hid (denI (val de) = 1) := fun h => denOf_none h2.1 h
  have hds : ¬ trim (halves de) = [] → Hid (denI (val de) = val16 (trim (halves de))) := fun h => by rw [val_trim16, val_halves]; exact denOf_some h2.1 h
  have hcn := canon_trim (halves de)
  generalize trim (halves de) = D at *
  have hcn' : Hid (Canon D) := hcn
  have hof := fun z => natOf_ok z 1 (by omega) (by omega)
  obtain ⟨dd, hu, hd⟩ := q_row
  clear h1 h2 hcn
  go_enter Tryz.func74, Tryz.ntmps74
  go_wp2_with fail
  have hnew : QNew ((w.alloc (.cells #[.bool g, .slice q1 l1 c1, .slice p1 m1 e1] 24)).alloc (.cells #[.bool false, .slice none 0 0, .slice none 0 0] 70)) (w.heap.size + 1) := by
    have := QNew.made (w.alloc (.cells #[.bool g, .slice q1 l1 c1, .slice p1 m1 e1] 24))
    simpa using this
  have hb0 : Below w.heap.size w ((w.alloc (.cells #[.bool g, .slice q1 l1 c1, .slice p1 m1 e1] 24)).alloc (.cells #[.bool false, .slice none 0 0, .slice none 0 0] 70)) := below_two w _ _
  have hsz : ((w.alloc (.cells #[.bool g, .slice q1 l1 c1, .slice p1 m1 e1] 24)).alloc (.cells #[.bool false, .slice none 0 0, .slice none 0 0] 70)).heap.size = w.heap.size + 2 := by simp
  have x0 : ((w.alloc (.cells #[.bool g, .slice q1 l1 c1, .slice p1 m1 e1] 24)).alloc (.cells #[.bool false, .slice none 0 0, .slice none 0 0] 70)).cell? ⟨w.heap.size, 0, none⟩ = some (.bool g) := by simp
  have x1 : ((w.alloc (.cells #[.bool g, .slice q1 l1 c1, .slice p1 m1 e1] 24)).alloc (.cells #[.bool false, .slice none 0 0, .slice none 0 0] 70)).cell? ⟨w.heap.size, 1, none⟩ = some (.slice q1 l1 c1) := by simp
  have x2 : ((w.alloc (.cells #[.bool g, .slice q1 l1 c1, .slice p1 m1 e1] 24)).alloc (.cells #[.bool false, .slice none 0 0, .slice none 0 0] 70)).cell? ⟨w.heap.size, 2, none⟩ = some (.slice p1 m1 e1) := by simp
  generalize ((w.alloc (.cells #[.bool g, .slice q1 l1 c1, .slice p1 m1 e1] 24)).alloc (.cells #[.bool false, .slice none 0 0, .slice none 0 0] 70)) = W0 at *
  have hS1 : (fun z => Below w.heap.size w z ∧ w.heap.size + 2 ≤ z.heap.size ∧ z.cell? ⟨w.heap.size, 0, none⟩ = some (.bool g) ∧ z.cell? ⟨w.heap.size, 1, none⟩ = some (.slice q1 l1 c1) ∧ z.cell? ⟨w.heap.size, 2, none⟩ = some (.slice p1 m1 e1)) W0 := ⟨hb0, by omega, x0, x1, x2⟩
  have tr : ∀ z z', (fun z => Below w.heap.size w z ∧ w.heap.size + 2 ≤ z.heap.size ∧ z.cell? ⟨w.heap.size, 0, none⟩ = some (.bool g) ∧ z.cell? ⟨w.heap.size, 1, none⟩ = some (.slice q1 l1 c1) ∧ z.cell? ⟨w.heap.size, 2, none⟩ = some (.slice p1 m1 e1)) z → Below z.heap.size z z' → (fun z => Below w.heap.size w z ∧ w.heap.size + 2 ≤ z.heap.size ∧ z.cell? ⟨w.heap.size, 0, none⟩ = some (.bool g) ∧ z.cell? ⟨w.heap.size, 1, none⟩ = some (.slice q1 l1 c1) ∧ z.cell? ⟨w.heap.size, 2, none⟩ = some (.slice p1 m1 e1)) z' := by
    rintro z z' ⟨a0, a1, a2, a3, a4⟩ hb
    have hs := hb.size
    exact ⟨a0.trans (hb.mono a0.size), by omega, (hb.cell (by show w.heap.size < _; omega)).trans a2, (hb.cell (by show w.heap.size < _; omega)).trans a3, (hb.cell (by show w.heap.size < _; omega)).trans a4⟩
  have ts : ∀ z j u, (fun z => Below w.heap.size w z ∧ w.heap.size + 2 ≤ z.heap.size ∧ z.cell? ⟨w.heap.size, 0, none⟩ = some (.bool g) ∧ z.cell? ⟨w.heap.size, 1, none⟩ = some (.slice q1 l1 c1) ∧ z.cell? ⟨w.heap.size, 2, none⟩ = some (.slice p1 m1 e1)) z → (fun z => Below w.heap.size w z ∧ w.heap.size + 2 ≤ z.heap.size ∧ z.cell? ⟨w.heap.size, 0, none⟩ = some (.bool g) ∧ z.cell? ⟨w.heap.size, 1, none⟩ = some (.slice q1 l1 c1) ∧ z.cell? ⟨w.heap.size, 2, none⟩ = some (.slice p1 m1 e1)) (z.setCell ⟨w.heap.size + 1, j, none⟩ u) := by
    rintro z j u ⟨a0, a1, a2, a3, a4⟩
    exact ⟨a0.setCell (by show _ ≤ w.heap.size + 1; omega) u, by simp; omega, (World.cell?_setCell_far _ _ _ _ (by simp)).trans a2, (World.cell?_setCell_far _ _ _ _ (by simp)).trans a3, (World.cell?_setCell_far _ _ _ _ (by simp)).trans a4⟩
  have tr' : Hid (∀ z z', (fun z => Below w.heap.size w z ∧ w.heap.size + 2 ≤ z.heap.size ∧ z.cell? ⟨w.heap.size, 0, none⟩ = some (.bool g) ∧ z.cell? ⟨w.heap.size, 1, none⟩ = some (.slice q1 l1 c1) ∧ z.cell? ⟨w.heap.size, 2, none⟩ = some (.slice p1 m1 e1)) z → Below z.heap.size z z' → (fun z => Below w.heap.size w z ∧ w.heap.size + 2 ≤ z.heap.size ∧ z.cell? ⟨w.heap.size, 0, none⟩ = some (.bool g) ∧ z.cell? ⟨w.heap.size, 1, none⟩ = some (.slice q1 l1 c1) ∧ z.cell? ⟨w.heap.size, 2, none⟩ = some (.slice p1 m1 e1)) z') := tr
  have ts' : Hid (∀ z j u, (fun z => Below w.heap.size w z ∧ w.heap.size + 2 ≤ z.heap.size ∧ z.cell? ⟨w.heap.size, 0, none⟩ = some (.bool g) ∧ z.cell? ⟨w.heap.size, 1, none⟩ = some (.slice q1 l1 c1) ∧ z.cell? ⟨w.heap.size, 2, none⟩ = some (.slice p1 m1 e1)) z → (fun z => Below w.heap.size w z ∧ w.heap.size + 2 ≤ z.heap.size ∧ z.cell? ⟨w.heap.size, 0, none⟩ = some (.bool g) ∧ z.cell? ⟨w.heap.size, 1, none⟩ = some (.slice q1 l1 c1) ∧ z.cell? ⟨w.heap.size, 2, none⟩ = some (.slice p1 m1 e1)) (z.setCell ⟨w.heap.size + 1, j, none⟩ u)) := ts
  have hnew' : Hid (QNew W0 (w.heap.size + 1)) := hnew
  have hb0' : Hid (Below w.heap.size w W0) := hb0
  have hS1' : Hid ((fun z => Below w.heap.size w z ∧ w.heap.size + 2 ≤ z.heap.size ∧ z.cell? ⟨w.heap.size, 0, none⟩ = some (.bool g) ∧ z.cell? ⟨w.heap.size, 1, none⟩ = some (.slice q1 l1 c1) ∧ z.cell? ⟨w.heap.size, 2, none⟩ = some (.slice p1 m1 e1)) W0) := hS1
  clear tr ts hnew hb0 hS1
  have kw2' := kw2 W0 hb0'.out
  clear kw2
  by_cases hD : D = []
  · subst hD
    have hd1 := hdn rfl
    clear hdn hds
    go_wp2_with (first
      | (go_at_call 72; with_reducible refine kw2'.mono ?_; rintro e w1 ⟨r1, rfl, hr1, hb1⟩
         obtain ⟨qd, kd, rfl⟩ := hr1.form)
      | (go_at_call 45; with_reducible refine (hof _).mono ?_; rintro e w2 ⟨r2, ds, rfl, hz, hzc, hzv, hzl, hb2⟩))
    have hb02 : Hid (Below W0.heap.size W0 w2) := hb1.trans (hb2.mono hb1.size)
    have hS4 : (fun z => Below w.heap.size w z ∧ w.heap.size + 2 ≤ z.heap.size ∧ z.cell? ⟨w.heap.size, 0, none⟩ = some (.bool g) ∧ z.cell? ⟨w.heap.size, 1, none⟩ = some (.slice q1 l1 c1) ∧ z.cell? ⟨w.heap.size, 2, none⟩ = some (.slice p1 m1 e1)) w2.drew := by
      have := tr'.out _ _ hS1'.out hb02.out
      exact ⟨this.1.drew, this.2⟩
    have hdd : Hid (Sl16 w2 r2 ds ∧ Canon ds ∧ val16 ds = denI (val de) ∧ ds.length ≤ 274877906000) := ⟨hz, hzc, by rw [hd1.out, hzv], by omega⟩
    clear hz hzc hzv hzl hb2 hb1 hd1 hr1
    go_region_held3 (fun z => Below w.heap.size w z ∧ w.heap.size + 2 ≤ z.heap.size ∧ z.cell? ⟨w.heap.size, 0, none⟩ = some (.bool g) ∧ z.cell? ⟨w.heap.size, 1, none⟩ = some (.slice q1 l1 c1) ∧ z.cell? ⟨w.heap.size, 2, none⟩ = some (.slice p1 m1 e1)) (first | exact ts'.out _ _ _ (ts'.out _ _ _ (ts'.out _ _ _ hSd)) | exact hSd | exact hSb | exact hS4)
      (first
        | (go_at_call 72; with_reducible refine (kw1 _ ?_).mono ?_; exact hS4.1; rintro e wa ⟨ra, rfl, ha, hba⟩
           have hSb := tr'.out _ _ hS4 hba
           have km := make_ok (g := g) ha (hdd.out.1.below ((Below.refl w2.heap.size w2).drew.trans hba)) (canon_trim _) hdd.out.2.1 lw1 hdd.out.2.2.2
           rw [val_trim16, val_halves, hdd.out.2.2.1] at km)
        | (go_at_call 44; with_reducible refine km.mono ?_; rintro e wd ⟨rd, rfl, hq, hbd⟩
           have hSd := tr'.out _ _ hSb hbd
           obtain ⟨u1, u2, nsq, dsq, rfl, k2, k3, k4, k5, k6, k7⟩ := hq
           obtain ⟨qn, kn, rfl⟩ := k2.form
           obtain ⟨qd, kd, rfl⟩ := k5.form
           have hb0d : Below W0.heap.size W0 wd := hb02.out.trans (((Below.refl w2.heap.size w2).drew.trans (hba.trans (hbd.mono hba.size))).mono hb02.out.size)
           obtain ⟨hk, hrow⟩ := q_endN (N := w.heap.size + 1) (g := mkG g (val nu) (denI (val de))) (by omega) hnew'.out hb0'.out hb0d k2 k3 k4 k5 k6 k7
           have hq9 := hnew'.out.below hb0d
           have f0 := hq9.c0
           have f1 := hq9.c1
           have f2 := hq9.c2
           have fr := hq9.fr
           clear hq9))
    go_wp2_with fail
    refine bodyPost_ret (results_cell_mid rfl _ _ (w.heap.size + 1) _ dd rfl hrow hu hd q_size) rfl ?_
    exact ⟨_, rfl, hk.out.1, hk.out.2⟩
  · have hd1 := hds hD
    have hDl : ¬ (D.length : Int) = 0 := by have := List.length_pos_iff.2 hD; omega
    clear hdn hds
    go_wp2_with (go_at_call 72; with_reducible refine kw2'.mono ?_; rintro e w2 ⟨r2, rfl, hr1, hb1⟩
                 have hr1' : Hid (Sl16 w2 r2 D) := hr1
                 obtain ⟨qd, kd, rfl⟩ := hr1.form)
    have hb02 : Hid (Below W0.heap.size W0 w2) := hb1
    have hS4 : (fun z => Below w.heap.size w z ∧ w.heap.size + 2 ≤ z.heap.size ∧ z.cell? ⟨w.heap.size, 0, none⟩ = some (.bool g) ∧ z.cell? ⟨w.heap.size, 1, none⟩ = some (.slice q1 l1 c1) ∧ z.cell? ⟨w.heap.size, 2, none⟩ = some (.slice p1 m1 e1)) w2.drew := by
      have := tr'.out _ _ hS1'.out hb02.out
      exact ⟨this.1.drew, this.2⟩
    have hdd : Hid (Sl16 w2 (.slice qd D.length kd) D ∧ Canon D ∧ val16 D = denI (val de) ∧ D.length ≤ 274877906000) := ⟨hr1, hcn'.out, by rw [hd1.out], lw2⟩
    clear hb1 hd1 hr1
    go_region_held3 (fun z => Below w.heap.size w z ∧ w.heap.size + 2 ≤ z.heap.size ∧ z.cell? ⟨w.heap.size, 0, none⟩ = some (.bool g) ∧ z.cell? ⟨w.heap.size, 1, none⟩ = some (.slice q1 l1 c1) ∧ z.cell? ⟨w.heap.size, 2, none⟩ = some (.slice p1 m1 e1)) (first | exact ts'.out _ _ _ (ts'.out _ _ _ (ts'.out _ _ _ hSd)) | exact hSd | exact hSb | exact hS4)
      (first
        | (go_at_call 72; with_reducible refine (kw1 _ ?_).mono ?_; exact hS4.1; rintro e wa ⟨ra, rfl, ha, hba⟩
           have hSb := tr'.out _ _ hS4 hba
           have km := make_ok (g := g) ha (hdd.out.1.below ((Below.refl w2.heap.size w2).drew.trans hba)) (canon_trim _) hdd.out.2.1 lw1 hdd.out.2.2.2
           rw [val_trim16, val_halves, hdd.out.2.2.1] at km)
        | (go_at_call 44; with_reducible refine km.mono ?_; rintro e wd ⟨rd, rfl, hq, hbd⟩
           have hSd := tr'.out _ _ hSb hbd
           obtain ⟨u1, u2, nsq, dsq, rfl, k2, k3, k4, k5, k6, k7⟩ := hq
           obtain ⟨qn, kn, rfl⟩ := k2.form
           obtain ⟨qd, kd, rfl⟩ := k5.form
           have hb0d : Below W0.heap.size W0 wd := hb02.out.trans (((Below.refl w2.heap.size w2).drew.trans (hba.trans (hbd.mono hba.size))).mono hb02.out.size)
           obtain ⟨hk, hrow⟩ := q_endN (N := w.heap.size + 1) (g := mkG g (val nu) (denI (val de))) (by omega) hnew'.out hb0'.out hb0d k2 k3 k4 k5 k6 k7
           have hq9 := hnew'.out.below hb0d
           have f0 := hq9.c0
           have f1 := hq9.c1
           have f2 := hq9.c2
           have fr := hq9.fr
           clear hq9))
    go_wp2_with fail
    refine bodyPost_ret (results_cell_mid rfl _ _ (w.heap.size + 1) _ dd rfl hrow hu hd q_size) rfl ?_
    exact ⟨_, rfl, hk.out.1, hk.out.2⟩

theorem mkN_le {n d : Int} (hn : 0 ≤ n) (hd : 0 ≤ d) : mkN n d ≤ n ∧ mkD n d ≤ max d 1 ∧ 0 ≤ mkN n d ∧ 0 ≤ mkD n d := by
  unfold mkN mkD
  split
  · omega
  · rename_i h
    have hg := gcdI_pos (b := d) (by omega : 0 < n)
    have h1 := Int.ediv_le_self (gcdI n d) hn
    have h2 := Int.ediv_le_self (gcdI n d) hd
    have h3 := Int.ediv_nonneg hn (by omega : 0 ≤ gcdI n d)
    have h4 := Int.ediv_nonneg hd (by omega : 0 ≤ gcdI n d)
    omega
end Go.Proofs.YtgmbeedbeahblaaGreatDoor
