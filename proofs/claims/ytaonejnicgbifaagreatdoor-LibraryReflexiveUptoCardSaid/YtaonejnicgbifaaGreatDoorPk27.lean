import Derived.Test.YtaonejnicgbifaaGreatDoorPk26
namespace Go.Proofs.YtaonejnicgbifaaGreatDoor
open Go Go.RowKit

theorem exV_good {x : Ex} (h : exV x = true) : Good x := by
  unfold exV at h
  obtain ⟨a, ha⟩ := Option.isSome_iff_exists.1 h
  exact ⟨1, 0, a, ha⟩

set_option maxRecDepth 100000 in
set_option maxHeartbeats 4000000 in
/-- expr.Equal of two valid expressions. -/
theorem equal54_ok {w : World} {x y : Ex} {d e : Nd} (hx : ExOk w x d) (hy : ExOk w y e) (hT : Tb w) (vx : exV x = true) (vy : exV y = true) :
    Calls Tryz.prog 54 #[d.val, e.val] w fun r w' => r = .returned (.tuple #[.bool (x.sm y), .int .i64 0]) ∧ Below w.heap.size w w' := by
  have hb0 : Hid (Below w.heap.size w ((w.alloc (.cells #[.int .i64 d.k, .int .i64 d.f, .bool d.neg, .slice d.aq d.an d.ac, .slice d.cq d.cn d.cc, .string d.m, .slice d.sq d.sn d.sc] 30)).alloc (.cells #[.int .i64 e.k, .int .i64 e.f, .bool e.neg, .slice e.aq e.an e.ac, .slice e.cq e.cn e.cc, .string e.m, .slice e.sq e.sn e.sc] 30))) := below_two w _ _
  have hs := hb0.out.size
  have k1 := fun z (hz : Below w.heap.size w z) => eValid_ok (hx.below hz) (hT.below hz)
  have k2 := fun z (hz : Below w.heap.size w z) => eValid_ok (hy.below hz) (hT.below hz)
  have k3 := fun z (hz : Below w.heap.size w z) => equal84_ok x y d e z (hx.below hz) (hy.below hz) (exV_good vx) (exV_good vy) (hT.below hz)
  rw [show (x.cnt 1 0).isSome = true from vx] at k1
  rw [show (y.cnt 1 0).isSome = true from vy] at k2
  simp only [Nd.val] at k1 k2 k3 ⊢
  have k2 : Hid (∀ z, Below w.heap.size w z → Calls Tryz.prog 26 #[.agg #[.int .i64 e.k, .int .i64 e.f, .bool e.neg, .slice e.aq e.an e.ac, .slice e.cq e.cn e.cc, .string e.m, .slice e.sq e.sn e.sc]] z fun r w' => r = .returned (.bool true) ∧ Below z.heap.size z w') := k2
  have k3 : Hid (∀ z, Below w.heap.size w z → Calls Tryz.prog 84 #[.agg #[.int .i64 d.k, .int .i64 d.f, .bool d.neg, .slice d.aq d.an d.ac, .slice d.cq d.cn d.cc, .string d.m, .slice d.sq d.sn d.sc], .agg #[.int .i64 e.k, .int .i64 e.f, .bool e.neg, .slice e.aq e.an e.ac, .slice e.cq e.cn e.cc, .string e.m, .slice e.sq e.sn e.sc]] z fun r w' => r = .returned (.bool (x.sm y)) ∧ Below z.heap.size z w') := k3
  have h1 := k1 _ hb0.out
  have l0 : w.heap.size + 1 < ((w.alloc (.cells #[.int .i64 d.k, .int .i64 d.f, .bool d.neg, .slice d.aq d.an d.ac, .slice d.cq d.cn d.cc, .string d.m, .slice d.sq d.sn d.sc] 30)).alloc (.cells #[.int .i64 e.k, .int .i64 e.f, .bool e.neg, .slice e.aq e.an e.ac, .slice e.cq e.cn e.cc, .string e.m, .slice e.sq e.sn e.sc] 30)).heap.size := by simp
  have y0 : ((w.alloc (.cells #[.int .i64 d.k, .int .i64 d.f, .bool d.neg, .slice d.aq d.an d.ac, .slice d.cq d.cn d.cc, .string d.m, .slice d.sq d.sn d.sc] 30)).alloc (.cells #[.int .i64 e.k, .int .i64 e.f, .bool e.neg, .slice e.aq e.an e.ac, .slice e.cq e.cn e.cc, .string e.m, .slice e.sq e.sn e.sc] 30)).cell? ⟨w.heap.size, 0, none⟩ = some (.int .i64 d.k) := by simp
  have y1 : ((w.alloc (.cells #[.int .i64 d.k, .int .i64 d.f, .bool d.neg, .slice d.aq d.an d.ac, .slice d.cq d.cn d.cc, .string d.m, .slice d.sq d.sn d.sc] 30)).alloc (.cells #[.int .i64 e.k, .int .i64 e.f, .bool e.neg, .slice e.aq e.an e.ac, .slice e.cq e.cn e.cc, .string e.m, .slice e.sq e.sn e.sc] 30)).cell? ⟨w.heap.size, 1, none⟩ = some (.int .i64 d.f) := by simp
  have y2 : ((w.alloc (.cells #[.int .i64 d.k, .int .i64 d.f, .bool d.neg, .slice d.aq d.an d.ac, .slice d.cq d.cn d.cc, .string d.m, .slice d.sq d.sn d.sc] 30)).alloc (.cells #[.int .i64 e.k, .int .i64 e.f, .bool e.neg, .slice e.aq e.an e.ac, .slice e.cq e.cn e.cc, .string e.m, .slice e.sq e.sn e.sc] 30)).cell? ⟨w.heap.size, 2, none⟩ = some (.bool d.neg) := by simp
  have y3 : ((w.alloc (.cells #[.int .i64 d.k, .int .i64 d.f, .bool d.neg, .slice d.aq d.an d.ac, .slice d.cq d.cn d.cc, .string d.m, .slice d.sq d.sn d.sc] 30)).alloc (.cells #[.int .i64 e.k, .int .i64 e.f, .bool e.neg, .slice e.aq e.an e.ac, .slice e.cq e.cn e.cc, .string e.m, .slice e.sq e.sn e.sc] 30)).cell? ⟨w.heap.size, 3, none⟩ = some (.slice d.aq d.an d.ac) := by simp
  have y4 : ((w.alloc (.cells #[.int .i64 d.k, .int .i64 d.f, .bool d.neg, .slice d.aq d.an d.ac, .slice d.cq d.cn d.cc, .string d.m, .slice d.sq d.sn d.sc] 30)).alloc (.cells #[.int .i64 e.k, .int .i64 e.f, .bool e.neg, .slice e.aq e.an e.ac, .slice e.cq e.cn e.cc, .string e.m, .slice e.sq e.sn e.sc] 30)).cell? ⟨w.heap.size, 4, none⟩ = some (.slice d.cq d.cn d.cc) := by simp
  have y5 : ((w.alloc (.cells #[.int .i64 d.k, .int .i64 d.f, .bool d.neg, .slice d.aq d.an d.ac, .slice d.cq d.cn d.cc, .string d.m, .slice d.sq d.sn d.sc] 30)).alloc (.cells #[.int .i64 e.k, .int .i64 e.f, .bool e.neg, .slice e.aq e.an e.ac, .slice e.cq e.cn e.cc, .string e.m, .slice e.sq e.sn e.sc] 30)).cell? ⟨w.heap.size, 5, none⟩ = some (.string d.m) := by simp
  have y6 : ((w.alloc (.cells #[.int .i64 d.k, .int .i64 d.f, .bool d.neg, .slice d.aq d.an d.ac, .slice d.cq d.cn d.cc, .string d.m, .slice d.sq d.sn d.sc] 30)).alloc (.cells #[.int .i64 e.k, .int .i64 e.f, .bool e.neg, .slice e.aq e.an e.ac, .slice e.cq e.cn e.cc, .string e.m, .slice e.sq e.sn e.sc] 30)).cell? ⟨w.heap.size, 6, none⟩ = some (.slice d.sq d.sn d.sc) := by simp
  have yy0 : ((w.alloc (.cells #[.int .i64 d.k, .int .i64 d.f, .bool d.neg, .slice d.aq d.an d.ac, .slice d.cq d.cn d.cc, .string d.m, .slice d.sq d.sn d.sc] 30)).alloc (.cells #[.int .i64 e.k, .int .i64 e.f, .bool e.neg, .slice e.aq e.an e.ac, .slice e.cq e.cn e.cc, .string e.m, .slice e.sq e.sn e.sc] 30)).cell? ⟨w.heap.size + 1, 0, none⟩ = some (.int .i64 e.k) := by simp
  have yy1 : ((w.alloc (.cells #[.int .i64 d.k, .int .i64 d.f, .bool d.neg, .slice d.aq d.an d.ac, .slice d.cq d.cn d.cc, .string d.m, .slice d.sq d.sn d.sc] 30)).alloc (.cells #[.int .i64 e.k, .int .i64 e.f, .bool e.neg, .slice e.aq e.an e.ac, .slice e.cq e.cn e.cc, .string e.m, .slice e.sq e.sn e.sc] 30)).cell? ⟨w.heap.size + 1, 1, none⟩ = some (.int .i64 e.f) := by simp
  have yy2 : ((w.alloc (.cells #[.int .i64 d.k, .int .i64 d.f, .bool d.neg, .slice d.aq d.an d.ac, .slice d.cq d.cn d.cc, .string d.m, .slice d.sq d.sn d.sc] 30)).alloc (.cells #[.int .i64 e.k, .int .i64 e.f, .bool e.neg, .slice e.aq e.an e.ac, .slice e.cq e.cn e.cc, .string e.m, .slice e.sq e.sn e.sc] 30)).cell? ⟨w.heap.size + 1, 2, none⟩ = some (.bool e.neg) := by simp
  have yy3 : ((w.alloc (.cells #[.int .i64 d.k, .int .i64 d.f, .bool d.neg, .slice d.aq d.an d.ac, .slice d.cq d.cn d.cc, .string d.m, .slice d.sq d.sn d.sc] 30)).alloc (.cells #[.int .i64 e.k, .int .i64 e.f, .bool e.neg, .slice e.aq e.an e.ac, .slice e.cq e.cn e.cc, .string e.m, .slice e.sq e.sn e.sc] 30)).cell? ⟨w.heap.size + 1, 3, none⟩ = some (.slice e.aq e.an e.ac) := by simp
  have yy4 : ((w.alloc (.cells #[.int .i64 d.k, .int .i64 d.f, .bool d.neg, .slice d.aq d.an d.ac, .slice d.cq d.cn d.cc, .string d.m, .slice d.sq d.sn d.sc] 30)).alloc (.cells #[.int .i64 e.k, .int .i64 e.f, .bool e.neg, .slice e.aq e.an e.ac, .slice e.cq e.cn e.cc, .string e.m, .slice e.sq e.sn e.sc] 30)).cell? ⟨w.heap.size + 1, 4, none⟩ = some (.slice e.cq e.cn e.cc) := by simp
  have yy5 : ((w.alloc (.cells #[.int .i64 d.k, .int .i64 d.f, .bool d.neg, .slice d.aq d.an d.ac, .slice d.cq d.cn d.cc, .string d.m, .slice d.sq d.sn d.sc] 30)).alloc (.cells #[.int .i64 e.k, .int .i64 e.f, .bool e.neg, .slice e.aq e.an e.ac, .slice e.cq e.cn e.cc, .string e.m, .slice e.sq e.sn e.sc] 30)).cell? ⟨w.heap.size + 1, 5, none⟩ = some (.string e.m) := by simp
  have yy6 : ((w.alloc (.cells #[.int .i64 d.k, .int .i64 d.f, .bool d.neg, .slice d.aq d.an d.ac, .slice d.cq d.cn d.cc, .string d.m, .slice d.sq d.sn d.sc] 30)).alloc (.cells #[.int .i64 e.k, .int .i64 e.f, .bool e.neg, .slice e.aq e.an e.ac, .slice e.cq e.cn e.cc, .string e.m, .slice e.sq e.sn e.sc] 30)).cell? ⟨w.heap.size + 1, 6, none⟩ = some (.slice e.sq e.sn e.sc) := by simp
  clear k1 hx hy vx vy hT
  go_enter Tryz.func54, Tryz.ntmps54
  go_wp2_with (first
    | (go_at_call 26; with_reducible refine h1.mono ?_; clear h1; rintro r w3 ⟨rfl, hbw3⟩
       have B3 : Hid (Below w.heap.size w w3) := hb0.out.trans (hbw3.mono hb0.out.size)
       have l3 : w.heap.size + 1 < w3.heap.size := Nat.lt_of_lt_of_le l0 hbw3.size
       have h2 := k2.out w3 B3.out
       have a0 := (hbw3.cell (p := ⟨w.heap.size, 0, none⟩) (by exact Nat.lt_trans (Nat.lt_succ_self _) l0)).trans y0
       have a1 := (hbw3.cell (p := ⟨w.heap.size, 1, none⟩) (by exact Nat.lt_trans (Nat.lt_succ_self _) l0)).trans y1
       have a2 := (hbw3.cell (p := ⟨w.heap.size, 2, none⟩) (by exact Nat.lt_trans (Nat.lt_succ_self _) l0)).trans y2
       have a3 := (hbw3.cell (p := ⟨w.heap.size, 3, none⟩) (by exact Nat.lt_trans (Nat.lt_succ_self _) l0)).trans y3
       have a4 := (hbw3.cell (p := ⟨w.heap.size, 4, none⟩) (by exact Nat.lt_trans (Nat.lt_succ_self _) l0)).trans y4
       have a5 := (hbw3.cell (p := ⟨w.heap.size, 5, none⟩) (by exact Nat.lt_trans (Nat.lt_succ_self _) l0)).trans y5
       have a6 := (hbw3.cell (p := ⟨w.heap.size, 6, none⟩) (by exact Nat.lt_trans (Nat.lt_succ_self _) l0)).trans y6
       have aa0 := (hbw3.cell (p := ⟨w.heap.size + 1, 0, none⟩) (by exact l0)).trans yy0
       have aa1 := (hbw3.cell (p := ⟨w.heap.size + 1, 1, none⟩) (by exact l0)).trans yy1
       have aa2 := (hbw3.cell (p := ⟨w.heap.size + 1, 2, none⟩) (by exact l0)).trans yy2
       have aa3 := (hbw3.cell (p := ⟨w.heap.size + 1, 3, none⟩) (by exact l0)).trans yy3
       have aa4 := (hbw3.cell (p := ⟨w.heap.size + 1, 4, none⟩) (by exact l0)).trans yy4
       have aa5 := (hbw3.cell (p := ⟨w.heap.size + 1, 5, none⟩) (by exact l0)).trans yy5
       have aa6 := (hbw3.cell (p := ⟨w.heap.size + 1, 6, none⟩) (by exact l0)).trans yy6
       clear hbw3 y0 yy0 y1 yy1 y2 yy2 y3 yy3 y4 yy4 y5 yy5 y6 yy6)
    | (go_at_call 26; with_reducible refine h2.mono ?_; clear h2; rintro r w4 ⟨rfl, hbw4⟩
       have B4 : Hid (Below w.heap.size w w4) := B3.out.trans (hbw4.mono B3.out.size)
       have h3 := k3.out w4 B4.out
       have c0 := (hbw4.cell (p := ⟨w.heap.size, 0, none⟩) (by exact Nat.lt_trans (Nat.lt_succ_self _) l3)).trans a0
       have c1 := (hbw4.cell (p := ⟨w.heap.size, 1, none⟩) (by exact Nat.lt_trans (Nat.lt_succ_self _) l3)).trans a1
       have c2 := (hbw4.cell (p := ⟨w.heap.size, 2, none⟩) (by exact Nat.lt_trans (Nat.lt_succ_self _) l3)).trans a2
       have c3 := (hbw4.cell (p := ⟨w.heap.size, 3, none⟩) (by exact Nat.lt_trans (Nat.lt_succ_self _) l3)).trans a3
       have c4 := (hbw4.cell (p := ⟨w.heap.size, 4, none⟩) (by exact Nat.lt_trans (Nat.lt_succ_self _) l3)).trans a4
       have c5 := (hbw4.cell (p := ⟨w.heap.size, 5, none⟩) (by exact Nat.lt_trans (Nat.lt_succ_self _) l3)).trans a5
       have c6 := (hbw4.cell (p := ⟨w.heap.size, 6, none⟩) (by exact Nat.lt_trans (Nat.lt_succ_self _) l3)).trans a6
       have cc0 := (hbw4.cell (p := ⟨w.heap.size + 1, 0, none⟩) (by exact l3)).trans aa0
       have cc1 := (hbw4.cell (p := ⟨w.heap.size + 1, 1, none⟩) (by exact l3)).trans aa1
       have cc2 := (hbw4.cell (p := ⟨w.heap.size + 1, 2, none⟩) (by exact l3)).trans aa2
       have cc3 := (hbw4.cell (p := ⟨w.heap.size + 1, 3, none⟩) (by exact l3)).trans aa3
       have cc4 := (hbw4.cell (p := ⟨w.heap.size + 1, 4, none⟩) (by exact l3)).trans aa4
       have cc5 := (hbw4.cell (p := ⟨w.heap.size + 1, 5, none⟩) (by exact l3)).trans aa5
       have cc6 := (hbw4.cell (p := ⟨w.heap.size + 1, 6, none⟩) (by exact l3)).trans aa6
       clear hbw4 a0 aa0 a1 aa1 a2 aa2 a3 aa3 a4 aa4 a5 aa5 a6 aa6)
    | (go_at_call 84; with_reducible refine h3.mono ?_; rintro r w5 ⟨rfl, hbw5⟩))
  go_ret2
  exact ⟨rfl, B4.out.trans (hbw5.mono B4.out.size)⟩

set_option maxRecDepth 100000 in
set_option maxHeartbeats 1000000 in
/-- library.equal of two valid expressions. -/
theorem equal28_ok {w : World} {x y : Ex} {d e : Nd} (hx : ExOk w x d) (hy : ExOk w y e) (hT : Tb w) (vx : exV x = true) (vy : exV y = true) :
    Calls Tryz.prog 28 #[d.val, e.val] w fun r w' => r = .returned (.bool (x.sm y)) ∧ Below w.heap.size w w' := by
  have hb0 : Below w.heap.size w ((w.alloc (.cells #[.int .i64 d.k, .int .i64 d.f, .bool d.neg, .slice d.aq d.an d.ac, .slice d.cq d.cn d.cc, .string d.m, .slice d.sq d.sn d.sc] 30)).alloc (.cells #[.int .i64 e.k, .int .i64 e.f, .bool e.neg, .slice e.aq e.an e.ac, .slice e.cq e.cn e.cc, .string e.m, .slice e.sq e.sn e.sc] 30)) := below_two w _ _
  have h1 := equal54_ok (hx.below hb0) (hy.below hb0) (hT.below hb0) vx vy
  have hb0 : Hid (Below w.heap.size w ((w.alloc (.cells #[.int .i64 d.k, .int .i64 d.f, .bool d.neg, .slice d.aq d.an d.ac, .slice d.cq d.cn d.cc, .string d.m, .slice d.sq d.sn d.sc] 30)).alloc (.cells #[.int .i64 e.k, .int .i64 e.f, .bool e.neg, .slice e.aq e.an e.ac, .slice e.cq e.cn e.cc, .string e.m, .slice e.sq e.sn e.sc] 30))) := hb0
  simp only [Nd.val] at h1 ⊢
  generalize x.sm y = R at *
  clear hx hy hT
  go_enter Tryz.func28, Tryz.ntmps28
  go_wp2_with (go_at_call 54; with_reducible refine h1.mono ?_; rintro r w3 ⟨rfl, hb3⟩)
  go_ret
  exact ⟨by simp, hb0.out.trans (hb3.mono hb0.out.size)⟩
end Go.Proofs.YtaonejnicgbifaaGreatDoor
namespace Go.Proofs.YtaonejnicgbifaaGreatDoor
open Go Go.RowKit

theorem co_row : ∃ d, Tryz.prog.underlying 50 = some d ∧ d.isRow = true := ⟨_, Tryz.underlying50, rfl⟩
theorem co_size : (Tryz.prog.info? 50).map (·.size) = some 8 := by kernel_rfl
theorem Co.one' (c : Co) (d : Nd) : (c.cells d).toArray.all (·.oneCell') = true := by
  rw [List.all_toArray, List.all_eq_true]
  exact Co.one c d
/-- A condition of the covering claim serves for one of the covered. -/
def coSv (x k : Co) : Bool := (x.st || !k.st) && x.x.sm k.x

set_option maxRecDepth 100000 in
set_option maxHeartbeats 1000000 in
theorem cond33_walk {w : World} {d e : Nd} {xs ks R : Bool} (B : Nat) (hB : B < w.heap.size) (hk : BlkI w B 50 #[.int .i64 e.k, .int .i64 e.f, .bool e.neg, .slice e.aq e.an e.ac, .slice e.cq e.cn e.cc, .string e.m, .slice e.sq e.sn e.sc, .bool ks])
    (hE : ∀ z, Below w.heap.size w z → Calls Tryz.prog 28 #[.agg #[.int .i64 d.k, .int .i64 d.f, .bool d.neg, .slice d.aq d.an d.ac, .slice d.cq d.cn d.cc, .string d.m, .slice d.sq d.sn d.sc], .agg #[.int .i64 e.k, .int .i64 e.f, .bool e.neg, .slice e.aq e.an e.ac, .slice e.cq e.cn e.cc, .string e.m, .slice e.sq e.sn e.sc]] z fun r w' => r = .returned (.bool R) ∧ Below z.heap.size z w') :
    Calls Tryz.prog 33 #[.agg #[.int .i64 d.k, .int .i64 d.f, .bool d.neg, .slice d.aq d.an d.ac, .slice d.cq d.cn d.cc, .string d.m, .slice d.sq d.sn d.sc, .bool xs], .pointer (some ⟨B, 0, none⟩)] w fun r w' => r = .returned (.bool ((xs || !ks) && R)) ∧ Below w.heap.size w w' := by
  have hb0 : Below w.heap.size w (w.alloc (.cells #[.int .i64 d.k, .int .i64 d.f, .bool d.neg, .slice d.aq d.an d.ac, .slice d.cq d.cn d.cc, .string d.m, .slice d.sq d.sn d.sc, .bool xs] 50)) := below_alloc w _
  have h1 := hE _ hb0
  have hk1 := hk.below hb0
  have u0 : (w.alloc (.cells #[.int .i64 d.k, .int .i64 d.f, .bool d.neg, .slice d.aq d.an d.ac, .slice d.cq d.cn d.cc, .string d.m, .slice d.sq d.sn d.sc, .bool xs] 50)).cell? ⟨B, 0, none⟩ = some (.int .i64 e.k) := hk1.cell 0
  have u1 : (w.alloc (.cells #[.int .i64 d.k, .int .i64 d.f, .bool d.neg, .slice d.aq d.an d.ac, .slice d.cq d.cn d.cc, .string d.m, .slice d.sq d.sn d.sc, .bool xs] 50)).cell? ⟨B, 1, none⟩ = some (.int .i64 e.f) := hk1.cell 1
  have u2 : (w.alloc (.cells #[.int .i64 d.k, .int .i64 d.f, .bool d.neg, .slice d.aq d.an d.ac, .slice d.cq d.cn d.cc, .string d.m, .slice d.sq d.sn d.sc, .bool xs] 50)).cell? ⟨B, 2, none⟩ = some (.bool e.neg) := hk1.cell 2
  have u3 : (w.alloc (.cells #[.int .i64 d.k, .int .i64 d.f, .bool d.neg, .slice d.aq d.an d.ac, .slice d.cq d.cn d.cc, .string d.m, .slice d.sq d.sn d.sc, .bool xs] 50)).cell? ⟨B, 3, none⟩ = some (.slice e.aq e.an e.ac) := hk1.cell 3
  have u4 : (w.alloc (.cells #[.int .i64 d.k, .int .i64 d.f, .bool d.neg, .slice d.aq d.an d.ac, .slice d.cq d.cn d.cc, .string d.m, .slice d.sq d.sn d.sc, .bool xs] 50)).cell? ⟨B, 4, none⟩ = some (.slice e.cq e.cn e.cc) := hk1.cell 4
  have u5 : (w.alloc (.cells #[.int .i64 d.k, .int .i64 d.f, .bool d.neg, .slice d.aq d.an d.ac, .slice d.cq d.cn d.cc, .string d.m, .slice d.sq d.sn d.sc, .bool xs] 50)).cell? ⟨B, 5, none⟩ = some (.string e.m) := hk1.cell 5
  have u6 : (w.alloc (.cells #[.int .i64 d.k, .int .i64 d.f, .bool d.neg, .slice d.aq d.an d.ac, .slice d.cq d.cn d.cc, .string d.m, .slice d.sq d.sn d.sc, .bool xs] 50)).cell? ⟨B, 6, none⟩ = some (.slice e.sq e.sn e.sc) := hk1.cell 6
  have u7 : (w.alloc (.cells #[.int .i64 d.k, .int .i64 d.f, .bool d.neg, .slice d.aq d.an d.ac, .slice d.cq d.cn d.cc, .string d.m, .slice d.sq d.sn d.sc, .bool xs] 50)).cell? ⟨B, 7, none⟩ = some (.bool ks) := hk1.cell 7
  have hb0 : Hid (Below w.heap.size w (w.alloc (.cells #[.int .i64 d.k, .int .i64 d.f, .bool d.neg, .slice d.aq d.an d.ac, .slice d.cq d.cn d.cc, .string d.m, .slice d.sq d.sn d.sc, .bool xs] 50))) := hb0
  clear hE hk hk1
  cases xs with
  | true =>
    go_enter Tryz.func33, Tryz.ntmps33
    go_wp2_with (go_at_call 28; with_reducible refine h1.mono ?_; rintro r w3 ⟨rfl, hb3⟩)
    go_ret
    exact ⟨by simp, hb0.out.trans (hb3.mono hb0.out.size)⟩
  | false =>
    cases ks with
    | true =>
      go_enter Tryz.func33, Tryz.ntmps33
      go_wp2_with fail
      go_ret
      exact ⟨by simp, hb0.out⟩
    | false =>
      go_enter Tryz.func33, Tryz.ntmps33
      go_wp2_with (go_at_call 28; with_reducible refine h1.mono ?_; rintro r w3 ⟨rfl, hb3⟩)
      go_ret
      exact ⟨by simp, hb0.out.trans (hb3.mono hb0.out.size)⟩
/-- The closure 33. -/
theorem cond33_ok {w : World} (C : Co) (d : Nd) (K : Co) (e : Nd) (B : Nat) (hB : B < w.heap.size) (hk : BlkI w B 50 (K.cells e).toArray) (hx : ExOk w C.x d) (hy : ExOk w K.x e) (vx : exV C.x = true) (vy : exV K.x = true) (hT : Tb w) :
    Calls Tryz.prog 33 #[.agg (C.cells d).toArray, .pointer (some ⟨B, 0, none⟩)] w fun r w' => r = .returned (.bool (coSv C K)) ∧ Below w.heap.size w w' :=
  cond33_walk B hB hk (fun z hz => equal28_ok (hx.below hz) (hy.below hz) (hT.below hz) vx vy)

set_option maxRecDepth 100000 in
set_option maxHeartbeats 1000000 in
/-- slices.IndexFunc over conditions with the closure 33. -/
theorem idx33_walk {w : World} (b o n c : Nat) (cs : Nat → Co) (ds : Nat → Nd) (P : Nat → Bool) (hn : n ≤ 1048576) (hb : b < w.heap.size) (hx : ∀ i, i < n → w.rangeAt b (o + i * 8) ((cs i).cells (ds i))) (B : Nat)
    (hc : ∀ i, i < n → ∀ z, Below w.heap.size w z → Calls Tryz.prog 33 #[.agg ((cs i).cells (ds i)).toArray, .pointer (some ⟨B, 0, none⟩)] z fun r w' => r = .returned (.bool (P i)) ∧ Below z.heap.size z w') :
    Calls Tryz.prog 59 #[.slice (some ⟨b, o, none⟩) n c, .func (.func 33) #[] #[.pointer (some ⟨B, 0, none⟩)]] w fun x w' => x = .returned (.int .i64 (ixV ((List.range n).find? P))) ∧ Below w.heap.size w w' := by
  have hx' : Hid (∀ i, i < n → w.rangeAt b (o + i * 8) ((cs i).cells (ds i))) := hx
  have hc' : Hid (∀ i, i < n → ∀ z, Below w.heap.size w z → Calls Tryz.prog 33 #[.agg ((cs i).cells (ds i)).toArray, .pointer (some ⟨B, 0, none⟩)] z fun r w' => r = .returned (.bool (P i)) ∧ Below z.heap.size z w') := hc
  obtain ⟨dd, hu, hd⟩ := co_row
  have hHu : Hid (Tryz.prog.underlying 50 = some dd) := hu
  clear hx hu hc
  go_enter Tryz.func59, Tryz.ntmps59
  go_wp2_with fail
  go_loopw [8] (fun i wr => ∃ k : Nat, k ≤ n ∧ i = .int .i64 k ∧ Hid (∀ j, j < k → P j = false) ∧ Below w.heap.size w wr) (fun i _ => n - (intOf i).toNat)
  case atStart => exact ⟨0, Nat.zero_le _, rfl, fun j hj => by omega, Below.refl _ _⟩
  case round =>
    obtain ⟨k, hk, rfl, hlow, hbw⟩ := hrel
    by_cases hlt : k < n
    · have hlt' : (k : Int) < (n : Int) := by omega
      have hx := rangeAt_below (hx'.out k hlt) hbw hb
      have lx := Co.len (cs k) (ds k)
      have ox' : Hid (((cs k).cells (ds k)).toArray.all (·.oneCell') = true) := Co.one' _ _
      have hcall := hc'.out k hlt wr hbw
      obtain ⟨M, hM⟩ : ∃ M, P k = M := ⟨_, rfl⟩
      have hM : Hid (P k = M) := hM
      rw [hM.out] at hcall
      generalize (cs k).cells (ds k) = cx at *
      cases M with
      | true =>
        go_wp2_with (first
          | (with_reducible refine wpList_load_mid (op := ⟨some 15, _, _, _, _, _⟩) ?_ 50 (.tmp 14) ?_ (b) (o + k * 8) ?_ cx dd ?_ hHu.out hd ?_ ?_
             rotate_left 1
             · with_reducible rfl
             · kernel_rfl
             · exact hx
             · (rw [lx]; exact co_size)
             rotate_left 1
             · rfl)
          | (go_at_call 33; refine hcall.mono ?_; rintro x w5 ⟨rfl, hb5⟩))
        go_ret
        have hs : (List.range n).find? P = some k := by
          rw [List.find?_eq_some_iff_getElem]
          refine ⟨hM.out, k, by simpa using hlt, by simp, fun i hi => ?_⟩
          simp [hlow.out i hi]
        exact ⟨by rw [hs]; rfl, hbw.trans (hb5.mono hbw.size)⟩
      | false =>
        go_wp2_with (first
          | (with_reducible refine wpList_load_mid (op := ⟨some 15, _, _, _, _, _⟩) ?_ 50 (.tmp 14) ?_ (b) (o + k * 8) ?_ cx dd ?_ hHu.out hd ?_ ?_
             rotate_left 1
             · with_reducible rfl
             · kernel_rfl
             · exact hx
             · (rw [lx]; exact co_size)
             rotate_left 1
             · rfl)
          | (go_at_call 33; refine hcall.mono ?_; rintro x w5 ⟨rfl, hb5⟩))
        go_roundw
        case rel =>
          refine ⟨k + 1, by omega, by go_num, fun j hj => ?_, hbw.trans (hb5.mono hbw.size)⟩
          rcases Nat.lt_or_ge j k with h | h
          · exact hlow.out j h
          · obtain rfl : j = k := by omega
            exact hM.out
        case measure => simp [intOf]; omega
    · obtain rfl : k = n := by omega
      go_wp2_with fail
      go_ret
      have hs : (List.range k).find? P = none := by
        rw [List.find?_eq_none]
        intro i hi
        simp [hlow.out i (List.mem_range.1 hi)]
      exact ⟨by rw [hs]; rfl, hbw⟩
set_option maxRecDepth 100000 in
theorem idx33_none {w : World} (q : Option Addr) (c : Nat) (f : Value) : Calls Tryz.prog 59 #[.slice q 0 c, f] w fun x w' => x = .returned (.int .i64 (-1)) ∧ w' = w := by
  go_enter Tryz.func59, Tryz.ntmps59
  go_wp2_with fail
  refine wp_loop_once ?_
  go_wp2_with fail
  go_ret
  exact ⟨rfl, rfl⟩
theorem ixV_ge (n : Nat) (P : Nat → Bool) : decide (ixV ((List.range n).find? P) ≥ 0) = (List.range n).any P := by
  cases h : (List.range n).find? P with
  | none =>
    rw [List.find?_eq_none] at h
    have : (List.range n).any P = false := by
      rw [List.any_eq_false]
      exact h
    rw [this]
    rfl
  | some i =>
    have h1 := List.find?_some h
    have h2 := List.mem_of_find?_eq_some h
    have : (List.range n).any P = true := by
      rw [List.any_eq_true]
      exact ⟨i, h2, h1⟩
    rw [this, decide_eq_true (show ixV (some i) ≥ 0 by simp only [ixV]; omega)]
set_option maxRecDepth 100000 in
/-- slices.ContainsFunc over conditions with the closure 33. -/
theorem has33_ok {w : World} {q : Option Addr} {n : Nat} (c : Nat) {cs : Nat → Co} (h : CosOk w q n cs) (hn : n ≤ 1048576) (hv : ∀ i, i < n → exV (cs i).x = true) (K : Co) (e : Nd) (B : Nat) (hB : B < w.heap.size) (hk : BlkI w B 50 (K.cells e).toArray) (hy : ExOk w K.x e) (vy : exV K.x = true) (hT : Tb w) :
    Calls Tryz.prog 32 #[.slice q n c, .func (.func 33) #[] #[.pointer (some ⟨B, 0, none⟩)]] w fun x w' => x = .returned (.bool ((List.range n).any fun i => coSv (cs i) K)) ∧ Below w.heap.size w w' := by
  have hcall : Calls Tryz.prog 59 #[.slice q n c, .func (.func 33) #[] #[.pointer (some ⟨B, 0, none⟩)]] w fun x w' => x = .returned (.int .i64 (ixV ((List.range n).find? fun i => coSv (cs i) K))) ∧ Below w.heap.size w w' := by
    rcases h with rfl | ⟨b, o, rfl, hlt, ds, hds⟩
    · refine (idx33_none q c _).mono ?_
      rintro x w' ⟨rfl, rfl⟩
      exact ⟨rfl, Below.refl _ _⟩
    · exact idx33_walk b o n c cs ds _ hn hlt (fun i hi => (hds i hi).1) B (fun i hi z hz => cond33_ok (cs i) (ds i) K e B (Nat.lt_of_lt_of_le hB hz.size) (hk.below hz) ((hds i hi).2.below hz) (hy.below hz) (hv i hi) vy (hT.below hz))
  rw [← ixV_ge]
  generalize ixV _ = r at *
  clear h hk hv hT hy
  go_enter Tryz.func32, Tryz.ntmps32
  go_wp2_with (go_at_call 59; with_reducible refine hcall.mono ?_; rintro x w5 ⟨rfl, hb5⟩)
  go_ret
  exact ⟨rfl, hb5⟩
end Go.Proofs.YtaonejnicgbifaaGreatDoor
