import Derived.Test.YtaonejnicgbifaaGreatDoorPk20
namespace Go.Proofs.YtaonejnicgbifaaGreatDoor
open Go Go.RowKit

set_option maxRecDepth 100000 in
set_option maxHeartbeats 2000000 in
theorem insideC_fail1 {w : World} {B1 B2 : Nat} {g1s g2s lis hhs : Bool} {q1s p1s q2s p2s : Option Addr} {l1s c1s m1s e1s l2s c2s m2s e2s : Nat} (hr1 : w.rangeAt B1 0 [.bool g1s, .slice q1s l1s c1s, .slice p1s m1s e1s, .bool g2s, .slice q2s l2s c2s, .slice p2s m2s e2s, .bool lis, .bool hhs])
    (ks : ∀ z, Below w.heap.size w z → Calls Tryz.prog 57 #[.agg #[.bool g1s, .slice q1s l1s c1s, .slice p1s m1s e1s, .bool g2s, .slice q2s l2s c2s, .slice p2s m2s e2s, .bool lis, .bool hhs]] z fun e w' => e = .panicked [{ v := .iface 141 (.agg #[.int .i64 1]), recovered := false }] ∧ Below z.heap.size z w') :
    Calls Tryz.prog 56 #[.pointer (some ⟨B1, 0, none⟩), .pointer (some ⟨B2, 0, none⟩)] w fun e w' => e = .panicked [{ v := .iface 141 (.agg #[.int .i64 1]), recovered := false }] ∧ Below w.heap.size w w' := by
  have x0 : w.cell? ⟨B1, 0, none⟩ = some (.bool g1s) := by simpa using hr1 0 _ rfl
  have x1 : w.cell? ⟨B1, 1, none⟩ = some (.slice q1s l1s c1s) := by simpa using hr1 1 _ rfl
  have x2 : w.cell? ⟨B1, 2, none⟩ = some (.slice p1s m1s e1s) := by simpa using hr1 2 _ rfl
  have x3 : w.cell? ⟨B1, 3, none⟩ = some (.bool g2s) := by simpa using hr1 3 _ rfl
  have x4 : w.cell? ⟨B1, 4, none⟩ = some (.slice q2s l2s c2s) := by simpa using hr1 4 _ rfl
  have x5 : w.cell? ⟨B1, 5, none⟩ = some (.slice p2s m2s e2s) := by simpa using hr1 5 _ rfl
  have x6 : w.cell? ⟨B1, 6, none⟩ = some (.bool lis) := by simpa using hr1 6 _ rfl
  have x7 : w.cell? ⟨B1, 7, none⟩ = some (.bool hhs) := by simpa using hr1 7 _ rfl
  go_enter Tryz.func56, Tryz.ntmps56
  go_wp2_with (go_at_call 57; refine (ks _ (Below.refl _ _)).mono ?_; rintro e w5 ⟨rfl, hb5⟩)
  exact ⟨rfl, rfl, hb5⟩
set_option maxRecDepth 100000 in
set_option maxHeartbeats 2000000 in
theorem insideC_fail2 {w : World} {B1 B2 : Nat} {g1s g2s lis hhs G1s G2s Vs : Bool} {q1s p1s q2s p2s : Option Addr} {l1s c1s m1s e1s l2s c2s m2s e2s : Nat} {X1s Y1s X2s Y2s : Int} {g1t g2t lit hht : Bool} {q1t p1t q2t p2t : Option Addr} {l1t c1t m1t e1t l2t c2t m2t e2t : Nat} (hB2 : B2 < w.heap.size) (hr1 : w.rangeAt B1 0 [.bool g1s, .slice q1s l1s c1s, .slice p1s m1s e1s, .bool g2s, .slice q2s l2s c2s, .slice p2s m2s e2s, .bool lis, .bool hhs]) (hr2 : w.rangeAt B2 0 [.bool g1t, .slice q1t l1t c1t, .slice p1t m1t e1t, .bool g2t, .slice q2t l2t c2t, .slice p2t m2t e2t, .bool lit, .bool hht])
    (ks : (∀ z, Below w.heap.size w z → Calls Tryz.prog 57 #[.agg #[.bool g1s, .slice q1s l1s c1s, .slice p1s m1s e1s, .bool g2s, .slice q2s l2s c2s, .slice p2s m2s e2s, .bool lis, .bool hhs]] z fun e w' => ∃ a1s n1s k1s a2s n2s k2s b1s r1s s1s b2s r2s s2s, e = .returned (.agg #[.bool G1s, .slice a1s n1s k1s, .slice a2s n2s k2s, .bool G2s, .slice b1s r1s s1s, .slice b2s r2s s2s, .bool lis, .bool hhs, .bool Vs]) ∧ FAt w' (.agg #[.bool G1s, .slice a1s n1s k1s, .slice a2s n2s k2s]) G1s X1s Y1s ∧ FAt w' (.agg #[.bool G2s, .slice b1s r1s s1s, .slice b2s r2s s2s]) G2s X2s Y2s ∧ Below z.heap.size z w')) (kt : ∀ z, Below w.heap.size w z → Calls Tryz.prog 57 #[.agg #[.bool g1t, .slice q1t l1t c1t, .slice p1t m1t e1t, .bool g2t, .slice q2t l2t c2t, .slice p2t m2t e2t, .bool lit, .bool hht]] z fun e w' => e = .panicked [{ v := .iface 141 (.agg #[.int .i64 1]), recovered := false }] ∧ Below z.heap.size z w') :
    Calls Tryz.prog 56 #[.pointer (some ⟨B1, 0, none⟩), .pointer (some ⟨B2, 0, none⟩)] w fun e w' => e = .panicked [{ v := .iface 141 (.agg #[.int .i64 1]), recovered := false }] ∧ Below w.heap.size w w' := by
  have hs : Hid (∀ z, Below w.heap.size w z → Calls Tryz.prog 57 #[.agg #[.bool g1s, .slice q1s l1s c1s, .slice p1s m1s e1s, .bool g2s, .slice q2s l2s c2s, .slice p2s m2s e2s, .bool lis, .bool hhs]] z fun e w' => ∃ a1s n1s k1s a2s n2s k2s b1s r1s s1s b2s r2s s2s, e = .returned (.agg #[.bool G1s, .slice a1s n1s k1s, .slice a2s n2s k2s, .bool G2s, .slice b1s r1s s1s, .slice b2s r2s s2s, .bool lis, .bool hhs, .bool Vs]) ∧ FAt w' (.agg #[.bool G1s, .slice a1s n1s k1s, .slice a2s n2s k2s]) G1s X1s Y1s ∧ FAt w' (.agg #[.bool G2s, .slice b1s r1s s1s, .slice b2s r2s s2s]) G2s X2s Y2s ∧ Below z.heap.size z w') := ks
  have x0 : w.cell? ⟨B1, 0, none⟩ = some (.bool g1s) := by simpa using hr1 0 _ rfl
  have x1 : w.cell? ⟨B1, 1, none⟩ = some (.slice q1s l1s c1s) := by simpa using hr1 1 _ rfl
  have x2 : w.cell? ⟨B1, 2, none⟩ = some (.slice p1s m1s e1s) := by simpa using hr1 2 _ rfl
  have x3 : w.cell? ⟨B1, 3, none⟩ = some (.bool g2s) := by simpa using hr1 3 _ rfl
  have x4 : w.cell? ⟨B1, 4, none⟩ = some (.slice q2s l2s c2s) := by simpa using hr1 4 _ rfl
  have x5 : w.cell? ⟨B1, 5, none⟩ = some (.slice p2s m2s e2s) := by simpa using hr1 5 _ rfl
  have x6 : w.cell? ⟨B1, 6, none⟩ = some (.bool lis) := by simpa using hr1 6 _ rfl
  have x7 : w.cell? ⟨B1, 7, none⟩ = some (.bool hhs) := by simpa using hr1 7 _ rfl
  have hr2' : Hid (w.rangeAt B2 0 [.bool g1t, .slice q1t l1t c1t, .slice p1t m1t e1t, .bool g2t, .slice q2t l2t c2t, .slice p2t m2t e2t, .bool lit, .bool hht]) := hr2
  clear ks hr1 hr2
  go_enter Tryz.func56, Tryz.ntmps56
  go_upto_region 2 with (go_at_call 57; refine (hs.out _ (Below.refl _ _)).mono ?_; rintro e w5 ⟨a1s, n1s, k1s, a2s, n2s, k2s, b1s, r1s, s1s, b2s, r2s, s2s, rfl, F1, F2, hb5⟩)
  have T5 : Below w.heap.size w (w5.alloc (.cells #[.bool G1s, .slice a1s n1s k1s, .slice a2s n2s k2s, .bool G2s, .slice b1s r1s s1s, .slice b2s r2s s2s, .bool lis, .bool hhs, .bool Vs] 109)) := hb5.trans ((below_alloc w5 _).mono hb5.size)
  clear x0 x1 x2 x3 x4 x5 x6 x7 F1 F2 hb5 hs
  generalize (w5.alloc (.cells #[.bool G1s, .slice a1s n1s k1s, .slice a2s n2s k2s, .bool G2s, .slice b1s r1s s1s, .slice b2s r2s s2s, .bool lis, .bool hhs, .bool Vs] 109)) = W5 at *
  have hr25 := rangeAt_below hr2'.out T5 hB2
  have y0 : W5.cell? ⟨B2, 0, none⟩ = some (.bool g1t) := by simpa using hr25 0 _ rfl
  have y1 : W5.cell? ⟨B2, 1, none⟩ = some (.slice q1t l1t c1t) := by simpa using hr25 1 _ rfl
  have y2 : W5.cell? ⟨B2, 2, none⟩ = some (.slice p1t m1t e1t) := by simpa using hr25 2 _ rfl
  have y3 : W5.cell? ⟨B2, 3, none⟩ = some (.bool g2t) := by simpa using hr25 3 _ rfl
  have y4 : W5.cell? ⟨B2, 4, none⟩ = some (.slice q2t l2t c2t) := by simpa using hr25 4 _ rfl
  have y5 : W5.cell? ⟨B2, 5, none⟩ = some (.slice p2t m2t e2t) := by simpa using hr25 5 _ rfl
  have y6 : W5.cell? ⟨B2, 6, none⟩ = some (.bool lit) := by simpa using hr25 6 _ rfl
  have y7 : W5.cell? ⟨B2, 7, none⟩ = some (.bool hht) := by simpa using hr25 7 _ rfl
  have T5' : Hid (Below w.heap.size w W5) := T5
  clear hr25 hr2' T5
  go_wp2_with (go_at_call 57; refine (kt _ T5'.out).mono ?_; rintro e w6 ⟨rfl, hb6⟩)
  exact ⟨rfl, rfl, T5'.out.trans (hb6.mono T5'.out.size)⟩

set_option maxRecDepth 100000 in
set_option maxHeartbeats 2000000 in
/-- interval.Inside, out of its closure. -/
theorem inside_walk {w : World} {g1s g2s lis hhs : Bool} {q1s p1s q2s p2s : Option Addr} {l1s c1s m1s e1s l2s c2s m2s e2s : Nat} {g1t g2t lit hht : Bool} {q1t p1t q2t p2t : Option Addr} {l1t c1t m1t e1t l2t c2t m2t e2t : Nat} {b : Bool} {y : Int}
    (k : ∀ z, Below w.heap.size w z → w.heap.size + 1 < z.heap.size → z.rangeAt w.heap.size 0 [.bool g1s, .slice q1s l1s c1s, .slice p1s m1s e1s, .bool g2s, .slice q2s l2s c2s, .slice p2s m2s e2s, .bool lis, .bool hhs] → z.rangeAt (w.heap.size + 1) 0 [.bool g1t, .slice q1t l1t c1t, .slice p1t m1t e1t, .bool g2t, .slice q2t l2t c2t, .slice p2t m2t e2t, .bool lit, .bool hht] → Calls Tryz.prog 55 #[.func (.func 56) #[] #[.pointer (some ⟨w.heap.size, 0, none⟩), .pointer (some ⟨w.heap.size + 1, 0, none⟩)]] z fun e w' => e = .returned (.tuple #[.bool b, .int .i64 y]) ∧ Below z.heap.size z w') :
    Calls Tryz.prog 31 #[.agg #[.bool g1s, .slice q1s l1s c1s, .slice p1s m1s e1s, .bool g2s, .slice q2s l2s c2s, .slice p2s m2s e2s, .bool lis, .bool hhs], .agg #[.bool g1t, .slice q1t l1t c1t, .slice p1t m1t e1t, .bool g2t, .slice q2t l2t c2t, .slice p2t m2t e2t, .bool lit, .bool hht]] w fun e w' => e = .returned (.tuple #[.bool b, .int .i64 y]) ∧ Below w.heap.size w w' := by
  have hb0 := below_two w (.cells #[.bool g1s, .slice q1s l1s c1s, .slice p1s m1s e1s, .bool g2s, .slice q2s l2s c2s, .slice p2s m2s e2s, .bool lis, .bool hhs] 56) (.cells #[.bool g1t, .slice q1t l1t c1t, .slice p1t m1t e1t, .bool g2t, .slice q2t l2t c2t, .slice p2t m2t e2t, .bool lit, .bool hht] 56)
  have hq := range_new (w.alloc (.cells #[.bool g1s, .slice q1s l1s c1s, .slice p1s m1s e1s, .bool g2s, .slice q2s l2s c2s, .slice p2s m2s e2s, .bool lis, .bool hhs] 56)) [.bool g1t, .slice q1t l1t c1t, .slice p1t m1t e1t, .bool g2t, .slice q2t l2t c2t, .slice p2t m2t e2t, .bool lit, .bool hht] 56
  rw [show (w.alloc (.cells #[.bool g1s, .slice q1s l1s c1s, .slice p1s m1s e1s, .bool g2s, .slice q2s l2s c2s, .slice p2s m2s e2s, .bool lis, .bool hhs] 56)).heap.size = w.heap.size + 1 by simp] at hq
  have kk := k _ hb0 (by simp) (World.rangeAt_alloc (range_new w [.bool g1s, .slice q1s l1s c1s, .slice p1s m1s e1s, .bool g2s, .slice q2s l2s c2s, .slice p2s m2s e2s, .bool lis, .bool hhs] 56) _) hq
  have hmf : ∀ (fn : Fn) (first cap : Array Value) (w : World), (Instr.makeFunc fn first cap).run Tryz.prog w = .ok (.func fn first cap) w := fun _ _ _ _ => rfl
  go_enter Tryz.func31, Tryz.ntmps31
  go_wp2_with (go_at_call 55; refine kk.mono ?_; rintro e w5 ⟨rfl, hb5⟩)
  go_ret2
  exact ⟨rfl, hb0.trans (hb5.mono hb0.size)⟩
end Go.Proofs.YtaonejnicgbifaaGreatDoor
namespace Go.Proofs.YtaonejnicgbifaaGreatDoor
open Go Go.RowKit

/-- A number of the interval is too large. -/
def IvC.lg (c : IvC) : Bool := large c.n1 c.d1 || large c.n2 c.d2
/-- It is void. -/
def IvC.vd (c : IvC) : Bool := !c.li && (!c.hh && decide (0 < fcS (mkG c.g1 c.n1 (denI c.d1)) (mkN c.n1 (denI c.d1)) (mkD c.n1 (denI c.d1)) (mkG c.g2 c.n2 (denI c.d2)) (mkN c.n2 (denI c.d2)) (mkD c.n2 (denI c.d2))))
/-- Every number of s is in t. -/
def IvC.ins (s t : IvC) : Bool := s.vd || ((t.li || (!s.li && decide (0 ≤ fcS (mkG s.g1 s.n1 (denI s.d1)) (mkN s.n1 (denI s.d1)) (mkD s.n1 (denI s.d1)) (mkG t.g1 t.n1 (denI t.d1)) (mkN t.n1 (denI t.d1)) (mkD t.n1 (denI t.d1))))) &&
  ((t.hh || (!s.hh && decide (fcS (mkG s.g2 s.n2 (denI s.d2)) (mkN s.n2 (denI s.d2)) (mkD s.n2 (denI s.d2)) (mkG t.g2 t.n2 (denI t.d2)) (mkN t.n2 (denI t.d2)) (mkD t.n2 (denI t.d2)) ≤ 0))) && !t.vd))

/-- interval.IsEmpty by values. -/
theorem isEmpty_c {w : World} {g1s g2s lis hhs : Bool} {q1s p1s q2s p2s : Option Addr} {l1s c1s m1s e1s l2s c2s m2s e2s : Nat} {nu1s de1s nu2s de2s : List Int} (h1s : Sl w (.slice q1s l1s c1s) nu1s) (h2s : Sl w (.slice p1s m1s e1s) de1s) (h3s : Sl w (.slice q2s l2s c2s) nu2s) (h4s : Sl w (.slice p2s m2s e2s) de2s) (b1s : nu1s.length ≤ 274877906000) (b2s : de1s.length ≤ 274877906000) (b3s : nu2s.length ≤ 274877906000) (b4s : de2s.length ≤ 274877906000) (hT : Tb w) :
    Calls Tryz.prog 48 #[.agg #[.bool g1s, .slice q1s l1s c1s, .slice p1s m1s e1s, .bool g2s, .slice q2s l2s c2s, .slice p2s m2s e2s, .bool lis, .bool hhs]] w fun e w' => e = .returned (.tuple #[.bool (!(IvC.mk g1s (val nu1s) (val de1s) g2s (val nu2s) (val de2s) lis hhs).lg && (IvC.mk g1s (val nu1s) (val de1s) g2s (val nu2s) (val de2s) lis hhs).vd), .int .i64 (if (IvC.mk g1s (val nu1s) (val de1s) g2s (val nu2s) (val de2s) lis hhs).lg then 1 else 0)]) ∧ Below w.heap.size w w' :=
  isEmpty_ok h1s h2s h3s h4s b1s b2s b3s b4s hT
/-- interval.Inside by values. -/
theorem inside_c {w : World} {g1s g2s lis hhs : Bool} {q1s p1s q2s p2s : Option Addr} {l1s c1s m1s e1s l2s c2s m2s e2s : Nat} {nu1s de1s nu2s de2s : List Int} {g1t g2t lit hht : Bool} {q1t p1t q2t p2t : Option Addr} {l1t c1t m1t e1t l2t c2t m2t e2t : Nat} {nu1t de1t nu2t de2t : List Int} (h1s : Sl w (.slice q1s l1s c1s) nu1s) (h2s : Sl w (.slice p1s m1s e1s) de1s) (h3s : Sl w (.slice q2s l2s c2s) nu2s) (h4s : Sl w (.slice p2s m2s e2s) de2s) (b1s : nu1s.length ≤ 274877906000) (b2s : de1s.length ≤ 274877906000) (b3s : nu2s.length ≤ 274877906000) (b4s : de2s.length ≤ 274877906000) (h1t : Sl w (.slice q1t l1t c1t) nu1t) (h2t : Sl w (.slice p1t m1t e1t) de1t) (h3t : Sl w (.slice q2t l2t c2t) nu2t) (h4t : Sl w (.slice p2t m2t e2t) de2t) (b1t : nu1t.length ≤ 274877906000) (b2t : de1t.length ≤ 274877906000) (b3t : nu2t.length ≤ 274877906000) (b4t : de2t.length ≤ 274877906000) (hT : Tb w) :
    Calls Tryz.prog 31 #[.agg #[.bool g1s, .slice q1s l1s c1s, .slice p1s m1s e1s, .bool g2s, .slice q2s l2s c2s, .slice p2s m2s e2s, .bool lis, .bool hhs], .agg #[.bool g1t, .slice q1t l1t c1t, .slice p1t m1t e1t, .bool g2t, .slice q2t l2t c2t, .slice p2t m2t e2t, .bool lit, .bool hht]] w fun e w' => e = .returned (.tuple #[.bool (!((IvC.mk g1s (val nu1s) (val de1s) g2s (val nu2s) (val de2s) lis hhs).lg || (IvC.mk g1t (val nu1t) (val de1t) g2t (val nu2t) (val de2t) lit hht).lg) && (IvC.mk g1s (val nu1s) (val de1s) g2s (val nu2s) (val de2s) lis hhs).ins (IvC.mk g1t (val nu1t) (val de1t) g2t (val nu2t) (val de2t) lit hht)), .int .i64 (if ((IvC.mk g1s (val nu1s) (val de1s) g2s (val nu2s) (val de2s) lis hhs).lg || (IvC.mk g1t (val nu1t) (val de1t) g2t (val nu2t) (val de2t) lit hht).lg) then 1 else 0)]) ∧ Below w.heap.size w w' := by
  cases hA : (IvC.mk g1s (val nu1s) (val de1s) g2s (val nu2s) (val de2s) lis hhs).lg with
  | true =>
    refine inside_walk (b := false) (y := 1) (fun z hz hlt hr1 hr2 => try_fail_i (fun z1 hz1 => ?_))
    have hb := hz.trans (hz1.mono hz.size)
    exact insideC_fail1 (rangeAt_below hr1 hz1 (by omega)) (fun z2 hz2 => by
      have hb2 := hb.trans (hz2.mono hb.size)
      exact read_fail (h1s.below hb2) (h2s.below hb2) (h3s.below hb2) (h4s.below hb2) b1s b2s b3s b4s (hT.below hb2) hA)
  | false =>
    cases hB : (IvC.mk g1t (val nu1t) (val de1t) g2t (val nu2t) (val de2t) lit hht).lg with
    | true =>
      refine inside_walk (b := false) (y := 1) (fun z hz hlt hr1 hr2 => try_fail_i (fun z1 hz1 => ?_))
      have hb := hz.trans (hz1.mono hz.size)
      exact insideC_fail2 (Nat.lt_of_lt_of_le hlt hz1.size) (rangeAt_below hr1 hz1 (by omega)) (rangeAt_below hr2 hz1 hlt) (fun z2 hz2 => by
        have hb2 := hb.trans (hz2.mono hb.size)
        exact read_ok (h1s.below hb2) (h2s.below hb2) (h3s.below hb2) (h4s.below hb2) b1s b2s b3s b4s (hT.below hb2) hA) (fun z2 hz2 => by
        have hb2 := hb.trans (hz2.mono hb.size)
        exact read_fail (h1t.below hb2) (h2t.below hb2) (h3t.below hb2) (h4t.below hb2) b1t b2t b3t b4t (hT.below hb2) hB)
    | false =>
      refine inside_walk (b := (IvC.mk g1s (val nu1s) (val de1s) g2s (val nu2s) (val de2s) lis hhs).ins (IvC.mk g1t (val nu1t) (val de1t) g2t (val nu2t) (val de2t) lit hht)) (y := 0) (fun z hz hlt hr1 hr2 => try_ret_i (fun z1 hz1 => ?_))
      have hb := hz.trans (hz1.mono hz.size)
      exact insideC_ok (Nat.lt_of_lt_of_le (by omega) hz1.size) (Nat.lt_of_lt_of_le hlt hz1.size) (rangeAt_below hr1 hz1 (by omega)) (rangeAt_below hr2 hz1 hlt) (fun z2 hz2 => by
        have hb2 := hb.trans (hz2.mono hb.size)
        exact read_ok (h1s.below hb2) (h2s.below hb2) (h3s.below hb2) (h4s.below hb2) b1s b2s b3s b4s (hT.below hb2) hA) (fun z2 hz2 => by
        have hb2 := hb.trans (hz2.mono hb.size)
        exact read_ok (h1t.below hb2) (h2t.below hb2) (h3t.below hb2) (h4t.below hb2) b1t b2t b3t b4t (hT.below hb2) hB)
end Go.Proofs.YtaonejnicgbifaaGreatDoor
