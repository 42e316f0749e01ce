import Derived.Test.YtaonejnicgbifaaGreatDoorPk19
namespace Go.Proofs.YtaonejnicgbifaaGreatDoor
open Go Go.RowKit

/-- interval.read, where no number is too large. -/
theorem read_ok {w : World} {g1 g2 li hh : Bool} {q1 p1 q2 p2 : Option Addr} {l1 c1 m1 e1 l2 c2 m2 e2 : Nat} {nu1 de1 nu2 de2 : List Int} (h1 : Sl w (.slice q1 l1 c1) nu1) (h2 : Sl w (.slice p1 m1 e1) de1) (h3 : Sl w (.slice q2 l2 c2) nu2) (h4 : Sl w (.slice p2 m2 e2) de2) (b1 : nu1.length ≤ 274877906000) (b2 : de1.length ≤ 274877906000) (b3 : nu2.length ≤ 274877906000) (b4 : de2.length ≤ 274877906000) (hT : Tb w) (hL : (large (val nu1) (val de1) || large (val nu2) (val de2)) = false) :
    Calls Tryz.prog 57 #[.agg #[.bool g1, .slice q1 l1 c1, .slice p1 m1 e1, .bool g2, .slice q2 l2 c2, .slice p2 m2 e2, .bool li, .bool hh]] w fun e w' => ∃ a1 n1 k1 a2 n2 k2 b1 r1 s1 b2 r2 s2, e = .returned (.agg #[.bool (mkG g1 (val nu1) (denI (val de1))), .slice a1 n1 k1, .slice a2 n2 k2, .bool (mkG g2 (val nu2) (denI (val de2))), .slice b1 r1 s1, .slice b2 r2 s2, .bool li, .bool hh, .bool (!li && (!hh && decide (0 < fcS (mkG g1 (val nu1) (denI (val de1))) (mkN (val nu1) (denI (val de1))) (mkD (val nu1) (denI (val de1))) (mkG g2 (val nu2) (denI (val de2))) (mkN (val nu2) (denI (val de2))) (mkD (val nu2) (denI (val de2))))))]) ∧ FAt w' (.agg #[.bool (mkG g1 (val nu1) (denI (val de1))), .slice a1 n1 k1, .slice a2 n2 k2]) (mkG g1 (val nu1) (denI (val de1))) (mkN (val nu1) (denI (val de1))) (mkD (val nu1) (denI (val de1))) ∧ FAt w' (.agg #[.bool (mkG g2 (val nu2) (denI (val de2))), .slice b1 r1 s1, .slice b2 r2 s2]) (mkG g2 (val nu2) (denI (val de2))) (mkN (val nu2) (denI (val de2))) (mkD (val nu2) (denI (val de2))) ∧ Below w.heap.size w w' := by
  rw [Bool.or_eq_false_iff] at hL
  exact read_walk (fun z hz => number_ok (h1.below hz) (h2.below hz) b1 b2 (hT.below hz) hL.1) (fun z hz => number_ok (h3.below hz) (h4.below hz) b3 b4 (hT.below hz) hL.2)
/-- interval.read, where a number is too large. -/
theorem read_fail {w : World} {g1 g2 li hh : Bool} {q1 p1 q2 p2 : Option Addr} {l1 c1 m1 e1 l2 c2 m2 e2 : Nat} {nu1 de1 nu2 de2 : List Int} (h1 : Sl w (.slice q1 l1 c1) nu1) (h2 : Sl w (.slice p1 m1 e1) de1) (h3 : Sl w (.slice q2 l2 c2) nu2) (h4 : Sl w (.slice p2 m2 e2) de2) (b1 : nu1.length ≤ 274877906000) (b2 : de1.length ≤ 274877906000) (b3 : nu2.length ≤ 274877906000) (b4 : de2.length ≤ 274877906000) (hT : Tb w) (hL : (large (val nu1) (val de1) || large (val nu2) (val de2)) = true) :
    Calls Tryz.prog 57 #[.agg #[.bool g1, .slice q1 l1 c1, .slice p1 m1 e1, .bool g2, .slice q2 l2 c2, .slice p2 m2 e2, .bool li, .bool hh]] w fun e w' => e = .panicked [{ v := .iface 141 (.agg #[.int .i64 1]), recovered := false }] ∧ Below w.heap.size w w' := by
  cases hA : large (val nu1) (val de1) with
  | true => exact read_fail_one (fun z hz => number_fail (h1.below hz) (h2.below hz) b1 b2 (hT.below hz) hA)
  | false =>
    rw [hA, Bool.false_or] at hL
    exact read_fail_two (fun z hz => number_ok (h1.below hz) (h2.below hz) b1 b2 (hT.below hz) hA) (fun z hz => number_fail (h3.below hz) (h4.below hz) b3 b4 (hT.below hz) hL)
/-- interval.IsEmpty. -/
theorem isEmpty_ok {w : World} {g1 g2 li hh : Bool} {q1 p1 q2 p2 : Option Addr} {l1 c1 m1 e1 l2 c2 m2 e2 : Nat} {nu1 de1 nu2 de2 : List Int} (h1 : Sl w (.slice q1 l1 c1) nu1) (h2 : Sl w (.slice p1 m1 e1) de1) (h3 : Sl w (.slice q2 l2 c2) nu2) (h4 : Sl w (.slice p2 m2 e2) de2) (b1 : nu1.length ≤ 274877906000) (b2 : de1.length ≤ 274877906000) (b3 : nu2.length ≤ 274877906000) (b4 : de2.length ≤ 274877906000) (hT : Tb w) :
    Calls Tryz.prog 48 #[.agg #[.bool g1, .slice q1 l1 c1, .slice p1 m1 e1, .bool g2, .slice q2 l2 c2, .slice p2 m2 e2, .bool li, .bool hh]] w fun e w' => e = .returned (.tuple #[.bool (!(large (val nu1) (val de1) || large (val nu2) (val de2)) && (!li && (!hh && decide (0 < fcS (mkG g1 (val nu1) (denI (val de1))) (mkN (val nu1) (denI (val de1))) (mkD (val nu1) (denI (val de1))) (mkG g2 (val nu2) (denI (val de2))) (mkN (val nu2) (denI (val de2))) (mkD (val nu2) (denI (val de2))))))), .int .i64 (if (large (val nu1) (val de1) || large (val nu2) (val de2)) then 1 else 0)]) ∧ Below w.heap.size w w' := by
  cases hL : (large (val nu1) (val de1) || large (val nu2) (val de2)) with
  | true =>
    refine isEmpty_walk (b := false) (y := 1) (fun z hz hlt hr => try_fail_e (fun z1 hz1 => ?_))
    have hb := hz.trans (hz1.mono hz.size)
    exact emptyC_fail (Nat.lt_of_lt_of_le hlt hz1.size) (rangeAt_below hr hz1 hlt) (fun z2 hz2 => by
      have hb2 := hb.trans (hz2.mono hb.size)
      exact read_fail (h1.below hb2) (h2.below hb2) (h3.below hb2) (h4.below hb2) b1 b2 b3 b4 (hT.below hb2) hL)
  | false =>
    refine isEmpty_walk (b := (!li && (!hh && decide (0 < fcS (mkG g1 (val nu1) (denI (val de1))) (mkN (val nu1) (denI (val de1))) (mkD (val nu1) (denI (val de1))) (mkG g2 (val nu2) (denI (val de2))) (mkN (val nu2) (denI (val de2))) (mkD (val nu2) (denI (val de2))))))) (y := 0) (fun z hz hlt hr => try_ret_e (fun z1 hz1 => ?_))
    have hb := hz.trans (hz1.mono hz.size)
    exact emptyC_ok (Nat.lt_of_lt_of_le hlt hz1.size) (rangeAt_below hr hz1 hlt) (fun z2 hz2 => by
      have hb2 := hb.trans (hz2.mono hb.size)
      refine (read_ok (h1.below hb2) (h2.below hb2) (h3.below hb2) (h4.below hb2) b1 b2 b3 b4 (hT.below hb2) hL).mono ?_
      rintro e w' ⟨a1, n1, k1, a2, n2, k2, b1, r1, s1, b2, r2, s2, rfl, _, _, hb3⟩
      exact ⟨_, a1, n1, k1, a2, n2, k2, _, b1, r1, s1, b2, r2, s2, rfl, hb3⟩)
end Go.Proofs.YtaonejnicgbifaaGreatDoor
namespace Go.Proofs.YtaonejnicgbifaaGreatDoor
open Go Go.RowKit

set_option maxRecDepth 100000 in
set_option maxHeartbeats 8000000 in
/-- The closure of interval.Inside. -/
theorem insideC_ok {w : World} {B1 B2 : Nat} {g1s g2s lis hhs G1s G2s Vs : Bool} {q1s p1s q2s p2s : Option Addr} {l1s c1s m1s e1s l2s c2s m2s e2s : Nat} {X1s Y1s X2s Y2s : Int} {g1t g2t lit hht G1t G2t Vt : Bool} {q1t p1t q2t p2t : Option Addr} {l1t c1t m1t e1t l2t c2t m2t e2t : Nat} {X1t Y1t X2t Y2t : Int} (hB1 : B1 < w.heap.size) (hB2 : B2 < w.heap.size) (hr1 : w.rangeAt B1 0 [.bool g1s, .slice q1s l1s c1s, .slice p1s m1s e1s, .bool g2s, .slice q2s l2s c2s, .slice p2s m2s e2s, .bool lis, .bool hhs]) (hr2 : w.rangeAt B2 0 [.bool g1t, .slice q1t l1t c1t, .slice p1t m1t e1t, .bool g2t, .slice q2t l2t c2t, .slice p2t m2t e2t, .bool lit, .bool hht])
    (ks : (∀ z, Below w.heap.size w z → Calls Tryz.prog 57 #[.agg #[.bool g1s, .slice q1s l1s c1s, .slice p1s m1s e1s, .bool g2s, .slice q2s l2s c2s, .slice p2s m2s e2s, .bool lis, .bool hhs]] z fun e w' => ∃ a1s n1s k1s a2s n2s k2s b1s r1s s1s b2s r2s s2s, e = .returned (.agg #[.bool G1s, .slice a1s n1s k1s, .slice a2s n2s k2s, .bool G2s, .slice b1s r1s s1s, .slice b2s r2s s2s, .bool lis, .bool hhs, .bool Vs]) ∧ FAt w' (.agg #[.bool G1s, .slice a1s n1s k1s, .slice a2s n2s k2s]) G1s X1s Y1s ∧ FAt w' (.agg #[.bool G2s, .slice b1s r1s s1s, .slice b2s r2s s2s]) G2s X2s Y2s ∧ Below z.heap.size z w')) (kt : (∀ z, Below w.heap.size w z → Calls Tryz.prog 57 #[.agg #[.bool g1t, .slice q1t l1t c1t, .slice p1t m1t e1t, .bool g2t, .slice q2t l2t c2t, .slice p2t m2t e2t, .bool lit, .bool hht]] z fun e w' => ∃ a1t n1t k1t a2t n2t k2t b1t r1t s1t b2t r2t s2t, e = .returned (.agg #[.bool G1t, .slice a1t n1t k1t, .slice a2t n2t k2t, .bool G2t, .slice b1t r1t s1t, .slice b2t r2t s2t, .bool lit, .bool hht, .bool Vt]) ∧ FAt w' (.agg #[.bool G1t, .slice a1t n1t k1t, .slice a2t n2t k2t]) G1t X1t Y1t ∧ FAt w' (.agg #[.bool G2t, .slice b1t r1t s1t, .slice b2t r2t s2t]) G2t X2t Y2t ∧ Below z.heap.size z w')) :
    Calls Tryz.prog 56 #[.pointer (some ⟨B1, 0, none⟩), .pointer (some ⟨B2, 0, none⟩)] w fun e w' => e = .returned (.bool (Vs || ((lit || (!lis && decide (0 ≤ fcS G1s X1s Y1s G1t X1t Y1t))) && ((hht || (!hhs && decide (fcS G2s X2s Y2s G2t X2t Y2t ≤ 0))) && !Vt)))) ∧ Below w.heap.size w w' := by
  have hs : Hid (∀ z, Below w.heap.size w z → Calls Tryz.prog 57 #[.agg #[.bool g1s, .slice q1s l1s c1s, .slice p1s m1s e1s, .bool g2s, .slice q2s l2s c2s, .slice p2s m2s e2s, .bool lis, .bool hhs]] z fun e w' => ∃ a1s n1s k1s a2s n2s k2s b1s r1s s1s b2s r2s s2s, e = .returned (.agg #[.bool G1s, .slice a1s n1s k1s, .slice a2s n2s k2s, .bool G2s, .slice b1s r1s s1s, .slice b2s r2s s2s, .bool lis, .bool hhs, .bool Vs]) ∧ FAt w' (.agg #[.bool G1s, .slice a1s n1s k1s, .slice a2s n2s k2s]) G1s X1s Y1s ∧ FAt w' (.agg #[.bool G2s, .slice b1s r1s s1s, .slice b2s r2s s2s]) G2s X2s Y2s ∧ Below z.heap.size z w') := ks
  have ht : Hid (∀ z, Below w.heap.size w z → Calls Tryz.prog 57 #[.agg #[.bool g1t, .slice q1t l1t c1t, .slice p1t m1t e1t, .bool g2t, .slice q2t l2t c2t, .slice p2t m2t e2t, .bool lit, .bool hht]] z fun e w' => ∃ a1t n1t k1t a2t n2t k2t b1t r1t s1t b2t r2t s2t, e = .returned (.agg #[.bool G1t, .slice a1t n1t k1t, .slice a2t n2t k2t, .bool G2t, .slice b1t r1t s1t, .slice b2t r2t s2t, .bool lit, .bool hht, .bool Vt]) ∧ FAt w' (.agg #[.bool G1t, .slice a1t n1t k1t, .slice a2t n2t k2t]) G1t X1t Y1t ∧ FAt w' (.agg #[.bool G2t, .slice b1t r1t s1t, .slice b2t r2t s2t]) G2t X2t Y2t ∧ Below z.heap.size z w') := kt
  have x0 : w.cell? ⟨B1, 0, none⟩ = some (.bool g1s) := by simpa using hr1 0 _ rfl
  have x1 : w.cell? ⟨B1, 1, none⟩ = some (.slice q1s l1s c1s) := by simpa using hr1 1 _ rfl
  have x2 : w.cell? ⟨B1, 2, none⟩ = some (.slice p1s m1s e1s) := by simpa using hr1 2 _ rfl
  have x3 : w.cell? ⟨B1, 3, none⟩ = some (.bool g2s) := by simpa using hr1 3 _ rfl
  have x4 : w.cell? ⟨B1, 4, none⟩ = some (.slice q2s l2s c2s) := by simpa using hr1 4 _ rfl
  have x5 : w.cell? ⟨B1, 5, none⟩ = some (.slice p2s m2s e2s) := by simpa using hr1 5 _ rfl
  have x6 : w.cell? ⟨B1, 6, none⟩ = some (.bool lis) := by simpa using hr1 6 _ rfl
  have x7 : w.cell? ⟨B1, 7, none⟩ = some (.bool hhs) := by simpa using hr1 7 _ rfl
  have hr2' : Hid (w.rangeAt B2 0 [.bool g1t, .slice q1t l1t c1t, .slice p1t m1t e1t, .bool g2t, .slice q2t l2t c2t, .slice p2t m2t e2t, .bool lit, .bool hht]) := hr2
  obtain ⟨LW, hLW⟩ : ∃ b, Hid ((lit || (!lis && decide (0 ≤ fcS G1s X1s Y1s G1t X1t Y1t))) = b) := ⟨_, rfl⟩
  obtain ⟨HG, hHG⟩ : ∃ b, Hid ((hht || (!hhs && decide (fcS G2s X2s Y2s G2t X2t Y2t ≤ 0))) = b) := ⟨_, rfl⟩
  rw [hLW.out, hHG.out]
  clear ks kt hr1 hr2
  go_enter Tryz.func56, Tryz.ntmps56
  go_upto_region 2 with (go_at_call 57; refine (hs.out _ (Below.refl _ _)).mono ?_; rintro e w5 ⟨a1s, n1s, k1s, a2s, n2s, k2s, b1s, r1s, s1s, b2s, r2s, s2s, rfl, F1, F2, hb5⟩)
  have T5 : Below w.heap.size w (w5.alloc (.cells #[.bool G1s, .slice a1s n1s k1s, .slice a2s n2s k2s, .bool G2s, .slice b1s r1s s1s, .slice b2s r2s s2s, .bool lis, .bool hhs, .bool Vs] 109)) := hb5.trans ((below_alloc w5 _).mono hb5.size)
  have J5 : BlkI (w5.alloc (.cells #[.bool G1s, .slice a1s n1s k1s, .slice a2s n2s k2s, .bool G2s, .slice b1s r1s s1s, .slice b2s r2s s2s, .bool lis, .bool hhs, .bool Vs] 109)) w5.heap.size 109 #[.bool G1s, .slice a1s n1s k1s, .slice a2s n2s k2s, .bool G2s, .slice b1s r1s s1s, .slice b2s r2s s2s, .bool lis, .bool hhs, .bool Vs] := heap_alloc_new _ _
  have A5 : FAt (w5.alloc (.cells #[.bool G1s, .slice a1s n1s k1s, .slice a2s n2s k2s, .bool G2s, .slice b1s r1s s1s, .slice b2s r2s s2s, .bool lis, .bool hhs, .bool Vs] 109)) (.agg #[.bool G1s, .slice a1s n1s k1s, .slice a2s n2s k2s]) G1s X1s Y1s := F1.below (below_alloc w5 _)
  have C5 : FAt (w5.alloc (.cells #[.bool G1s, .slice a1s n1s k1s, .slice a2s n2s k2s, .bool G2s, .slice b1s r1s s1s, .slice b2s r2s s2s, .bool lis, .bool hhs, .bool Vs] 109)) (.agg #[.bool G2s, .slice b1s r1s s1s, .slice b2s r2s s2s]) G2s X2s Y2s := F2.below (below_alloc w5 _)
  have L5 : w.heap.size ≤ w5.heap.size := hb5.size
  clear x0 x1 x2 x3 x4 x5 x6 x7 F1 F2 hb5
  generalize (w5.alloc (.cells #[.bool G1s, .slice a1s n1s k1s, .slice a2s n2s k2s, .bool G2s, .slice b1s r1s s1s, .slice b2s r2s s2s, .bool lis, .bool hhs, .bool Vs] 109)) = W5 at *
  obtain ⟨P, hP⟩ : ∃ P, P = w5.heap.size := ⟨_, rfl⟩
  rw [← hP] at J5 L5 ⊢
  clear hP
  have A5' : Hid (FAt W5 (.agg #[.bool G1s, .slice a1s n1s k1s, .slice a2s n2s k2s]) G1s X1s Y1s) := A5
  have C5' : Hid (FAt W5 (.agg #[.bool G2s, .slice b1s r1s s1s, .slice b2s r2s s2s]) G2s X2s Y2s) := C5
  have J5' : Hid (BlkI W5 P 109 #[.bool G1s, .slice a1s n1s k1s, .slice a2s n2s k2s, .bool G2s, .slice b1s r1s s1s, .slice b2s r2s s2s, .bool lis, .bool hhs, .bool Vs]) := J5
  have T5' : Hid (Below w.heap.size w W5) := T5
  have hr25 := rangeAt_below hr2'.out T5 hB2
  have y0 : W5.cell? ⟨B2, 0, none⟩ = some (.bool g1t) := by simpa using hr25 0 _ rfl
  have y1 : W5.cell? ⟨B2, 1, none⟩ = some (.slice q1t l1t c1t) := by simpa using hr25 1 _ rfl
  have y2 : W5.cell? ⟨B2, 2, none⟩ = some (.slice p1t m1t e1t) := by simpa using hr25 2 _ rfl
  have y3 : W5.cell? ⟨B2, 3, none⟩ = some (.bool g2t) := by simpa using hr25 3 _ rfl
  have y4 : W5.cell? ⟨B2, 4, none⟩ = some (.slice q2t l2t c2t) := by simpa using hr25 4 _ rfl
  have y5 : W5.cell? ⟨B2, 5, none⟩ = some (.slice p2t m2t e2t) := by simpa using hr25 5 _ rfl
  have y6 : W5.cell? ⟨B2, 6, none⟩ = some (.bool lit) := by simpa using hr25 6 _ rfl
  have y7 : W5.cell? ⟨B2, 7, none⟩ = some (.bool hht) := by simpa using hr25 7 _ rfl
  clear hr25 hr2' A5 C5 J5 T5 hs
  go_upto_region 3 with (go_at_call 57; refine (ht.out _ T5'.out).mono ?_; rintro e w6 ⟨a1t, n1t, k1t, a2t, n2t, k2t, b1t, r1t, s1t, b2t, r2t, s2t, rfl, F1, F2, hb6⟩)
  have hb7 := hb6.trans ((below_alloc w6 (.cells #[.bool G1t, .slice a1t n1t k1t, .slice a2t n2t k2t, .bool G2t, .slice b1t r1t s1t, .slice b2t r2t s2t, .bool lit, .bool hht, .bool Vt] 109)).mono hb6.size)
  have JQ : BlkI (w6.alloc (.cells #[.bool G1t, .slice a1t n1t k1t, .slice a2t n2t k2t, .bool G2t, .slice b1t r1t s1t, .slice b2t r2t s2t, .bool lit, .bool hht, .bool Vt] 109)) w6.heap.size 109 #[.bool G1t, .slice a1t n1t k1t, .slice a2t n2t k2t, .bool G2t, .slice b1t r1t s1t, .slice b2t r2t s2t, .bool lit, .bool hht, .bool Vt] := heap_alloc_new _ _
  have AQ : Hid (FAt (w6.alloc (.cells #[.bool G1t, .slice a1t n1t k1t, .slice a2t n2t k2t, .bool G2t, .slice b1t r1t s1t, .slice b2t r2t s2t, .bool lit, .bool hht, .bool Vt] 109)) (.agg #[.bool G1t, .slice a1t n1t k1t, .slice a2t n2t k2t]) G1t X1t Y1t) := F1.below (below_alloc w6 _)
  have CQ : Hid (FAt (w6.alloc (.cells #[.bool G1t, .slice a1t n1t k1t, .slice a2t n2t k2t, .bool G2t, .slice b1t r1t s1t, .slice b2t r2t s2t, .bool lit, .bool hht, .bool Vt] 109)) (.agg #[.bool G2t, .slice b1t r1t s1t, .slice b2t r2t s2t]) G2t X2t Y2t) := F2.below (below_alloc w6 _)
  have JP := J5'.out.below hb7
  have AP : Hid (FAt (w6.alloc (.cells #[.bool G1t, .slice a1t n1t k1t, .slice a2t n2t k2t, .bool G2t, .slice b1t r1t s1t, .slice b2t r2t s2t, .bool lit, .bool hht, .bool Vt] 109)) (.agg #[.bool G1s, .slice a1s n1s k1s, .slice a2s n2s k2s]) G1s X1s Y1s) := A5'.out.below hb7
  have CP : Hid (FAt (w6.alloc (.cells #[.bool G1t, .slice a1t n1t k1t, .slice a2t n2t k2t, .bool G2t, .slice b1t r1t s1t, .slice b2t r2t s2t, .bool lit, .bool hht, .bool Vt] 109)) (.agg #[.bool G2s, .slice b1s r1s s1s, .slice b2s r2s s2s]) G2s X2s Y2s) := C5'.out.below hb7
  have T7 : Hid (Below w.heap.size w (w6.alloc (.cells #[.bool G1t, .slice a1t n1t k1t, .slice a2t n2t k2t, .bool G2t, .slice b1t r1t s1t, .slice b2t r2t s2t, .bool lit, .bool hht, .bool Vt] 109))) := T5'.out.trans (hb7.mono T5'.out.size)
  clear y0 y1 y2 y3 y4 y5 y6 y7 F1 F2 hb6 hb7 ht A5' C5' J5' T5'
  generalize (w6.alloc (.cells #[.bool G1t, .slice a1t n1t k1t, .slice a2t n2t k2t, .bool G2t, .slice b1t r1t s1t, .slice b2t r2t s2t, .bool lit, .bool hht, .bool Vt] 109)) = W7 at *
  obtain ⟨Q, hQ⟩ : ∃ Q, Q = w6.heap.size := ⟨_, rfl⟩
  rw [← hQ] at JQ ⊢
  clear hQ
  have u0 : W7.cell? ⟨P, 0, none⟩ = some (.bool G1s) := JP.cell 0
  have u1 : W7.cell? ⟨P, 1, none⟩ = some (.slice a1s n1s k1s) := JP.cell 1
  have u2 : W7.cell? ⟨P, 2, none⟩ = some (.slice a2s n2s k2s) := JP.cell 2
  have u3 : W7.cell? ⟨P, 3, none⟩ = some (.bool G2s) := JP.cell 3
  have u4 : W7.cell? ⟨P, 4, none⟩ = some (.slice b1s r1s s1s) := JP.cell 4
  have u5 : W7.cell? ⟨P, 5, none⟩ = some (.slice b2s r2s s2s) := JP.cell 5
  have u6 : W7.cell? ⟨P, 6, none⟩ = some (.bool lis) := JP.cell 6
  have u7 : W7.cell? ⟨P, 7, none⟩ = some (.bool hhs) := JP.cell 7
  have u8 : W7.cell? ⟨P, 8, none⟩ = some (.bool Vs) := JP.cell 8
  have v0 : W7.cell? ⟨Q, 0, none⟩ = some (.bool G1t) := JQ.cell 0
  have v1 : W7.cell? ⟨Q, 1, none⟩ = some (.slice a1t n1t k1t) := JQ.cell 1
  have v2 : W7.cell? ⟨Q, 2, none⟩ = some (.slice a2t n2t k2t) := JQ.cell 2
  have v3 : W7.cell? ⟨Q, 3, none⟩ = some (.bool G2t) := JQ.cell 3
  have v4 : W7.cell? ⟨Q, 4, none⟩ = some (.slice b1t r1t s1t) := JQ.cell 4
  have v5 : W7.cell? ⟨Q, 5, none⟩ = some (.slice b2t r2t s2t) := JQ.cell 5
  have v6 : W7.cell? ⟨Q, 6, none⟩ = some (.bool lit) := JQ.cell 6
  have v7 : W7.cell? ⟨Q, 7, none⟩ = some (.bool hht) := JQ.cell 7
  have v8 : W7.cell? ⟨Q, 8, none⟩ = some (.bool Vt) := JQ.cell 8
  have JP' : Hid (BlkI W7 P 109 #[.bool G1s, .slice a1s n1s k1s, .slice a2s n2s k2s, .bool G2s, .slice b1s r1s s1s, .slice b2s r2s s2s, .bool lis, .bool hhs, .bool Vs]) := JP
  have JQ' : Hid (BlkI W7 Q 109 #[.bool G1t, .slice a1t n1t k1t, .slice a2t n2t k2t, .bool G2t, .slice b1t r1t s1t, .slice b2t r2t s2t, .bool lit, .bool hht, .bool Vt]) := JQ
  clear JP JQ
  go_cut [5] from 11 to 25 (fun v5 wx => v5 = .bool LW ∧ Hid (Below W7.heap.size W7 wx))
  case first =>
    clear hHG
    cases lit with
    | true =>
      have hv : LW = true := by rw [← hLW.out]; rfl
      subst hv
      go_wp2_with fail
      go_meet
      case rel => exact ⟨rfl, Below.refl _ _⟩
    | false =>
      cases lis with
      | true =>
        have hv : LW = false := by rw [← hLW.out]; rfl
        subst hv
        go_wp2_with fail
        go_meet
        case rel => exact ⟨rfl, Below.refl _ _⟩
      | false =>
        have hc := fcmp_ok AP.out AQ.out
        have hv : decide (0 ≤ fcS G1s X1s Y1s G1t X1t Y1t) = LW := hLW.out
        generalize fcS G1s X1s Y1s G1t X1t Y1t = C at hc hv
        have hv' : decide (C ≥ 0) = LW := hv
        go_wp2_with (go_at_call 58; refine hc.mono ?_; rintro e wk ⟨rfl, hbk⟩)
        go_meet
        case rel => exact ⟨by first | rfl | rw [hv] | rw [hv'], hbk⟩
  case rest =>
    obtain ⟨rfl, hb8⟩ := hcut
    have JP8 := JP'.out.below hb8.out
    have JQ8 := JQ'.out.below hb8.out
    have CP8 : Hid (FAt wc (.agg #[.bool G2s, .slice b1s r1s s1s, .slice b2s r2s s2s]) G2s X2s Y2s) := CP.out.below hb8.out
    have CQ8 : Hid (FAt wc (.agg #[.bool G2t, .slice b1t r1t s1t, .slice b2t r2t s2t]) G2t X2t Y2t) := CQ.out.below hb8.out
    have T8 : Hid (Below w.heap.size w wc) := T7.out.trans (hb8.out.mono T7.out.size)
    clear u0 u1 u2 u3 u4 u5 u6 u7 u8 v0 v1 v2 v3 v4 v5 v6 v7 v8 AP AQ CP CQ JP' JQ' hb8 T7 hLW
    obtain ⟨W8, hW8⟩ : ∃ z, z = wc := ⟨_, rfl⟩
    rw [← hW8] at JP8 JQ8 CP8 CQ8 T8 ⊢
    clear hW8
    have u0 : W8.cell? ⟨P, 0, none⟩ = some (.bool G1s) := JP8.cell 0
    have u1 : W8.cell? ⟨P, 1, none⟩ = some (.slice a1s n1s k1s) := JP8.cell 1
    have u2 : W8.cell? ⟨P, 2, none⟩ = some (.slice a2s n2s k2s) := JP8.cell 2
    have u3 : W8.cell? ⟨P, 3, none⟩ = some (.bool G2s) := JP8.cell 3
    have u4 : W8.cell? ⟨P, 4, none⟩ = some (.slice b1s r1s s1s) := JP8.cell 4
    have u5 : W8.cell? ⟨P, 5, none⟩ = some (.slice b2s r2s s2s) := JP8.cell 5
    have u6 : W8.cell? ⟨P, 6, none⟩ = some (.bool lis) := JP8.cell 6
    have u7 : W8.cell? ⟨P, 7, none⟩ = some (.bool hhs) := JP8.cell 7
    have u8 : W8.cell? ⟨P, 8, none⟩ = some (.bool Vs) := JP8.cell 8
    have v0 : W8.cell? ⟨Q, 0, none⟩ = some (.bool G1t) := JQ8.cell 0
    have v1 : W8.cell? ⟨Q, 1, none⟩ = some (.slice a1t n1t k1t) := JQ8.cell 1
    have v2 : W8.cell? ⟨Q, 2, none⟩ = some (.slice a2t n2t k2t) := JQ8.cell 2
    have v3 : W8.cell? ⟨Q, 3, none⟩ = some (.bool G2t) := JQ8.cell 3
    have v4 : W8.cell? ⟨Q, 4, none⟩ = some (.slice b1t r1t s1t) := JQ8.cell 4
    have v5 : W8.cell? ⟨Q, 5, none⟩ = some (.slice b2t r2t s2t) := JQ8.cell 5
    have v6 : W8.cell? ⟨Q, 6, none⟩ = some (.bool lit) := JQ8.cell 6
    have v7 : W8.cell? ⟨Q, 7, none⟩ = some (.bool hht) := JQ8.cell 7
    have v8 : W8.cell? ⟨Q, 8, none⟩ = some (.bool Vt) := JQ8.cell 8
    have JP' : Hid (BlkI W8 P 109 #[.bool G1s, .slice a1s n1s k1s, .slice a2s n2s k2s, .bool G2s, .slice b1s r1s s1s, .slice b2s r2s s2s, .bool lis, .bool hhs, .bool Vs]) := JP8
    have JQ' : Hid (BlkI W8 Q 109 #[.bool G1t, .slice a1t n1t k1t, .slice a2t n2t k2t, .bool G2t, .slice b1t r1t s1t, .slice b2t r2t s2t, .bool lit, .bool hht, .bool Vt]) := JQ8
    clear JP8 JQ8
    go_upto_region 4 with fail
    go_cut [6] from 26 to 40 (fun v6 wx => v6 = .bool HG ∧ Hid (Below W8.heap.size W8 wx))
    case first =>
      cases hht with
      | true =>
        have hv : HG = true := by rw [← hHG.out]; rfl
        subst hv
        go_wp2_with fail
        go_meet
        case rel => exact ⟨rfl, Below.refl _ _⟩
      | false =>
        cases hhs with
        | true =>
          have hv : HG = false := by rw [← hHG.out]; rfl
          subst hv
          go_wp2_with fail
          go_meet
          case rel => exact ⟨rfl, Below.refl _ _⟩
        | false =>
          have hc := fcmp_ok CP8.out CQ8.out
          have hv : decide (fcS G2s X2s Y2s G2t X2t Y2t ≤ 0) = HG := hHG.out
          generalize fcS G2s X2s Y2s G2t X2t Y2t = C at hc hv
          go_wp2_with (go_at_call 58; refine hc.mono ?_; rintro e wk ⟨rfl, hbk⟩)
          go_meet
          case rel => exact ⟨by first | rfl | rw [hv], hbk⟩
    case rest =>
      obtain ⟨rfl, hb9⟩ := hcut
      have z1 : wc.cell? ⟨P, 8, none⟩ = some (.bool Vs) := (JP'.out.below hb9.out).cell 8
      have z2 : wc.cell? ⟨Q, 8, none⟩ = some (.bool Vt) := (JQ'.out.below hb9.out).cell 8
      have T9 : Hid (Below w.heap.size w wc) := T8.out.trans (hb9.out.mono T8.out.size)
      clear u0 u1 u2 u3 u4 u5 u6 u7 u8 v0 v1 v2 v3 v4 v5 v6 v7 v8 CP8 CQ8 JP' JQ' hb9 T8 hHG
      cases Vs <;> cases LW <;> cases HG <;> cases Vt <;> (go_wp2_with fail; go_ret; exact ⟨rfl, T9.out⟩)
end Go.Proofs.YtaonejnicgbifaaGreatDoor
