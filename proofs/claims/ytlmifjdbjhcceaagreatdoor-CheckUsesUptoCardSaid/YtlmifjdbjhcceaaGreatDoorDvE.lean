/-
  check.Equal, one level.
-/
import Derived.Test.YtlmifjdbjhcceaaGreatDoorDvD
namespace Go.Proofs.YtlmifjdbjhcceaaGreatDoor
open Go Go.RowKit

set_option maxRecDepth 100000 in
theorem equal_w1 {w : World} {ru1 ru2 kk1 kk2 nn1 nn2 pr1 pr2 ve1 ve2 ek1 ek2 ef1 ef2 : Int} {nm1 nm2 ot1 ot2 en1 en2 em1 em2 : ByteArray} {g1 g2 eg1 eg2 : Bool} {a1 a2 c1 c2 ea1 ea2 ec1 ec2 es1 es2 po1 po2 ar1 ar2 ki1 ki2 : Value} 
    (hR : ∀ w1, Below w.heap.size w w1 → Calls Tryz.prog 25 #[.agg #[.bool g1, a1, c1], .agg #[.bool g2, a2, c2]] w1 fun e w' => e = .returned (.bool false) ∧ Below w1.heap.size w1 w') (e6 : kk1 = kk2) (e7 : nn1 = nn2) (e8 : pr1 = pr2) (e1 : ru1 = ru2) (e2 : nm1.toList = nm2.toList) (e3 : ot1.toList = ot2.toList) (e4 : en1.toList = en2.toList) (e5 : ve1 = ve2) :
    Calls Tryz.prog 10 #[.agg #[.int .i64 ru1, .string nm1, .string ot1, .bool g1, a1, c1, .int .i64 kk1, .int .i64 nn1, .int .i64 pr1, .int .i64 ek1, .int .i64 ef1, .bool eg1, ea1, ec1, .string em1, es1, po1, .string en1, .int .i64 ve1, ar1, ki1], .agg #[.int .i64 ru2, .string nm2, .string ot2, .bool g2, a2, c2, .int .i64 kk2, .int .i64 nn2, .int .i64 pr2, .int .i64 ek2, .int .i64 ef2, .bool eg2, ea2, ec2, .string em2, es2, po2, .string en2, .int .i64 ve2, ar2, ki2]] w fun e w' => e = .returned (.bool false) ∧ Below w.heap.size w w' := by
  have h2 : ∀ o o2, Below w.heap.size w ((w.alloc o).alloc o2) := fun o o2 => below_two w o o2
  subst e1 e5
  subst e6 e7 e8
  go_enter Tryz.func10, Tryz.ntmps10
  go_wp2_with (first
      | (go_at_call 25; refine (hR _ ?_).mono ?_; exact h2 _ _; rintro e w1 ⟨rfl, hb1⟩
         have hs1 : w.heap.size + 2 ≤ w1.heap.size := by have := hb1.size; simpa using this
         have hW1 := (h2 _ _).trans (hb1.mono (h2 _ _).size)
         have p9_1 : w1.cell? ⟨w.heap.size, 9, none⟩ = some (.int .i64 ek1) := (hb1.cell (by show w.heap.size < _; simp; omega)).trans (by simp)
         have q9_1 : w1.cell? ⟨w.heap.size + 1, 9, none⟩ = some (.int .i64 ek2) := (hb1.cell (by show w.heap.size + 1 < _; simp)).trans (by simp)
         have p10_1 : w1.cell? ⟨w.heap.size, 10, none⟩ = some (.int .i64 ef1) := (hb1.cell (by show w.heap.size < _; simp; omega)).trans (by simp)
         have q10_1 : w1.cell? ⟨w.heap.size + 1, 10, none⟩ = some (.int .i64 ef2) := (hb1.cell (by show w.heap.size + 1 < _; simp)).trans (by simp)
         have p11_1 : w1.cell? ⟨w.heap.size, 11, none⟩ = some (.bool eg1) := (hb1.cell (by show w.heap.size < _; simp; omega)).trans (by simp)
         have q11_1 : w1.cell? ⟨w.heap.size + 1, 11, none⟩ = some (.bool eg2) := (hb1.cell (by show w.heap.size + 1 < _; simp)).trans (by simp)
         have p12_1 : w1.cell? ⟨w.heap.size, 12, none⟩ = some (ea1) := (hb1.cell (by show w.heap.size < _; simp; omega)).trans (by simp)
         have q12_1 : w1.cell? ⟨w.heap.size + 1, 12, none⟩ = some (ea2) := (hb1.cell (by show w.heap.size + 1 < _; simp)).trans (by simp)
         have p13_1 : w1.cell? ⟨w.heap.size, 13, none⟩ = some (ec1) := (hb1.cell (by show w.heap.size < _; simp; omega)).trans (by simp)
         have q13_1 : w1.cell? ⟨w.heap.size + 1, 13, none⟩ = some (ec2) := (hb1.cell (by show w.heap.size + 1 < _; simp)).trans (by simp)
         have p14_1 : w1.cell? ⟨w.heap.size, 14, none⟩ = some (.string em1) := (hb1.cell (by show w.heap.size < _; simp; omega)).trans (by simp)
         have q14_1 : w1.cell? ⟨w.heap.size + 1, 14, none⟩ = some (.string em2) := (hb1.cell (by show w.heap.size + 1 < _; simp)).trans (by simp)
         have p15_1 : w1.cell? ⟨w.heap.size, 15, none⟩ = some (es1) := (hb1.cell (by show w.heap.size < _; simp; omega)).trans (by simp)
         have q15_1 : w1.cell? ⟨w.heap.size + 1, 15, none⟩ = some (es2) := (hb1.cell (by show w.heap.size + 1 < _; simp)).trans (by simp)
         have p16_1 : w1.cell? ⟨w.heap.size, 16, none⟩ = some (po1) := (hb1.cell (by show w.heap.size < _; simp; omega)).trans (by simp)
         have q16_1 : w1.cell? ⟨w.heap.size + 1, 16, none⟩ = some (po2) := (hb1.cell (by show w.heap.size + 1 < _; simp)).trans (by simp)
         have p19_1 : w1.cell? ⟨w.heap.size, 19, none⟩ = some (ar1) := (hb1.cell (by show w.heap.size < _; simp; omega)).trans (by simp)
         have q19_1 : w1.cell? ⟨w.heap.size + 1, 19, none⟩ = some (ar2) := (hb1.cell (by show w.heap.size + 1 < _; simp)).trans (by simp)
         have p20_1 : w1.cell? ⟨w.heap.size, 20, none⟩ = some (ki1) := (hb1.cell (by show w.heap.size < _; simp; omega)).trans (by simp)
         have q20_1 : w1.cell? ⟨w.heap.size + 1, 20, none⟩ = some (ki2) := (hb1.cell (by show w.heap.size + 1 < _; simp)).trans (by simp)))
  go_ret
  exact ⟨rfl, hW1⟩

set_option maxRecDepth 100000 in
theorem equal_w2 {w : World} {ru1 ru2 kk1 kk2 nn1 nn2 pr1 pr2 ve1 ve2 ek1 ek2 ef1 ef2 : Int} {nm1 nm2 ot1 ot2 en1 en2 em1 em2 : ByteArray} {g1 g2 eg1 eg2 : Bool} {a1 a2 c1 c2 ea1 ea2 ec1 ec2 es1 es2 po1 po2 ar1 ar2 ki1 ki2 : Value} 
    (hR : ∀ w1, Below w.heap.size w w1 → Calls Tryz.prog 25 #[.agg #[.bool g1, a1, c1], .agg #[.bool g2, a2, c2]] w1 fun e w' => e = .returned (.bool true) ∧ Below w1.heap.size w1 w')
    (hX : ∀ w1, Below w.heap.size w w1 → Calls Tryz.prog 26 #[.agg #[.int .i64 ek1, .int .i64 ef1, .bool eg1, ea1, ec1, .string em1, es1], .agg #[.int .i64 ek2, .int .i64 ef2, .bool eg2, ea2, ec2, .string em2, es2]] w1 fun e w' => e = .returned (.bool false) ∧ Below w1.heap.size w1 w') (e6 : kk1 = kk2) (e7 : nn1 = nn2) (e8 : pr1 = pr2) (e1 : ru1 = ru2) (e2 : nm1.toList = nm2.toList) (e3 : ot1.toList = ot2.toList) (e4 : en1.toList = en2.toList) (e5 : ve1 = ve2) :
    Calls Tryz.prog 10 #[.agg #[.int .i64 ru1, .string nm1, .string ot1, .bool g1, a1, c1, .int .i64 kk1, .int .i64 nn1, .int .i64 pr1, .int .i64 ek1, .int .i64 ef1, .bool eg1, ea1, ec1, .string em1, es1, po1, .string en1, .int .i64 ve1, ar1, ki1], .agg #[.int .i64 ru2, .string nm2, .string ot2, .bool g2, a2, c2, .int .i64 kk2, .int .i64 nn2, .int .i64 pr2, .int .i64 ek2, .int .i64 ef2, .bool eg2, ea2, ec2, .string em2, es2, po2, .string en2, .int .i64 ve2, ar2, ki2]] w fun e w' => e = .returned (.bool false) ∧ Below w.heap.size w w' := by
  have h2 : ∀ o o2, Below w.heap.size w ((w.alloc o).alloc o2) := fun o o2 => below_two w o o2
  subst e1 e5
  subst e6 e7 e8
  go_enter Tryz.func10, Tryz.ntmps10
  go_wp2_with (first
      | (go_at_call 25; refine (hR _ ?_).mono ?_; exact h2 _ _; rintro e w1 ⟨rfl, hb1⟩
         have hs1 : w.heap.size + 2 ≤ w1.heap.size := by have := hb1.size; simpa using this
         have hW1 := (h2 _ _).trans (hb1.mono (h2 _ _).size)
         have p9_1 : w1.cell? ⟨w.heap.size, 9, none⟩ = some (.int .i64 ek1) := (hb1.cell (by show w.heap.size < _; simp; omega)).trans (by simp)
         have q9_1 : w1.cell? ⟨w.heap.size + 1, 9, none⟩ = some (.int .i64 ek2) := (hb1.cell (by show w.heap.size + 1 < _; simp)).trans (by simp)
         have p10_1 : w1.cell? ⟨w.heap.size, 10, none⟩ = some (.int .i64 ef1) := (hb1.cell (by show w.heap.size < _; simp; omega)).trans (by simp)
         have q10_1 : w1.cell? ⟨w.heap.size + 1, 10, none⟩ = some (.int .i64 ef2) := (hb1.cell (by show w.heap.size + 1 < _; simp)).trans (by simp)
         have p11_1 : w1.cell? ⟨w.heap.size, 11, none⟩ = some (.bool eg1) := (hb1.cell (by show w.heap.size < _; simp; omega)).trans (by simp)
         have q11_1 : w1.cell? ⟨w.heap.size + 1, 11, none⟩ = some (.bool eg2) := (hb1.cell (by show w.heap.size + 1 < _; simp)).trans (by simp)
         have p12_1 : w1.cell? ⟨w.heap.size, 12, none⟩ = some (ea1) := (hb1.cell (by show w.heap.size < _; simp; omega)).trans (by simp)
         have q12_1 : w1.cell? ⟨w.heap.size + 1, 12, none⟩ = some (ea2) := (hb1.cell (by show w.heap.size + 1 < _; simp)).trans (by simp)
         have p13_1 : w1.cell? ⟨w.heap.size, 13, none⟩ = some (ec1) := (hb1.cell (by show w.heap.size < _; simp; omega)).trans (by simp)
         have q13_1 : w1.cell? ⟨w.heap.size + 1, 13, none⟩ = some (ec2) := (hb1.cell (by show w.heap.size + 1 < _; simp)).trans (by simp)
         have p14_1 : w1.cell? ⟨w.heap.size, 14, none⟩ = some (.string em1) := (hb1.cell (by show w.heap.size < _; simp; omega)).trans (by simp)
         have q14_1 : w1.cell? ⟨w.heap.size + 1, 14, none⟩ = some (.string em2) := (hb1.cell (by show w.heap.size + 1 < _; simp)).trans (by simp)
         have p15_1 : w1.cell? ⟨w.heap.size, 15, none⟩ = some (es1) := (hb1.cell (by show w.heap.size < _; simp; omega)).trans (by simp)
         have q15_1 : w1.cell? ⟨w.heap.size + 1, 15, none⟩ = some (es2) := (hb1.cell (by show w.heap.size + 1 < _; simp)).trans (by simp)
         have p16_1 : w1.cell? ⟨w.heap.size, 16, none⟩ = some (po1) := (hb1.cell (by show w.heap.size < _; simp; omega)).trans (by simp)
         have q16_1 : w1.cell? ⟨w.heap.size + 1, 16, none⟩ = some (po2) := (hb1.cell (by show w.heap.size + 1 < _; simp)).trans (by simp)
         have p19_1 : w1.cell? ⟨w.heap.size, 19, none⟩ = some (ar1) := (hb1.cell (by show w.heap.size < _; simp; omega)).trans (by simp)
         have q19_1 : w1.cell? ⟨w.heap.size + 1, 19, none⟩ = some (ar2) := (hb1.cell (by show w.heap.size + 1 < _; simp)).trans (by simp)
         have p20_1 : w1.cell? ⟨w.heap.size, 20, none⟩ = some (ki1) := (hb1.cell (by show w.heap.size < _; simp; omega)).trans (by simp)
         have q20_1 : w1.cell? ⟨w.heap.size + 1, 20, none⟩ = some (ki2) := (hb1.cell (by show w.heap.size + 1 < _; simp)).trans (by simp))
      | (go_at_call 26; refine (hX _ ?_).mono ?_; exact hW1; rintro e w2 ⟨rfl, hb2⟩
         have hs2 : w.heap.size + 2 ≤ w2.heap.size := Nat.le_trans hs1 hb2.size
         have hW2 : Below w.heap.size w w2 := hW1.trans (hb2.mono hW1.size)
         have p16_2 : w2.cell? ⟨w.heap.size, 16, none⟩ = some (po1) := (hb2.cell (by show w.heap.size < _; omega)).trans p16_1
         have q16_2 : w2.cell? ⟨w.heap.size + 1, 16, none⟩ = some (po2) := (hb2.cell (by show w.heap.size + 1 < _; omega)).trans q16_1
         have p19_2 : w2.cell? ⟨w.heap.size, 19, none⟩ = some (ar1) := (hb2.cell (by show w.heap.size < _; omega)).trans p19_1
         have q19_2 : w2.cell? ⟨w.heap.size + 1, 19, none⟩ = some (ar2) := (hb2.cell (by show w.heap.size + 1 < _; omega)).trans q19_1
         have p20_2 : w2.cell? ⟨w.heap.size, 20, none⟩ = some (ki1) := (hb2.cell (by show w.heap.size < _; omega)).trans p20_1
         have q20_2 : w2.cell? ⟨w.heap.size + 1, 20, none⟩ = some (ki2) := (hb2.cell (by show w.heap.size + 1 < _; omega)).trans q20_1))
  go_ret
  exact ⟨rfl, hW2⟩

set_option maxRecDepth 100000 in
theorem equal_w3 {w : World} {ru1 ru2 kk1 kk2 nn1 nn2 pr1 pr2 ve1 ve2 ek1 ek2 ef1 ef2 : Int} {nm1 nm2 ot1 ot2 en1 en2 em1 em2 : ByteArray} {g1 g2 eg1 eg2 : Bool} {a1 a2 c1 c2 ea1 ea2 ec1 ec2 es1 es2 po1 po2 ar1 ar2 ki1 ki2 : Value} 
    (hR : ∀ w1, Below w.heap.size w w1 → Calls Tryz.prog 25 #[.agg #[.bool g1, a1, c1], .agg #[.bool g2, a2, c2]] w1 fun e w' => e = .returned (.bool true) ∧ Below w1.heap.size w1 w')
    (hX : ∀ w1, Below w.heap.size w w1 → Calls Tryz.prog 26 #[.agg #[.int .i64 ek1, .int .i64 ef1, .bool eg1, ea1, ec1, .string em1, es1], .agg #[.int .i64 ek2, .int .i64 ef2, .bool eg2, ea2, ec2, .string em2, es2]] w1 fun e w' => e = .returned (.bool true) ∧ Below w1.heap.size w1 w')
    (hP : ∀ w1, Below w.heap.size w w1 → Calls Tryz.prog 29 #[po1, po2, .func (.func 27) #[] #[]] w1 fun e w' => e = .returned (.bool false) ∧ Below w1.heap.size w1 w') (e6 : kk1 = kk2) (e7 : nn1 = nn2) (e8 : pr1 = pr2) (e1 : ru1 = ru2) (e2 : nm1.toList = nm2.toList) (e3 : ot1.toList = ot2.toList) (e4 : en1.toList = en2.toList) (e5 : ve1 = ve2) :
    Calls Tryz.prog 10 #[.agg #[.int .i64 ru1, .string nm1, .string ot1, .bool g1, a1, c1, .int .i64 kk1, .int .i64 nn1, .int .i64 pr1, .int .i64 ek1, .int .i64 ef1, .bool eg1, ea1, ec1, .string em1, es1, po1, .string en1, .int .i64 ve1, ar1, ki1], .agg #[.int .i64 ru2, .string nm2, .string ot2, .bool g2, a2, c2, .int .i64 kk2, .int .i64 nn2, .int .i64 pr2, .int .i64 ek2, .int .i64 ef2, .bool eg2, ea2, ec2, .string em2, es2, po2, .string en2, .int .i64 ve2, ar2, ki2]] w fun e w' => e = .returned (.bool false) ∧ Below w.heap.size w w' := by
  have h2 : ∀ o o2, Below w.heap.size w ((w.alloc o).alloc o2) := fun o o2 => below_two w o o2
  subst e1 e5
  subst e6 e7 e8
  go_enter Tryz.func10, Tryz.ntmps10
  go_wp2_with (first
      | (go_at_call 25; refine (hR _ ?_).mono ?_; exact h2 _ _; rintro e w1 ⟨rfl, hb1⟩
         have hs1 : w.heap.size + 2 ≤ w1.heap.size := by have := hb1.size; simpa using this
         have hW1 := (h2 _ _).trans (hb1.mono (h2 _ _).size)
         have p9_1 : w1.cell? ⟨w.heap.size, 9, none⟩ = some (.int .i64 ek1) := (hb1.cell (by show w.heap.size < _; simp; omega)).trans (by simp)
         have q9_1 : w1.cell? ⟨w.heap.size + 1, 9, none⟩ = some (.int .i64 ek2) := (hb1.cell (by show w.heap.size + 1 < _; simp)).trans (by simp)
         have p10_1 : w1.cell? ⟨w.heap.size, 10, none⟩ = some (.int .i64 ef1) := (hb1.cell (by show w.heap.size < _; simp; omega)).trans (by simp)
         have q10_1 : w1.cell? ⟨w.heap.size + 1, 10, none⟩ = some (.int .i64 ef2) := (hb1.cell (by show w.heap.size + 1 < _; simp)).trans (by simp)
         have p11_1 : w1.cell? ⟨w.heap.size, 11, none⟩ = some (.bool eg1) := (hb1.cell (by show w.heap.size < _; simp; omega)).trans (by simp)
         have q11_1 : w1.cell? ⟨w.heap.size + 1, 11, none⟩ = some (.bool eg2) := (hb1.cell (by show w.heap.size + 1 < _; simp)).trans (by simp)
         have p12_1 : w1.cell? ⟨w.heap.size, 12, none⟩ = some (ea1) := (hb1.cell (by show w.heap.size < _; simp; omega)).trans (by simp)
         have q12_1 : w1.cell? ⟨w.heap.size + 1, 12, none⟩ = some (ea2) := (hb1.cell (by show w.heap.size + 1 < _; simp)).trans (by simp)
         have p13_1 : w1.cell? ⟨w.heap.size, 13, none⟩ = some (ec1) := (hb1.cell (by show w.heap.size < _; simp; omega)).trans (by simp)
         have q13_1 : w1.cell? ⟨w.heap.size + 1, 13, none⟩ = some (ec2) := (hb1.cell (by show w.heap.size + 1 < _; simp)).trans (by simp)
         have p14_1 : w1.cell? ⟨w.heap.size, 14, none⟩ = some (.string em1) := (hb1.cell (by show w.heap.size < _; simp; omega)).trans (by simp)
         have q14_1 : w1.cell? ⟨w.heap.size + 1, 14, none⟩ = some (.string em2) := (hb1.cell (by show w.heap.size + 1 < _; simp)).trans (by simp)
         have p15_1 : w1.cell? ⟨w.heap.size, 15, none⟩ = some (es1) := (hb1.cell (by show w.heap.size < _; simp; omega)).trans (by simp)
         have q15_1 : w1.cell? ⟨w.heap.size + 1, 15, none⟩ = some (es2) := (hb1.cell (by show w.heap.size + 1 < _; simp)).trans (by simp)
         have p16_1 : w1.cell? ⟨w.heap.size, 16, none⟩ = some (po1) := (hb1.cell (by show w.heap.size < _; simp; omega)).trans (by simp)
         have q16_1 : w1.cell? ⟨w.heap.size + 1, 16, none⟩ = some (po2) := (hb1.cell (by show w.heap.size + 1 < _; simp)).trans (by simp)
         have p19_1 : w1.cell? ⟨w.heap.size, 19, none⟩ = some (ar1) := (hb1.cell (by show w.heap.size < _; simp; omega)).trans (by simp)
         have q19_1 : w1.cell? ⟨w.heap.size + 1, 19, none⟩ = some (ar2) := (hb1.cell (by show w.heap.size + 1 < _; simp)).trans (by simp)
         have p20_1 : w1.cell? ⟨w.heap.size, 20, none⟩ = some (ki1) := (hb1.cell (by show w.heap.size < _; simp; omega)).trans (by simp)
         have q20_1 : w1.cell? ⟨w.heap.size + 1, 20, none⟩ = some (ki2) := (hb1.cell (by show w.heap.size + 1 < _; simp)).trans (by simp))
      | (go_at_call 26; refine (hX _ ?_).mono ?_; exact hW1; rintro e w2 ⟨rfl, hb2⟩
         have hs2 : w.heap.size + 2 ≤ w2.heap.size := Nat.le_trans hs1 hb2.size
         have hW2 : Below w.heap.size w w2 := hW1.trans (hb2.mono hW1.size)
         have p16_2 : w2.cell? ⟨w.heap.size, 16, none⟩ = some (po1) := (hb2.cell (by show w.heap.size < _; omega)).trans p16_1
         have q16_2 : w2.cell? ⟨w.heap.size + 1, 16, none⟩ = some (po2) := (hb2.cell (by show w.heap.size + 1 < _; omega)).trans q16_1
         have p19_2 : w2.cell? ⟨w.heap.size, 19, none⟩ = some (ar1) := (hb2.cell (by show w.heap.size < _; omega)).trans p19_1
         have q19_2 : w2.cell? ⟨w.heap.size + 1, 19, none⟩ = some (ar2) := (hb2.cell (by show w.heap.size + 1 < _; omega)).trans q19_1
         have p20_2 : w2.cell? ⟨w.heap.size, 20, none⟩ = some (ki1) := (hb2.cell (by show w.heap.size < _; omega)).trans p20_1
         have q20_2 : w2.cell? ⟨w.heap.size + 1, 20, none⟩ = some (ki2) := (hb2.cell (by show w.heap.size + 1 < _; omega)).trans q20_1)
      | (go_at_call 29; refine (hP _ ?_).mono ?_; exact hW2; rintro e w3 ⟨rfl, hb3⟩
         have hs3 : w.heap.size + 2 ≤ w3.heap.size := Nat.le_trans hs2 hb3.size
         have hW3 : Below w.heap.size w w3 := hW2.trans (hb3.mono hW2.size)
         have p19_3 : w3.cell? ⟨w.heap.size, 19, none⟩ = some (ar1) := (hb3.cell (by show w.heap.size < _; omega)).trans p19_2
         have q19_3 : w3.cell? ⟨w.heap.size + 1, 19, none⟩ = some (ar2) := (hb3.cell (by show w.heap.size + 1 < _; omega)).trans q19_2
         have p20_3 : w3.cell? ⟨w.heap.size, 20, none⟩ = some (ki1) := (hb3.cell (by show w.heap.size < _; omega)).trans p20_2
         have q20_3 : w3.cell? ⟨w.heap.size + 1, 20, none⟩ = some (ki2) := (hb3.cell (by show w.heap.size + 1 < _; omega)).trans q20_2))
  go_ret
  exact ⟨rfl, hW3⟩

set_option maxRecDepth 100000 in
theorem equal_w4 {w : World} {ru1 ru2 kk1 kk2 nn1 nn2 pr1 pr2 ve1 ve2 ek1 ek2 ef1 ef2 : Int} {nm1 nm2 ot1 ot2 en1 en2 em1 em2 : ByteArray} {g1 g2 eg1 eg2 : Bool} {a1 a2 c1 c2 ea1 ea2 ec1 ec2 es1 es2 po1 po2 ar1 ar2 ki1 ki2 : Value} 
    (hR : ∀ w1, Below w.heap.size w w1 → Calls Tryz.prog 25 #[.agg #[.bool g1, a1, c1], .agg #[.bool g2, a2, c2]] w1 fun e w' => e = .returned (.bool true) ∧ Below w1.heap.size w1 w')
    (hX : ∀ w1, Below w.heap.size w w1 → Calls Tryz.prog 26 #[.agg #[.int .i64 ek1, .int .i64 ef1, .bool eg1, ea1, ec1, .string em1, es1], .agg #[.int .i64 ek2, .int .i64 ef2, .bool eg2, ea2, ec2, .string em2, es2]] w1 fun e w' => e = .returned (.bool true) ∧ Below w1.heap.size w1 w')
    (hP : ∀ w1, Below w.heap.size w w1 → Calls Tryz.prog 29 #[po1, po2, .func (.func 27) #[] #[]] w1 fun e w' => e = .returned (.bool true) ∧ Below w1.heap.size w1 w')
    (hB : ∀ w1, Below w.heap.size w w1 → Calls Tryz.prog 30 #[ar1, ar2, .func (.func 28) #[] #[]] w1 fun e w' => e = .returned (.bool false) ∧ Below w1.heap.size w1 w') (e6 : kk1 = kk2) (e7 : nn1 = nn2) (e8 : pr1 = pr2) (e1 : ru1 = ru2) (e2 : nm1.toList = nm2.toList) (e3 : ot1.toList = ot2.toList) (e4 : en1.toList = en2.toList) (e5 : ve1 = ve2) :
    Calls Tryz.prog 10 #[.agg #[.int .i64 ru1, .string nm1, .string ot1, .bool g1, a1, c1, .int .i64 kk1, .int .i64 nn1, .int .i64 pr1, .int .i64 ek1, .int .i64 ef1, .bool eg1, ea1, ec1, .string em1, es1, po1, .string en1, .int .i64 ve1, ar1, ki1], .agg #[.int .i64 ru2, .string nm2, .string ot2, .bool g2, a2, c2, .int .i64 kk2, .int .i64 nn2, .int .i64 pr2, .int .i64 ek2, .int .i64 ef2, .bool eg2, ea2, ec2, .string em2, es2, po2, .string en2, .int .i64 ve2, ar2, ki2]] w fun e w' => e = .returned (.bool false) ∧ Below w.heap.size w w' := by
  have h2 : ∀ o o2, Below w.heap.size w ((w.alloc o).alloc o2) := fun o o2 => below_two w o o2
  subst e1 e5
  subst e6 e7 e8
  go_enter Tryz.func10, Tryz.ntmps10
  go_wp2_with (first
      | (go_at_call 25; refine (hR _ ?_).mono ?_; exact h2 _ _; rintro e w1 ⟨rfl, hb1⟩
         have hs1 : w.heap.size + 2 ≤ w1.heap.size := by have := hb1.size; simpa using this
         have hW1 := (h2 _ _).trans (hb1.mono (h2 _ _).size)
         have p9_1 : w1.cell? ⟨w.heap.size, 9, none⟩ = some (.int .i64 ek1) := (hb1.cell (by show w.heap.size < _; simp; omega)).trans (by simp)
         have q9_1 : w1.cell? ⟨w.heap.size + 1, 9, none⟩ = some (.int .i64 ek2) := (hb1.cell (by show w.heap.size + 1 < _; simp)).trans (by simp)
         have p10_1 : w1.cell? ⟨w.heap.size, 10, none⟩ = some (.int .i64 ef1) := (hb1.cell (by show w.heap.size < _; simp; omega)).trans (by simp)
         have q10_1 : w1.cell? ⟨w.heap.size + 1, 10, none⟩ = some (.int .i64 ef2) := (hb1.cell (by show w.heap.size + 1 < _; simp)).trans (by simp)
         have p11_1 : w1.cell? ⟨w.heap.size, 11, none⟩ = some (.bool eg1) := (hb1.cell (by show w.heap.size < _; simp; omega)).trans (by simp)
         have q11_1 : w1.cell? ⟨w.heap.size + 1, 11, none⟩ = some (.bool eg2) := (hb1.cell (by show w.heap.size + 1 < _; simp)).trans (by simp)
         have p12_1 : w1.cell? ⟨w.heap.size, 12, none⟩ = some (ea1) := (hb1.cell (by show w.heap.size < _; simp; omega)).trans (by simp)
         have q12_1 : w1.cell? ⟨w.heap.size + 1, 12, none⟩ = some (ea2) := (hb1.cell (by show w.heap.size + 1 < _; simp)).trans (by simp)
         have p13_1 : w1.cell? ⟨w.heap.size, 13, none⟩ = some (ec1) := (hb1.cell (by show w.heap.size < _; simp; omega)).trans (by simp)
         have q13_1 : w1.cell? ⟨w.heap.size + 1, 13, none⟩ = some (ec2) := (hb1.cell (by show w.heap.size + 1 < _; simp)).trans (by simp)
         have p14_1 : w1.cell? ⟨w.heap.size, 14, none⟩ = some (.string em1) := (hb1.cell (by show w.heap.size < _; simp; omega)).trans (by simp)
         have q14_1 : w1.cell? ⟨w.heap.size + 1, 14, none⟩ = some (.string em2) := (hb1.cell (by show w.heap.size + 1 < _; simp)).trans (by simp)
         have p15_1 : w1.cell? ⟨w.heap.size, 15, none⟩ = some (es1) := (hb1.cell (by show w.heap.size < _; simp; omega)).trans (by simp)
         have q15_1 : w1.cell? ⟨w.heap.size + 1, 15, none⟩ = some (es2) := (hb1.cell (by show w.heap.size + 1 < _; simp)).trans (by simp)
         have p16_1 : w1.cell? ⟨w.heap.size, 16, none⟩ = some (po1) := (hb1.cell (by show w.heap.size < _; simp; omega)).trans (by simp)
         have q16_1 : w1.cell? ⟨w.heap.size + 1, 16, none⟩ = some (po2) := (hb1.cell (by show w.heap.size + 1 < _; simp)).trans (by simp)
         have p19_1 : w1.cell? ⟨w.heap.size, 19, none⟩ = some (ar1) := (hb1.cell (by show w.heap.size < _; simp; omega)).trans (by simp)
         have q19_1 : w1.cell? ⟨w.heap.size + 1, 19, none⟩ = some (ar2) := (hb1.cell (by show w.heap.size + 1 < _; simp)).trans (by simp)
         have p20_1 : w1.cell? ⟨w.heap.size, 20, none⟩ = some (ki1) := (hb1.cell (by show w.heap.size < _; simp; omega)).trans (by simp)
         have q20_1 : w1.cell? ⟨w.heap.size + 1, 20, none⟩ = some (ki2) := (hb1.cell (by show w.heap.size + 1 < _; simp)).trans (by simp))
      | (go_at_call 26; refine (hX _ ?_).mono ?_; exact hW1; rintro e w2 ⟨rfl, hb2⟩
         have hs2 : w.heap.size + 2 ≤ w2.heap.size := Nat.le_trans hs1 hb2.size
         have hW2 : Below w.heap.size w w2 := hW1.trans (hb2.mono hW1.size)
         have p16_2 : w2.cell? ⟨w.heap.size, 16, none⟩ = some (po1) := (hb2.cell (by show w.heap.size < _; omega)).trans p16_1
         have q16_2 : w2.cell? ⟨w.heap.size + 1, 16, none⟩ = some (po2) := (hb2.cell (by show w.heap.size + 1 < _; omega)).trans q16_1
         have p19_2 : w2.cell? ⟨w.heap.size, 19, none⟩ = some (ar1) := (hb2.cell (by show w.heap.size < _; omega)).trans p19_1
         have q19_2 : w2.cell? ⟨w.heap.size + 1, 19, none⟩ = some (ar2) := (hb2.cell (by show w.heap.size + 1 < _; omega)).trans q19_1
         have p20_2 : w2.cell? ⟨w.heap.size, 20, none⟩ = some (ki1) := (hb2.cell (by show w.heap.size < _; omega)).trans p20_1
         have q20_2 : w2.cell? ⟨w.heap.size + 1, 20, none⟩ = some (ki2) := (hb2.cell (by show w.heap.size + 1 < _; omega)).trans q20_1)
      | (go_at_call 29; refine (hP _ ?_).mono ?_; exact hW2; rintro e w3 ⟨rfl, hb3⟩
         have hs3 : w.heap.size + 2 ≤ w3.heap.size := Nat.le_trans hs2 hb3.size
         have hW3 : Below w.heap.size w w3 := hW2.trans (hb3.mono hW2.size)
         have p19_3 : w3.cell? ⟨w.heap.size, 19, none⟩ = some (ar1) := (hb3.cell (by show w.heap.size < _; omega)).trans p19_2
         have q19_3 : w3.cell? ⟨w.heap.size + 1, 19, none⟩ = some (ar2) := (hb3.cell (by show w.heap.size + 1 < _; omega)).trans q19_2
         have p20_3 : w3.cell? ⟨w.heap.size, 20, none⟩ = some (ki1) := (hb3.cell (by show w.heap.size < _; omega)).trans p20_2
         have q20_3 : w3.cell? ⟨w.heap.size + 1, 20, none⟩ = some (ki2) := (hb3.cell (by show w.heap.size + 1 < _; omega)).trans q20_2)
      | (go_at_call 30; refine (hB _ ?_).mono ?_; exact hW3; rintro e w4 ⟨rfl, hb4⟩
         have hs4 : w.heap.size + 2 ≤ w4.heap.size := Nat.le_trans hs3 hb4.size
         have hW4 : Below w.heap.size w w4 := hW3.trans (hb4.mono hW3.size)
         have p20_4 : w4.cell? ⟨w.heap.size, 20, none⟩ = some (ki1) := (hb4.cell (by show w.heap.size < _; omega)).trans p20_3
         have q20_4 : w4.cell? ⟨w.heap.size + 1, 20, none⟩ = some (ki2) := (hb4.cell (by show w.heap.size + 1 < _; omega)).trans q20_3))
  go_ret
  exact ⟨rfl, hW4⟩

set_option maxRecDepth 100000 in
theorem equal_w5 {w : World} {ru1 ru2 kk1 kk2 nn1 nn2 pr1 pr2 ve1 ve2 ek1 ek2 ef1 ef2 : Int} {nm1 nm2 ot1 ot2 en1 en2 em1 em2 : ByteArray} {g1 g2 eg1 eg2 : Bool} {a1 a2 c1 c2 ea1 ea2 ec1 ec2 es1 es2 po1 po2 ar1 ar2 ki1 ki2 : Value} {K : Bool}
    (hR : ∀ w1, Below w.heap.size w w1 → Calls Tryz.prog 25 #[.agg #[.bool g1, a1, c1], .agg #[.bool g2, a2, c2]] w1 fun e w' => e = .returned (.bool true) ∧ Below w1.heap.size w1 w')
    (hX : ∀ w1, Below w.heap.size w w1 → Calls Tryz.prog 26 #[.agg #[.int .i64 ek1, .int .i64 ef1, .bool eg1, ea1, ec1, .string em1, es1], .agg #[.int .i64 ek2, .int .i64 ef2, .bool eg2, ea2, ec2, .string em2, es2]] w1 fun e w' => e = .returned (.bool true) ∧ Below w1.heap.size w1 w')
    (hP : ∀ w1, Below w.heap.size w w1 → Calls Tryz.prog 29 #[po1, po2, .func (.func 27) #[] #[]] w1 fun e w' => e = .returned (.bool true) ∧ Below w1.heap.size w1 w')
    (hB : ∀ w1, Below w.heap.size w w1 → Calls Tryz.prog 30 #[ar1, ar2, .func (.func 28) #[] #[]] w1 fun e w' => e = .returned (.bool true) ∧ Below w1.heap.size w1 w')
    (hK : ∀ w1, Below w.heap.size w w1 → Calls Tryz.prog 31 #[ki1, ki2, .func (.func 10) #[] #[]] w1 fun e w' => e = .returned (.bool K) ∧ Below w1.heap.size w1 w') (e6 : kk1 = kk2) (e7 : nn1 = nn2) (e8 : pr1 = pr2) (e1 : ru1 = ru2) (e2 : nm1.toList = nm2.toList) (e3 : ot1.toList = ot2.toList) (e4 : en1.toList = en2.toList) (e5 : ve1 = ve2) :
    Calls Tryz.prog 10 #[.agg #[.int .i64 ru1, .string nm1, .string ot1, .bool g1, a1, c1, .int .i64 kk1, .int .i64 nn1, .int .i64 pr1, .int .i64 ek1, .int .i64 ef1, .bool eg1, ea1, ec1, .string em1, es1, po1, .string en1, .int .i64 ve1, ar1, ki1], .agg #[.int .i64 ru2, .string nm2, .string ot2, .bool g2, a2, c2, .int .i64 kk2, .int .i64 nn2, .int .i64 pr2, .int .i64 ek2, .int .i64 ef2, .bool eg2, ea2, ec2, .string em2, es2, po2, .string en2, .int .i64 ve2, ar2, ki2]] w fun e w' => e = .returned (.bool K) ∧ Below w.heap.size w w' := by
  have h2 : ∀ o o2, Below w.heap.size w ((w.alloc o).alloc o2) := fun o o2 => below_two w o o2
  subst e1 e5
  subst e6 e7 e8
  go_enter Tryz.func10, Tryz.ntmps10
  go_wp2_with (first
      | (go_at_call 25; refine (hR _ ?_).mono ?_; exact h2 _ _; rintro e w1 ⟨rfl, hb1⟩
         have hs1 : w.heap.size + 2 ≤ w1.heap.size := by have := hb1.size; simpa using this
         have hW1 := (h2 _ _).trans (hb1.mono (h2 _ _).size)
         have p9_1 : w1.cell? ⟨w.heap.size, 9, none⟩ = some (.int .i64 ek1) := (hb1.cell (by show w.heap.size < _; simp; omega)).trans (by simp)
         have q9_1 : w1.cell? ⟨w.heap.size + 1, 9, none⟩ = some (.int .i64 ek2) := (hb1.cell (by show w.heap.size + 1 < _; simp)).trans (by simp)
         have p10_1 : w1.cell? ⟨w.heap.size, 10, none⟩ = some (.int .i64 ef1) := (hb1.cell (by show w.heap.size < _; simp; omega)).trans (by simp)
         have q10_1 : w1.cell? ⟨w.heap.size + 1, 10, none⟩ = some (.int .i64 ef2) := (hb1.cell (by show w.heap.size + 1 < _; simp)).trans (by simp)
         have p11_1 : w1.cell? ⟨w.heap.size, 11, none⟩ = some (.bool eg1) := (hb1.cell (by show w.heap.size < _; simp; omega)).trans (by simp)
         have q11_1 : w1.cell? ⟨w.heap.size + 1, 11, none⟩ = some (.bool eg2) := (hb1.cell (by show w.heap.size + 1 < _; simp)).trans (by simp)
         have p12_1 : w1.cell? ⟨w.heap.size, 12, none⟩ = some (ea1) := (hb1.cell (by show w.heap.size < _; simp; omega)).trans (by simp)
         have q12_1 : w1.cell? ⟨w.heap.size + 1, 12, none⟩ = some (ea2) := (hb1.cell (by show w.heap.size + 1 < _; simp)).trans (by simp)
         have p13_1 : w1.cell? ⟨w.heap.size, 13, none⟩ = some (ec1) := (hb1.cell (by show w.heap.size < _; simp; omega)).trans (by simp)
         have q13_1 : w1.cell? ⟨w.heap.size + 1, 13, none⟩ = some (ec2) := (hb1.cell (by show w.heap.size + 1 < _; simp)).trans (by simp)
         have p14_1 : w1.cell? ⟨w.heap.size, 14, none⟩ = some (.string em1) := (hb1.cell (by show w.heap.size < _; simp; omega)).trans (by simp)
         have q14_1 : w1.cell? ⟨w.heap.size + 1, 14, none⟩ = some (.string em2) := (hb1.cell (by show w.heap.size + 1 < _; simp)).trans (by simp)
         have p15_1 : w1.cell? ⟨w.heap.size, 15, none⟩ = some (es1) := (hb1.cell (by show w.heap.size < _; simp; omega)).trans (by simp)
         have q15_1 : w1.cell? ⟨w.heap.size + 1, 15, none⟩ = some (es2) := (hb1.cell (by show w.heap.size + 1 < _; simp)).trans (by simp)
         have p16_1 : w1.cell? ⟨w.heap.size, 16, none⟩ = some (po1) := (hb1.cell (by show w.heap.size < _; simp; omega)).trans (by simp)
         have q16_1 : w1.cell? ⟨w.heap.size + 1, 16, none⟩ = some (po2) := (hb1.cell (by show w.heap.size + 1 < _; simp)).trans (by simp)
         have p19_1 : w1.cell? ⟨w.heap.size, 19, none⟩ = some (ar1) := (hb1.cell (by show w.heap.size < _; simp; omega)).trans (by simp)
         have q19_1 : w1.cell? ⟨w.heap.size + 1, 19, none⟩ = some (ar2) := (hb1.cell (by show w.heap.size + 1 < _; simp)).trans (by simp)
         have p20_1 : w1.cell? ⟨w.heap.size, 20, none⟩ = some (ki1) := (hb1.cell (by show w.heap.size < _; simp; omega)).trans (by simp)
         have q20_1 : w1.cell? ⟨w.heap.size + 1, 20, none⟩ = some (ki2) := (hb1.cell (by show w.heap.size + 1 < _; simp)).trans (by simp))
      | (go_at_call 26; refine (hX _ ?_).mono ?_; exact hW1; rintro e w2 ⟨rfl, hb2⟩
         have hs2 : w.heap.size + 2 ≤ w2.heap.size := Nat.le_trans hs1 hb2.size
         have hW2 : Below w.heap.size w w2 := hW1.trans (hb2.mono hW1.size)
         have p16_2 : w2.cell? ⟨w.heap.size, 16, none⟩ = some (po1) := (hb2.cell (by show w.heap.size < _; omega)).trans p16_1
         have q16_2 : w2.cell? ⟨w.heap.size + 1, 16, none⟩ = some (po2) := (hb2.cell (by show w.heap.size + 1 < _; omega)).trans q16_1
         have p19_2 : w2.cell? ⟨w.heap.size, 19, none⟩ = some (ar1) := (hb2.cell (by show w.heap.size < _; omega)).trans p19_1
         have q19_2 : w2.cell? ⟨w.heap.size + 1, 19, none⟩ = some (ar2) := (hb2.cell (by show w.heap.size + 1 < _; omega)).trans q19_1
         have p20_2 : w2.cell? ⟨w.heap.size, 20, none⟩ = some (ki1) := (hb2.cell (by show w.heap.size < _; omega)).trans p20_1
         have q20_2 : w2.cell? ⟨w.heap.size + 1, 20, none⟩ = some (ki2) := (hb2.cell (by show w.heap.size + 1 < _; omega)).trans q20_1)
      | (go_at_call 29; refine (hP _ ?_).mono ?_; exact hW2; rintro e w3 ⟨rfl, hb3⟩
         have hs3 : w.heap.size + 2 ≤ w3.heap.size := Nat.le_trans hs2 hb3.size
         have hW3 : Below w.heap.size w w3 := hW2.trans (hb3.mono hW2.size)
         have p19_3 : w3.cell? ⟨w.heap.size, 19, none⟩ = some (ar1) := (hb3.cell (by show w.heap.size < _; omega)).trans p19_2
         have q19_3 : w3.cell? ⟨w.heap.size + 1, 19, none⟩ = some (ar2) := (hb3.cell (by show w.heap.size + 1 < _; omega)).trans q19_2
         have p20_3 : w3.cell? ⟨w.heap.size, 20, none⟩ = some (ki1) := (hb3.cell (by show w.heap.size < _; omega)).trans p20_2
         have q20_3 : w3.cell? ⟨w.heap.size + 1, 20, none⟩ = some (ki2) := (hb3.cell (by show w.heap.size + 1 < _; omega)).trans q20_2)
      | (go_at_call 30; refine (hB _ ?_).mono ?_; exact hW3; rintro e w4 ⟨rfl, hb4⟩
         have hs4 : w.heap.size + 2 ≤ w4.heap.size := Nat.le_trans hs3 hb4.size
         have hW4 : Below w.heap.size w w4 := hW3.trans (hb4.mono hW3.size)
         have p20_4 : w4.cell? ⟨w.heap.size, 20, none⟩ = some (ki1) := (hb4.cell (by show w.heap.size < _; omega)).trans p20_3
         have q20_4 : w4.cell? ⟨w.heap.size + 1, 20, none⟩ = some (ki2) := (hb4.cell (by show w.heap.size + 1 < _; omega)).trans q20_3)
      | (go_at_call 31; refine (hK _ ?_).mono ?_; exact hW4; rintro e w5 ⟨rfl, hb5⟩
         have hs5 : w.heap.size + 2 ≤ w5.heap.size := Nat.le_trans hs4 hb5.size
         have hW5 : Below w.heap.size w w5 := hW4.trans (hb5.mono hW4.size)))
  go_ret
  exact ⟨rfl, hW5⟩
end Go.Proofs.YtlmifjdbjhcceaaGreatDoor

namespace Go.Proofs.YtlmifjdbjhcceaaGreatDoor
open Go Go.RowKit

set_option maxRecDepth 100000 in
theorem equal_nums {w : World} {ru1 ru2 kk1 kk2 nn1 nn2 pr1 pr2 ve1 ve2 ek1 ek2 ef1 ef2 : Int} {nm1 nm2 ot1 ot2 en1 en2 em1 em2 : ByteArray} {g1 g2 eg1 eg2 : Bool} {a1 a2 c1 c2 ea1 ea2 ec1 ec2 es1 es2 po1 po2 ar1 ar2 ki1 ki2 : Value} 
    (h : ¬ (kk1 = kk2 ∧ nn1 = nn2 ∧ pr1 = pr2)) (e1 : ru1 = ru2) (e2 : nm1.toList = nm2.toList) (e3 : ot1.toList = ot2.toList) (e4 : en1.toList = en2.toList) (e5 : ve1 = ve2) :
    Calls Tryz.prog 10 #[.agg #[.int .i64 ru1, .string nm1, .string ot1, .bool g1, a1, c1, .int .i64 kk1, .int .i64 nn1, .int .i64 pr1, .int .i64 ek1, .int .i64 ef1, .bool eg1, ea1, ec1, .string em1, es1, po1, .string en1, .int .i64 ve1, ar1, ki1], .agg #[.int .i64 ru2, .string nm2, .string ot2, .bool g2, a2, c2, .int .i64 kk2, .int .i64 nn2, .int .i64 pr2, .int .i64 ek2, .int .i64 ef2, .bool eg2, ea2, ec2, .string em2, es2, po2, .string en2, .int .i64 ve2, ar2, ki2]] w fun e w' => e = .returned (.bool false) ∧ Below w.heap.size w w' := by
  have h2 : ∀ o o2, Below w.heap.size w ((w.alloc o).alloc o2) := fun o o2 => below_two w o o2
  subst e1 e5
  by_cases k1 : kk1 = kk2
  · subst k1
    by_cases k2 : nn1 = nn2
    · subst k2
      have k3 : ¬ pr1 = pr2 := fun k3 => h ⟨rfl, rfl, k3⟩
      clear h
      go_enter Tryz.func10, Tryz.ntmps10
      go_wp2_with fail
      go_ret
      exact ⟨rfl, h2 _ _⟩
    · clear h
      go_enter Tryz.func10, Tryz.ntmps10
      go_wp2_with fail
      go_ret
      exact ⟨rfl, h2 _ _⟩
  · clear h
    go_enter Tryz.func10, Tryz.ntmps10
    go_wp2_with fail
    go_ret
    exact ⟨rfl, h2 _ _⟩

/-- check.Equal, one level: its answer out of the answers of what it calls. -/
theorem equal_step {w : World} {ru1 ru2 kk1 kk2 nn1 nn2 pr1 pr2 ve1 ve2 ek1 ek2 ef1 ef2 : Int} {nm1 nm2 ot1 ot2 en1 en2 em1 em2 : ByteArray} {g1 g2 eg1 eg2 : Bool} {a1 a2 c1 c2 ea1 ea2 ec1 ec2 es1 es2 po1 po2 ar1 ar2 ki1 ki2 : Value} {R X P B K : Bool}
    (hR : ∀ w1, Below w.heap.size w w1 → Calls Tryz.prog 25 #[.agg #[.bool g1, a1, c1], .agg #[.bool g2, a2, c2]] w1 fun e w' => e = .returned (.bool R) ∧ Below w1.heap.size w1 w')
    (hX : ∀ w1, Below w.heap.size w w1 → Calls Tryz.prog 26 #[.agg #[.int .i64 ek1, .int .i64 ef1, .bool eg1, ea1, ec1, .string em1, es1], .agg #[.int .i64 ek2, .int .i64 ef2, .bool eg2, ea2, ec2, .string em2, es2]] w1 fun e w' => e = .returned (.bool X) ∧ Below w1.heap.size w1 w')
    (hP : ∀ w1, Below w.heap.size w w1 → Calls Tryz.prog 29 #[po1, po2, .func (.func 27) #[] #[]] w1 fun e w' => e = .returned (.bool P) ∧ Below w1.heap.size w1 w')
    (hB : ∀ w1, Below w.heap.size w w1 → Calls Tryz.prog 30 #[ar1, ar2, .func (.func 28) #[] #[]] w1 fun e w' => e = .returned (.bool B) ∧ Below w1.heap.size w1 w')
    (hK : ∀ w1, Below w.heap.size w w1 → Calls Tryz.prog 31 #[ki1, ki2, .func (.func 10) #[] #[]] w1 fun e w' => e = .returned (.bool K) ∧ Below w1.heap.size w1 w') :
    Calls Tryz.prog 10 #[.agg #[.int .i64 ru1, .string nm1, .string ot1, .bool g1, a1, c1, .int .i64 kk1, .int .i64 nn1, .int .i64 pr1, .int .i64 ek1, .int .i64 ef1, .bool eg1, ea1, ec1, .string em1, es1, po1, .string en1, .int .i64 ve1, ar1, ki1], .agg #[.int .i64 ru2, .string nm2, .string ot2, .bool g2, a2, c2, .int .i64 kk2, .int .i64 nn2, .int .i64 pr2, .int .i64 ek2, .int .i64 ef2, .bool eg2, ea2, ec2, .string em2, es2, po2, .string en2, .int .i64 ve2, ar2, ki2]] w fun e w' => e = .returned (.bool ((decide (ru1 = ru2) && decide (nm1.toList = nm2.toList) && decide (ot1.toList = ot2.toList) && decide (en1.toList = en2.toList) && decide (ve1 = ve2)) && ((decide (kk1 = kk2) && decide (nn1 = nn2) && decide (pr1 = pr2)) && (R && (X && (P && (B && K))))))) ∧ Below w.heap.size w w' := by
  by_cases h : ru1 = ru2 ∧ nm1.toList = nm2.toList ∧ ot1.toList = ot2.toList ∧ en1.toList = en2.toList ∧ ve1 = ve2
  · have ht : (decide (ru1 = ru2) && decide (nm1.toList = nm2.toList) && decide (ot1.toList = ot2.toList) && decide (en1.toList = en2.toList) && decide (ve1 = ve2)) = true := by simp [h]
    rw [ht]
    obtain ⟨e1, e2, e3, e4, e5⟩ := h
    by_cases hn : kk1 = kk2 ∧ nn1 = nn2 ∧ pr1 = pr2
    · have hnt : (decide (kk1 = kk2) && decide (nn1 = nn2) && decide (pr1 = pr2)) = true := by simp [hn]
      rw [hnt]
      obtain ⟨e6, e7, e8⟩ := hn
      cases R with
      | false => exact equal_w1 hR e6 e7 e8 e1 e2 e3 e4 e5
      | true =>
        cases X with
        | false => exact equal_w2 hR hX e6 e7 e8 e1 e2 e3 e4 e5
        | true =>
          cases P with
          | false => exact equal_w3 hR hX hP e6 e7 e8 e1 e2 e3 e4 e5
          | true =>
            cases B with
            | false => exact equal_w4 hR hX hP hB e6 e7 e8 e1 e2 e3 e4 e5
            | true => exact equal_w5 hR hX hP hB hK e6 e7 e8 e1 e2 e3 e4 e5
    · have hnt : (decide (kk1 = kk2) && decide (nn1 = nn2) && decide (pr1 = pr2)) = false := by
        rw [Bool.eq_false_iff]
        intro hh
        simp only [Bool.and_eq_true, decide_eq_true_eq] at hh
        exact hn ⟨hh.1.1, hh.1.2, hh.2⟩
      rw [hnt]
      exact equal_nums hn e1 e2 e3 e4 e5
  · have ht : (decide (ru1 = ru2) && decide (nm1.toList = nm2.toList) && decide (ot1.toList = ot2.toList) && decide (en1.toList = en2.toList) && decide (ve1 = ve2)) = false := by
      rw [Bool.eq_false_iff]
      intro hh
      simp only [Bool.and_eq_true, decide_eq_true_eq] at hh
      exact h ⟨hh.1.1.1.1, hh.1.1.1.2, hh.1.1.2, hh.1.2, hh.2⟩
    rw [ht]
    exact equal_first h
end Go.Proofs.YtlmifjdbjhcceaaGreatDoor
