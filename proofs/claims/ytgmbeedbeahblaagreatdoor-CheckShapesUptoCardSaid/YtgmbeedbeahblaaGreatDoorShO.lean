/-
  The reference's Formed.
-/
import Derived.Test.YtgmbeedbeahblaaGreatDoorShN
namespace Go.Proofs.YtgmbeedbeahblaaGreatDoor
open Go Go.Proofs.YtgmbeedbeahblaaGreatDoor.Gx Go.RowKit

set_option maxRecDepth 100000 in
set_option maxHeartbeats 8000000 in
/-- The reference's Formed where there is no such rule. -/
theorem formedQ_none {w : World} {d : Sd} {pq rq : Option Addr} {nu de : List Int} {x : Ex} {ps : Nat → Pt} {bs : Nat → Bd} (h1 : Sl w (.slice d.aq d.an d.ac) nu) (h2 : Sl w (.slice d.cq d.cn d.cc) de) (ln : nu.length ≤ 1048576) (ld : de.length ≤ 1048576) (hX : ExOk w x d.e) (hP : PtsOk w pq d.pon ps) (hB : BdsOk w rq d.arn bs) (hno : d.s.ru < 1 ∨ 21 < d.s.ru) :
    Calls Tryz.prog 25 #[.agg #[.int .i64 d.s.ru, .string d.s.nm, .string d.s.ot, .bool d.s.g, .slice d.aq d.an d.ac, .slice d.cq d.cn d.cc, .int .i64 d.s.kk, .int .i64 d.s.nn, .int .i64 d.s.pr, .int .i64 d.e.k, .int .i64 d.e.f, .bool d.e.neg, .slice d.e.aq d.e.an d.e.ac, .slice d.e.cq d.e.cn d.e.cc, .string d.e.m, .slice d.e.sq d.e.sn d.e.sc, .slice pq d.pon d.poc, .string d.s.en, .int .i64 d.s.ve, .slice rq d.arn d.arc, .slice d.kiq d.kin d.kic]] w fun e w' => e = .returned (.bool false) ∧ Below w.heap.size w w' := by
  have hb0 : Hid (Below w.heap.size w (w.alloc (.cells #[.int .i64 d.s.ru, .string d.s.nm, .string d.s.ot, .bool d.s.g, .slice d.aq d.an d.ac, .slice d.cq d.cn d.cc, .int .i64 d.s.kk, .int .i64 d.s.nn, .int .i64 d.s.pr, .int .i64 d.e.k, .int .i64 d.e.f, .bool d.e.neg, .slice d.e.aq d.e.an d.e.ac, .slice d.e.cq d.e.cn d.e.cc, .string d.e.m, .slice d.e.sq d.e.sn d.e.sc, .slice pq d.pon d.poc, .string d.s.en, .int .i64 d.s.ve, .slice rq d.arn d.arc, .slice d.kiq d.kin d.kic] 32))) := below_alloc w _
  have h34 : Hid (∀ z, Below w.heap.size w z → Calls Tryz.prog 34 #[.int .i64 d.s.ru] z fun e w' => e = .returned (.string ⟨#[]⟩) ∧ Below z.heap.size z w') := fun z _ => rname_none hno z
  have hS0 : (fun z => z.cell? ⟨w.heap.size, 0, none⟩ = some (.int .i64 d.s.ru)) (w.alloc (.cells #[.int .i64 d.s.ru, .string d.s.nm, .string d.s.ot, .bool d.s.g, .slice d.aq d.an d.ac, .slice d.cq d.cn d.cc, .int .i64 d.s.kk, .int .i64 d.s.nn, .int .i64 d.s.pr, .int .i64 d.e.k, .int .i64 d.e.f, .bool d.e.neg, .slice d.e.aq d.e.an d.e.ac, .slice d.e.cq d.e.cn d.e.cc, .string d.e.m, .slice d.e.sq d.e.sn d.e.sc, .slice pq d.pon d.poc, .string d.s.en, .int .i64 d.s.ve, .slice rq d.arn d.arc, .slice d.kiq d.kin d.kic] 32)).drew := by simp
  have hsT : w.heap.size < (w.alloc (.cells #[.int .i64 d.s.ru, .string d.s.nm, .string d.s.ot, .bool d.s.g, .slice d.aq d.an d.ac, .slice d.cq d.cn d.cc, .int .i64 d.s.kk, .int .i64 d.s.nn, .int .i64 d.s.pr, .int .i64 d.e.k, .int .i64 d.e.f, .bool d.e.neg, .slice d.e.aq d.e.an d.e.ac, .slice d.e.cq d.e.cn d.e.cc, .string d.e.m, .slice d.e.sq d.e.sn d.e.sc, .slice pq d.pon d.poc, .string d.s.en, .int .i64 d.s.ve, .slice rq d.arn d.arc, .slice d.kiq d.kin d.kic] 32)).drew.heap.size := by simp
  clear h1 h2 hX hP hB hno ln ld
  go_enter Tryz.func25, Tryz.ntmps25
  go_upto_region 1 with fail
  generalize (w.alloc (.cells #[.int .i64 d.s.ru, .string d.s.nm, .string d.s.ot, .bool d.s.g, .slice d.aq d.an d.ac, .slice d.cq d.cn d.cc, .int .i64 d.s.kk, .int .i64 d.s.nn, .int .i64 d.s.pr, .int .i64 d.e.k, .int .i64 d.e.f, .bool d.e.neg, .slice d.e.aq d.e.an d.e.ac, .slice d.e.cq d.e.cn d.e.cc, .string d.e.m, .slice d.e.sq d.e.sn d.e.sc, .slice pq d.pon d.poc, .string d.s.en, .int .i64 d.s.ve, .slice rq d.arn d.arc, .slice d.kiq d.kin d.kic] 32)) = WW at *
  have hte : (⟨#[]⟩ : ByteArray).toList.isEmpty = true := by rw [ByteArray.toList_eq]; rfl
  refine wp_region_held_drew (S := (fun z => z.cell? ⟨w.heap.size, 0, none⟩ = some (.int .i64 d.s.ru))) (by kernel_rfl) hS0 (fun hHeld => ?_)
  refine wpAnyH_take (i := 0) (v := .pointer (some ⟨w.heap.size, 0, none⟩)) rfl (by kernel_rfl) (by kernel_rfl) (by kernel_rfl) (fun _ _ _ h => h) (.inl ⟨by rfl, fun z hSz => by go_simp⟩) hHeld ?_
  simp only [Act.put, List.getElem_toArray, List.getElem_cons_succ, List.getElem_cons_zero, List.setIfInBounds_toArray, List.set_cons_zero, List.set_cons_succ]
  refine wpAnyH_take (i := 1) (v := .int .i64 d.s.ru) rfl (by kernel_rfl) (by kernel_rfl) (by kernel_rfl) (fun _ _ _ h => h) (.inl ⟨by rfl, fun z hSz => by go_simp⟩) hHeld ?_
  simp only [Act.put, List.getElem_toArray, List.getElem_cons_succ, List.getElem_cons_zero, List.setIfInBounds_toArray, List.set_cons_zero, List.set_cons_succ]
  refine wpAnyH_ready (rs := [2]) (by kernel_rfl) (by simp) ?_
  refine AllReadyH.cons rfl (fun K hK => ?_) AllReadyH.nil
  go_simp
  refine (h34.out _ hb0.out.drew).mono ?_
  rintro e w5 ⟨rfl, hb5⟩
  have H5 : (fun z => z.cell? ⟨w.heap.size, 0, none⟩ = some (.int .i64 d.s.ru)) w5 := (hb5.cell (by exact hsT)).trans hS0
  have hw5 : Hid (Below w.heap.size w w5) := hb0.out.drew.trans (hb5.mono hb0.out.drew.size)
  refine hK.out _ _ H5 (fun hHeld5 => ?_)
  clear hK K hHeld
  refine wpAnyH_take (i := 3) (v := .bool true) rfl (by kernel_rfl) (by kernel_rfl) (by kernel_rfl) (fun _ _ _ h => h) (.inl ⟨by rfl, fun z hSz => by go_simp⟩) hHeld5 ?_
  simp only [Act.put, List.getElem_toArray, List.getElem_cons_succ, List.getElem_cons_zero, List.setIfInBounds_toArray, List.set_cons_zero, List.set_cons_succ]
  refine wpAnyH_take (i := 4) (v := .bool true) rfl (by kernel_rfl) (by kernel_rfl) (by kernel_rfl) (fun _ _ _ h => h) (.inl ⟨by rfl, fun z hSz => by go_simp⟩) hHeld5 ?_
  simp only [Act.put, List.getElem_toArray, List.getElem_cons_succ, List.getElem_cons_zero, List.setIfInBounds_toArray, List.set_cons_zero, List.set_cons_succ]
  refine wpAnyH_take (i := 5) (v := undef) rfl (by kernel_rfl) (by kernel_rfl) (by kernel_rfl) (fun _ _ _ h => h) (.inr ⟨by kernel_rfl, rfl⟩) hHeld5 ?_
  simp only [Act.put, List.getElem_toArray, List.getElem_cons_succ, List.getElem_cons_zero, List.setIfInBounds_toArray, List.set_cons_zero, List.set_cons_succ]
  refine wpAnyH_take (i := 6) (v := undef) rfl (by kernel_rfl) (by kernel_rfl) (by kernel_rfl) (fun _ _ _ h => h) (.inr ⟨by kernel_rfl, rfl⟩) hHeld5 ?_
  simp only [Act.put, List.getElem_toArray, List.getElem_cons_succ, List.getElem_cons_zero, List.setIfInBounds_toArray, List.set_cons_zero, List.set_cons_succ]
  refine wpAnyH_take (i := 7) (v := undef) rfl (by kernel_rfl) (by kernel_rfl) (by kernel_rfl) (fun _ _ _ h => h) (.inr ⟨by kernel_rfl, rfl⟩) hHeld5 ?_
  simp only [Act.put, List.getElem_toArray, List.getElem_cons_succ, List.getElem_cons_zero, List.setIfInBounds_toArray, List.set_cons_zero, List.set_cons_succ]
  refine wpAnyH_take (i := 8) (v := .bool true) rfl (by kernel_rfl) (by kernel_rfl) (by kernel_rfl) (fun _ _ _ h => h) (.inl ⟨by rfl, fun z hSz => by go_simp⟩) hHeld5 ?_
  simp only [Act.put, List.getElem_toArray, List.getElem_cons_succ, List.getElem_cons_zero, List.setIfInBounds_toArray, List.set_cons_zero, List.set_cons_succ]
  refine wpAnyH_take (i := 9) (v := .bool true) rfl (by kernel_rfl) (by kernel_rfl) (by kernel_rfl) (fun _ _ _ h => h) (.inl ⟨by rfl, fun z hSz => by go_simp⟩) hHeld5 ?_
  simp only [Act.put, List.getElem_toArray, List.getElem_cons_succ, List.getElem_cons_zero, List.setIfInBounds_toArray, List.set_cons_zero, List.set_cons_succ]
  refine wpAnyH_take (i := 10) (v := undef) rfl (by kernel_rfl) (by kernel_rfl) (by kernel_rfl) (fun _ _ _ h => h) (.inr ⟨by kernel_rfl, rfl⟩) hHeld5 ?_
  simp only [Act.put, List.getElem_toArray, List.getElem_cons_succ, List.getElem_cons_zero, List.setIfInBounds_toArray, List.set_cons_zero, List.set_cons_succ]
  refine wpAnyH_take (i := 11) (v := undef) rfl (by kernel_rfl) (by kernel_rfl) (by kernel_rfl) (fun _ _ _ h => h) (.inr ⟨by kernel_rfl, rfl⟩) hHeld5 ?_
  simp only [Act.put, List.getElem_toArray, List.getElem_cons_succ, List.getElem_cons_zero, List.setIfInBounds_toArray, List.set_cons_zero, List.set_cons_succ]
  refine wpAnyH_take (i := 12) (v := undef) rfl (by kernel_rfl) (by kernel_rfl) (by kernel_rfl) (fun _ _ _ h => h) (.inr ⟨by kernel_rfl, rfl⟩) hHeld5 ?_
  simp only [Act.put, List.getElem_toArray, List.getElem_cons_succ, List.getElem_cons_zero, List.setIfInBounds_toArray, List.set_cons_zero, List.set_cons_succ]
  refine wpAnyH_take (i := 13) (v := undef) rfl (by kernel_rfl) (by kernel_rfl) (by kernel_rfl) (fun _ _ _ h => h) (.inr ⟨by kernel_rfl, rfl⟩) hHeld5 ?_
  simp only [Act.put, List.getElem_toArray, List.getElem_cons_succ, List.getElem_cons_zero, List.setIfInBounds_toArray, List.set_cons_zero, List.set_cons_succ]
  refine wpAnyH_take (i := 14) (v := undef) rfl (by kernel_rfl) (by kernel_rfl) (by kernel_rfl) (fun _ _ _ h => h) (.inr ⟨by kernel_rfl, rfl⟩) hHeld5 ?_
  simp only [Act.put, List.getElem_toArray, List.getElem_cons_succ, List.getElem_cons_zero, List.setIfInBounds_toArray, List.set_cons_zero, List.set_cons_succ]
  refine wpAnyH_take (i := 15) (v := undef) rfl (by kernel_rfl) (by kernel_rfl) (by kernel_rfl) (fun _ _ _ h => h) (.inr ⟨by kernel_rfl, rfl⟩) hHeld5 ?_
  simp only [Act.put, List.getElem_toArray, List.getElem_cons_succ, List.getElem_cons_zero, List.setIfInBounds_toArray, List.set_cons_zero, List.set_cons_succ]
  refine wpAnyH_take (i := 16) (v := undef) rfl (by kernel_rfl) (by kernel_rfl) (by kernel_rfl) (fun _ _ _ h => h) (.inr ⟨by kernel_rfl, rfl⟩) hHeld5 ?_
  simp only [Act.put, List.getElem_toArray, List.getElem_cons_succ, List.getElem_cons_zero, List.setIfInBounds_toArray, List.set_cons_zero, List.set_cons_succ]
  refine wpAnyH_take (i := 17) (v := undef) rfl (by kernel_rfl) (by kernel_rfl) (by kernel_rfl) (fun _ _ _ h => h) (.inr ⟨by kernel_rfl, rfl⟩) hHeld5 ?_
  simp only [Act.put, List.getElem_toArray, List.getElem_cons_succ, List.getElem_cons_zero, List.setIfInBounds_toArray, List.set_cons_zero, List.set_cons_succ]
  refine wpAnyH_take (i := 18) (v := .bool true) rfl (by kernel_rfl) (by kernel_rfl) (by kernel_rfl) (fun _ _ _ h => h) (.inl ⟨by rfl, fun z hSz => by go_simp⟩) hHeld5 ?_
  simp only [Act.put, List.getElem_toArray, List.getElem_cons_succ, List.getElem_cons_zero, List.setIfInBounds_toArray, List.set_cons_zero, List.set_cons_succ]
  refine wpAnyH_take (i := 19) (v := .bool true) rfl (by kernel_rfl) (by kernel_rfl) (by kernel_rfl) (fun _ _ _ h => h) (.inl ⟨by rfl, fun z hSz => by go_simp⟩) hHeld5 ?_
  simp only [Act.put, List.getElem_toArray, List.getElem_cons_succ, List.getElem_cons_zero, List.setIfInBounds_toArray, List.set_cons_zero, List.set_cons_succ]
  refine wpAnyH_take (i := 20) (v := undef) rfl (by kernel_rfl) (by kernel_rfl) (by kernel_rfl) (fun _ _ _ h => h) (.inr ⟨by kernel_rfl, rfl⟩) hHeld5 ?_
  simp only [Act.put, List.getElem_toArray, List.getElem_cons_succ, List.getElem_cons_zero, List.setIfInBounds_toArray, List.set_cons_zero, List.set_cons_succ]
  refine wpAnyH_take (i := 21) (v := undef) rfl (by kernel_rfl) (by kernel_rfl) (by kernel_rfl) (fun _ _ _ h => h) (.inr ⟨by kernel_rfl, rfl⟩) hHeld5 ?_
  simp only [Act.put, List.getElem_toArray, List.getElem_cons_succ, List.getElem_cons_zero, List.setIfInBounds_toArray, List.set_cons_zero, List.set_cons_succ]
  refine wpAnyH_take (i := 22) (v := undef) rfl (by kernel_rfl) (by kernel_rfl) (by kernel_rfl) (fun _ _ _ h => h) (.inr ⟨by kernel_rfl, rfl⟩) hHeld5 ?_
  simp only [Act.put, List.getElem_toArray, List.getElem_cons_succ, List.getElem_cons_zero, List.setIfInBounds_toArray, List.set_cons_zero, List.set_cons_succ]
  refine wpAnyH_take (i := 23) (v := .bool true) rfl (by kernel_rfl) (by kernel_rfl) (by kernel_rfl) (fun _ _ _ h => h) (.inl ⟨by rfl, fun z hSz => by go_simp⟩) hHeld5 ?_
  simp only [Act.put, List.getElem_toArray, List.getElem_cons_succ, List.getElem_cons_zero, List.setIfInBounds_toArray, List.set_cons_zero, List.set_cons_succ]
  refine wpAnyH_done (by kernel_rfl) ?_ _
  clear hHeld5
  go_wp2_with fail
  go_ret
  exact ⟨rfl, hw5.out⟩

set_option maxRecDepth 100000 in
set_option maxHeartbeats 8000000 in
/-- The reference's Formed at a rule. -/
theorem formedQ_walk {q : KR} (hq : q ∈ kQ) {w : World} {d : Sd} {pq rq : Option Addr} {nu de : List Int} {x : Ex} {ps : Nat → Pt} {bs : Nat → Bd} (h1 : Sl w (.slice d.aq d.an d.ac) nu) (h2 : Sl w (.slice d.cq d.cn d.cc) de) (ln : nu.length ≤ 1048576) (ld : de.length ≤ 1048576) (hX : ExOk w x d.e) (hP : PtsOk w pq d.pon ps) (hB : BdsOk w rq d.arn bs) (hru : d.s.ru = q.n) {U UE : Bool} (hUE : decide ((101 : UInt8) ∈ q.fl) = UE)
    (h35 : Hid (∀ z, Below w.heap.size w z → Calls Tryz.prog 35 #[.agg #[.int .i64 d.s.ru, .string d.s.nm, .string d.s.ot, .bool d.s.g, .slice d.aq d.an d.ac, .slice d.cq d.cn d.cc, .int .i64 d.s.kk, .int .i64 d.s.nn, .int .i64 d.s.pr, .int .i64 d.e.k, .int .i64 d.e.f, .bool d.e.neg, .slice d.e.aq d.e.an d.e.ac, .slice d.e.cq d.e.cn d.e.cc, .string d.e.m, .slice d.e.sq d.e.sn d.e.sc, .slice pq d.pon d.poc, .string d.s.en, .int .i64 d.s.ve, .slice rq d.arn d.arc, .slice d.kiq d.kin d.kic]] z fun e w' => e = .returned (.bool U) ∧ Below z.heap.size z w')) :
    Calls Tryz.prog 25 #[.agg #[.int .i64 d.s.ru, .string d.s.nm, .string d.s.ot, .bool d.s.g, .slice d.aq d.an d.ac, .slice d.cq d.cn d.cc, .int .i64 d.s.kk, .int .i64 d.s.nn, .int .i64 d.s.pr, .int .i64 d.e.k, .int .i64 d.e.f, .bool d.e.neg, .slice d.e.aq d.e.an d.e.ac, .slice d.e.cq d.e.cn d.e.cc, .string d.e.m, .slice d.e.sq d.e.sn d.e.sc, .slice pq d.pon d.poc, .string d.s.en, .int .i64 d.s.ve, .slice rq d.arn d.arc, .slice d.kiq d.kin d.kic]] w fun e w' => e = .returned (.bool ((decide ((d.kin : Int) = q.k) && U) && contB UE (val nu) (val de) x d.pon ps d.arn bs)) ∧ Below w.heap.size w w' := by
  have hb0 : Hid (Below w.heap.size w (w.alloc (.cells #[.int .i64 d.s.ru, .string d.s.nm, .string d.s.ot, .bool d.s.g, .slice d.aq d.an d.ac, .slice d.cq d.cn d.cc, .int .i64 d.s.kk, .int .i64 d.s.nn, .int .i64 d.s.pr, .int .i64 d.e.k, .int .i64 d.e.f, .bool d.e.neg, .slice d.e.aq d.e.an d.e.ac, .slice d.e.cq d.e.cn d.e.cc, .string d.e.m, .slice d.e.sq d.e.sn d.e.sc, .slice pq d.pon d.poc, .string d.s.en, .int .i64 d.s.ve, .slice rq d.arn d.arc, .slice d.kiq d.kin d.kic] 32))) := below_alloc w _
  have h34 : Hid (∀ z, Below w.heap.size w z → Calls Tryz.prog 34 #[.int .i64 d.s.ru] z fun e w' => e = .returned (.string ⟨q.nm.toArray⟩) ∧ Below z.heap.size z w') := fun z _ => by
    rw [hru]; exact rname_ok hq z
  have h36 : Hid (∀ z, Below w.heap.size w z → Calls Tryz.prog 36 #[.int .i64 d.s.ru] z fun e w' => e = .returned (.agg #[.string ⟨q.nm.toArray⟩, .string ⟨q.fl.toArray⟩, .int .i64 q.k]) ∧ Below z.heap.size z w') := fun z _ => by
    rw [hru]; exact row_ok hq z
  obtain ⟨L, hL⟩ : ∃ L, Hid (large (val nu) (val de) = L) := ⟨_, rfl⟩
  have h37 : Hid (∀ z, Below w.heap.size w z → Calls Tryz.prog 37 #[.agg #[.bool d.s.g, .slice d.aq d.an d.ac, .slice d.cq d.cn d.cc]] z fun e w' => e = .returned (.bool L) ∧ Below z.heap.size z w') := fun z hz => by
    rw [← hL.out]
    exact largeQ_ok (h1.below hz) (h2.below hz) (by omega) (by omega)
  have h38 : Hid (∀ z, Calls Tryz.prog 38 #[.int .i64 d.s.ru, .int .u8 101] z fun e w' => e = .returned (.bool UE) ∧ Below z.heap.size z w') := fun z => by
    rw [← hUE, hru]; exact rusesQ_ok hq (c := 101) (by decide) z
  obtain ⟨V, hV⟩ : ∃ V, Hid ((x.cnt 1 0).isSome = V) := ⟨_, rfl⟩
  have h39 : Hid (∀ z, Below w.heap.size w z → Calls Tryz.prog 39 #[.agg #[.int .i64 d.e.k, .int .i64 d.e.f, .bool d.e.neg, .slice d.e.aq d.e.an d.e.ac, .slice d.e.cq d.e.cn d.e.cc, .string d.e.m, .slice d.e.sq d.e.sn d.e.sc]] z fun e w' => e = .returned (.bool V) ∧ Below z.heap.size z w') := fun z hz => by
    rw [← hV.out]
    exact qValid_ok (hX.below hz)
  have hne : q.nm.isEmpty = false := by
    have := name_ne q hq
    cases hn : q.nm with
    | nil => exact absurd hn this
    | cons a l => rfl
  have hfd : ∀ w : World, (Instr.field 87 (.agg #[.string ⟨q.nm.toArray⟩, .string ⟨q.fl.toArray⟩, .int .i64 q.k]) 2).run Tryz.prog w = .ok (.int .i64 q.k) w := fun _ => by kernel_rfl
  have hP' : Hid (PtsOk w pq d.pon ps) := hP
  have hB' : Hid (BdsOk w rq d.arn bs) := hB
  obtain ⟨R, hR⟩ : ∃ R, Hid (((decide ((d.kin : Int) = q.k) && U) && contB UE (val nu) (val de) x d.pon ps d.arn bs) = R) := ⟨_, rfl⟩
  rw [hR.out]
  have hR1 : Hid (∀ i, i < d.pon → ptB (ps i) = false → R = false) := fun i hi h => by rw [← hR.out]; unfold contB; rw [all_bad hi h]; simp
  have hR2 : Hid (∀ i, i < d.arn → bdB (bs i) = false → R = false) := fun i hi h => by rw [← hR.out]; unfold contB; rw [all_bad (f := fun i => bdB (bs i)) hi h]; simp
  obtain ⟨G1, hG1⟩ : ∃ G, Hid ((!((decide ((d.kin : Int) = q.k) && U) && !L)) = G) := ⟨_, rfl⟩
  obtain ⟨G2, hG2⟩ : ∃ G, Hid ((!(decide (d.pon ≤ 6) && (decide (d.arn ≤ 6) && (!UE || V)))) = G) := ⟨_, rfl⟩
  have hR01 : Hid (G1 = true → R = false) := fun h => by
    have hg := hG1.out
    rw [h, Bool.not_eq_true'] at hg
    rw [← hR.out]; unfold contB; rw [hL.out, hV.out]
    revert hg
    cases decide ((d.kin : Int) = q.k) <;> cases U <;> cases L <;> simp
  have hR02 : Hid (G2 = true → R = false) := fun h => by
    have hg := hG2.out
    rw [h, Bool.not_eq_true'] at hg
    rw [← hR.out]; unfold contB; rw [hL.out, hV.out]
    revert hg
    cases decide (d.pon ≤ 6) <;> cases decide (d.arn ≤ 6) <;> cases UE <;> cases V <;> simp
  have hR30 : Hid (G1 = false → G2 = false → (∀ j, j < d.pon → ptB (ps j) = true) → (∀ j, j < d.arn → bdB (bs j) = true) → R = true) := fun h h' hp hq => by
    have hg := hG1.out
    have hg' := hG2.out
    rw [h, Bool.not_eq_false'] at hg
    rw [h', Bool.not_eq_false'] at hg'
    rw [← hR.out]; unfold contB; rw [hL.out, hV.out, all_good hp, all_good hq]
    revert hg hg'
    cases decide ((d.kin : Int) = q.k) <;> cases U <;> cases L <;> cases decide (d.pon ≤ 6) <;> cases decide (d.arn ≤ 6) <;> cases UE <;> cases V <;> simp
  obtain ⟨cs, hcs⟩ : ∃ c : List Value, Hid (([.int .i64 d.s.ru, .string d.s.nm, .string d.s.ot, .bool d.s.g, .slice d.aq d.an d.ac, .slice d.cq d.cn d.cc, .int .i64 d.s.kk, .int .i64 d.s.nn, .int .i64 d.s.pr, .int .i64 d.e.k, .int .i64 d.e.f, .bool d.e.neg, .slice d.e.aq d.e.an d.e.ac, .slice d.e.cq d.e.cn d.e.cc, .string d.e.m, .slice d.e.sq d.e.sn d.e.sc, .slice pq d.pon d.poc, .string d.s.en, .int .i64 d.s.ve, .slice rq d.arn d.arc, .slice d.kiq d.kin d.kic] : List Value) = c) := ⟨_, rfl⟩
  have lx : Hid (cs.length = 21) := by
    show cs.length = 21
    rw [← hcs.out]; rfl
  have h35c : Hid (∀ z, Below w.heap.size w z → Calls Tryz.prog 35 #[.agg cs.toArray] z fun e w' => e = .returned (.bool U) ∧ Below z.heap.size z w') := by
    rw [← hcs.out]; exact h35
  have hS0 : (fun z => z.rangeAt w.heap.size 0 cs ∧ z.cell? ⟨w.heap.size, 0, none⟩ = some (.int .i64 d.s.ru) ∧ z.cell? ⟨w.heap.size, 3, none⟩ = some (.bool d.s.g) ∧ z.cell? ⟨w.heap.size, 4, none⟩ = some (.slice d.aq d.an d.ac) ∧ z.cell? ⟨w.heap.size, 5, none⟩ = some (.slice d.cq d.cn d.cc) ∧ z.cell? ⟨w.heap.size, 20, none⟩ = some (.slice d.kiq d.kin d.kic)) (w.alloc (.cells #[.int .i64 d.s.ru, .string d.s.nm, .string d.s.ot, .bool d.s.g, .slice d.aq d.an d.ac, .slice d.cq d.cn d.cc, .int .i64 d.s.kk, .int .i64 d.s.nn, .int .i64 d.s.pr, .int .i64 d.e.k, .int .i64 d.e.f, .bool d.e.neg, .slice d.e.aq d.e.an d.e.ac, .slice d.e.cq d.e.cn d.e.cc, .string d.e.m, .slice d.e.sq d.e.sn d.e.sc, .slice pq d.pon d.poc, .string d.s.en, .int .i64 d.s.ve, .slice rq d.arn d.arc, .slice d.kiq d.kin d.kic] 32)) := ⟨by rw [← hcs.out]; exact range_new w [.int .i64 d.s.ru, .string d.s.nm, .string d.s.ot, .bool d.s.g, .slice d.aq d.an d.ac, .slice d.cq d.cn d.cc, .int .i64 d.s.kk, .int .i64 d.s.nn, .int .i64 d.s.pr, .int .i64 d.e.k, .int .i64 d.e.f, .bool d.e.neg, .slice d.e.aq d.e.an d.e.ac, .slice d.e.cq d.e.cn d.e.cc, .string d.e.m, .slice d.e.sq d.e.sn d.e.sc, .slice pq d.pon d.poc, .string d.s.en, .int .i64 d.s.ve, .slice rq d.arn d.arc, .slice d.kiq d.kin d.kic] 32, by simp, by simp, by simp, by simp, by simp⟩
  obtain ⟨dst, hust, hdst⟩ := st_row
  have hust' : Hid (Tryz.prog.underlying 32 = some dst) := hust
  clear hust
  have hsT : w.heap.size < (w.alloc (.cells #[.int .i64 d.s.ru, .string d.s.nm, .string d.s.ot, .bool d.s.g, .slice d.aq d.an d.ac, .slice d.cq d.cn d.cc, .int .i64 d.s.kk, .int .i64 d.s.nn, .int .i64 d.s.pr, .int .i64 d.e.k, .int .i64 d.e.f, .bool d.e.neg, .slice d.e.aq d.e.an d.e.ac, .slice d.e.cq d.e.cn d.e.cc, .string d.e.m, .slice d.e.sq d.e.sn d.e.sc, .slice pq d.pon d.poc, .string d.s.en, .int .i64 d.s.ve, .slice rq d.arn d.arc, .slice d.kiq d.kin d.kic] 32)).drew.heap.size := by simp
  have hG1' : Hid (U = false → G1 = true) := fun h => by rw [← hG1.out, h]; simp
  have hG1'' : Hid (¬ (d.kin : Int) = q.k → G1 = true) := fun h => by rw [← hG1.out, decide_eq_false h]; rfl
  have hG1L : Hid (U = true → (d.kin : Int) = q.k → G1 = L) := fun h h' => by rw [← hG1.out, h, decide_eq_true h']; simp
  have hG2u : Hid (UE = true → V = false → G2 = true) := fun h h' => by rw [← hG2.out, h, h']; simp
  have hG2p : Hid (¬ d.pon ≤ 6 → G2 = true) := fun h => by rw [← hG2.out, decide_eq_false h]; rfl
  have hG2a : Hid (¬ d.arn ≤ 6 → G2 = true) := fun h => by rw [← hG2.out, decide_eq_false h]; simp
  have hG2t : Hid (UE = false ∨ V = true → d.pon ≤ 6 → d.arn ≤ 6 → G2 = false) := fun h h2 h3 => by
    rw [← hG2.out, decide_eq_true h2, decide_eq_true h3]
    rcases h with h | h <;> simp [h]
  have hlp : Hid (∀ (dd : Va) (p : Pt) z, PtOk z p dd → Calls Tryz.prog 37 #[.agg #[.bool dd.g, .slice dd.aq dd.an dd.ac, .slice dd.cq dd.cn dd.cc]] z fun e w' => e = .returned (.bool (!ptB p)) ∧ Below z.heap.size z w') := fun dd p z h => by
    have := largeQ_ok (g := dd.g) h.2.2.1 h.2.2.2.1 (by have := h.2.2.2.2.1; omega) (by have := h.2.2.2.2.2; omega)
    rw [show large (val p.nu) (val p.de) = !ptB p by unfold ptB; simp] at this
    exact this
  clear h1 h2 hX hP hB hru hUE hR hG1 hG2 hL hV ln ld hq
  go_enter Tryz.func25, Tryz.ntmps25
  go_upto_region 1 with fail
  have hcw : Hid (∀ z, Below (w.alloc (.cells #[.int .i64 d.s.ru, .string d.s.nm, .string d.s.ot, .bool d.s.g, .slice d.aq d.an d.ac, .slice d.cq d.cn d.cc, .int .i64 d.s.kk, .int .i64 d.s.nn, .int .i64 d.s.pr, .int .i64 d.e.k, .int .i64 d.e.f, .bool d.e.neg, .slice d.e.aq d.e.an d.e.ac, .slice d.e.cq d.e.cn d.e.cc, .string d.e.m, .slice d.e.sq d.e.sn d.e.sc, .slice pq d.pon d.poc, .string d.s.en, .int .i64 d.s.ve, .slice rq d.arn d.arc, .slice d.kiq d.kin d.kic] 32)).heap.size (w.alloc (.cells #[.int .i64 d.s.ru, .string d.s.nm, .string d.s.ot, .bool d.s.g, .slice d.aq d.an d.ac, .slice d.cq d.cn d.cc, .int .i64 d.s.kk, .int .i64 d.s.nn, .int .i64 d.s.pr, .int .i64 d.e.k, .int .i64 d.e.f, .bool d.e.neg, .slice d.e.aq d.e.an d.e.ac, .slice d.e.cq d.e.cn d.e.cc, .string d.e.m, .slice d.e.sq d.e.sn d.e.sc, .slice pq d.pon d.poc, .string d.s.en, .int .i64 d.s.ve, .slice rq d.arn d.arc, .slice d.kiq d.kin d.kic] 32)) z → z.cell? ⟨w.heap.size, 0, none⟩ = some (.int .i64 d.s.ru) ∧ z.cell? ⟨w.heap.size, 9, none⟩ = some (.int .i64 d.e.k) ∧ z.cell? ⟨w.heap.size, 10, none⟩ = some (.int .i64 d.e.f) ∧ z.cell? ⟨w.heap.size, 11, none⟩ = some (.bool d.e.neg) ∧ z.cell? ⟨w.heap.size, 12, none⟩ = some (.slice d.e.aq d.e.an d.e.ac) ∧ z.cell? ⟨w.heap.size, 13, none⟩ = some (.slice d.e.cq d.e.cn d.e.cc) ∧ z.cell? ⟨w.heap.size, 14, none⟩ = some (.string d.e.m) ∧ z.cell? ⟨w.heap.size, 15, none⟩ = some (.slice d.e.sq d.e.sn d.e.sc) ∧ z.cell? ⟨w.heap.size, 16, none⟩ = some (.slice pq d.pon d.poc) ∧ z.cell? ⟨w.heap.size, 19, none⟩ = some (.slice rq d.arn d.arc)) := fun z hz => ⟨(hz.cell (by show w.heap.size < _; simp)).trans (by simp), (hz.cell (by show w.heap.size < _; simp)).trans (by simp), (hz.cell (by show w.heap.size < _; simp)).trans (by simp), (hz.cell (by show w.heap.size < _; simp)).trans (by simp), (hz.cell (by show w.heap.size < _; simp)).trans (by simp), (hz.cell (by show w.heap.size < _; simp)).trans (by simp), (hz.cell (by show w.heap.size < _; simp)).trans (by simp), (hz.cell (by show w.heap.size < _; simp)).trans (by simp), (hz.cell (by show w.heap.size < _; simp)).trans (by simp), (hz.cell (by show w.heap.size < _; simp)).trans (by simp)⟩
  obtain ⟨WW, hWW⟩ : ∃ z, Hid ((w.alloc (.cells #[.int .i64 d.s.ru, .string d.s.nm, .string d.s.ot, .bool d.s.g, .slice d.aq d.an d.ac, .slice d.cq d.cn d.cc, .int .i64 d.s.kk, .int .i64 d.s.nn, .int .i64 d.s.pr, .int .i64 d.e.k, .int .i64 d.e.f, .bool d.e.neg, .slice d.e.aq d.e.an d.e.ac, .slice d.e.cq d.e.cn d.e.cc, .string d.e.m, .slice d.e.sq d.e.sn d.e.sc, .slice pq d.pon d.poc, .string d.s.en, .int .i64 d.s.ve, .slice rq d.arn d.arc, .slice d.kiq d.kin d.kic] 32)) = z) := ⟨_, rfl⟩
  rw [hWW.out] at hcw hS0 hb0 hsT
  simp only [hWW.out]
  have hbW := hb0
  have hSW := hS0
  clear hS0 hWW hb0
  go_cut [30] from 7 to 30 (fun v wx => v = .bool G1 ∧ Hid (Below WW.heap.size WW wx))
  case first =>
    clear hcw hR1 hR2 hR01 hR02 hR30 hlp hG2u hG2p hG2a hG2t h38 h39
    cases U with
    | false =>
      have hg : Hid (G1 = true) := hG1'.out rfl
      clear hG1' hG1'' hG1L
      refine wp_region_held_drew (S := (fun z => z.rangeAt w.heap.size 0 cs ∧ z.cell? ⟨w.heap.size, 0, none⟩ = some (.int .i64 d.s.ru) ∧ z.cell? ⟨w.heap.size, 3, none⟩ = some (.bool d.s.g) ∧ z.cell? ⟨w.heap.size, 4, none⟩ = some (.slice d.aq d.an d.ac) ∧ z.cell? ⟨w.heap.size, 5, none⟩ = some (.slice d.cq d.cn d.cc) ∧ z.cell? ⟨w.heap.size, 20, none⟩ = some (.slice d.kiq d.kin d.kic))) (by kernel_rfl) hSW (fun hHeld => ?_)
      refine wpAnyH_take (i := 0) (v := .pointer (some ⟨w.heap.size, 0, none⟩)) rfl (by kernel_rfl) (by kernel_rfl) (by kernel_rfl) (fun _ _ _ h => h) (.inl ⟨by rfl, fun z hSz => by go_simp⟩) hHeld ?_
      simp only [Act.put, List.getElem_toArray, List.getElem_cons_succ, List.getElem_cons_zero, List.setIfInBounds_toArray, List.set_cons_zero, List.set_cons_succ]
      refine wpAnyH_take (i := 1) (v := .int .i64 d.s.ru) rfl (by kernel_rfl) (by kernel_rfl) (by kernel_rfl) (fun _ _ _ h => h) (.inl ⟨by rfl, fun z hSz => by go_simp⟩) hHeld ?_
      simp only [Act.put, List.getElem_toArray, List.getElem_cons_succ, List.getElem_cons_zero, List.setIfInBounds_toArray, List.set_cons_zero, List.set_cons_succ]
      refine wpAnyH_ready (rs := [2]) (by kernel_rfl) (by simp) ?_
      refine AllReadyH.cons rfl (fun K hK => ?_) AllReadyH.nil
      go_simp
      refine (h34.out _ hbW.out.drew).mono ?_
      rintro e w5 ⟨rfl, hb5⟩
      have H5 : (fun z => z.rangeAt w.heap.size 0 cs ∧ z.cell? ⟨w.heap.size, 0, none⟩ = some (.int .i64 d.s.ru) ∧ z.cell? ⟨w.heap.size, 3, none⟩ = some (.bool d.s.g) ∧ z.cell? ⟨w.heap.size, 4, none⟩ = some (.slice d.aq d.an d.ac) ∧ z.cell? ⟨w.heap.size, 5, none⟩ = some (.slice d.cq d.cn d.cc) ∧ z.cell? ⟨w.heap.size, 20, none⟩ = some (.slice d.kiq d.kin d.kic)) w5 := ⟨rangeAt_below ((World.rangeAt_drew _ _ _ _).2 hSW.1) hb5 hsT, (hb5.cell (by exact hsT)).trans hSW.2.1, (hb5.cell (by exact hsT)).trans hSW.2.2.1, (hb5.cell (by exact hsT)).trans hSW.2.2.2.1, (hb5.cell (by exact hsT)).trans hSW.2.2.2.2.1, (hb5.cell (by exact hsT)).trans hSW.2.2.2.2.2⟩
      have hs5 : w.heap.size < w5.heap.size := Nat.lt_of_lt_of_le hsT hb5.size
      have hw5 : Hid (Below w.heap.size w w5) := hbW.out.drew.trans (hb5.mono hbW.out.drew.size)
      have hT5 : Hid (Below WW.heap.size WW w5) := (Below.refl _ _).drew.trans hb5
      refine hK.out _ _ H5 (fun hHeld5 => ?_)
      clear hK K hHeld
      refine wpAnyH_take (i := 3) (v := .bool false) rfl (by kernel_rfl) (by kernel_rfl) (by kernel_rfl) (fun _ _ _ h => h) (.inl ⟨by rfl, fun z hSz => by go_simp⟩) hHeld5 ?_
      simp only [Act.put, List.getElem_toArray, List.getElem_cons_succ, List.getElem_cons_zero, List.setIfInBounds_toArray, List.set_cons_zero, List.set_cons_succ]
      refine wpAnyH_take (i := 4) (v := .bool false) rfl (by kernel_rfl) (by kernel_rfl) (by kernel_rfl) (fun _ _ _ h => h) (.inl ⟨by rfl, fun z hSz => by go_simp⟩) hHeld5 ?_
      simp only [Act.put, List.getElem_toArray, List.getElem_cons_succ, List.getElem_cons_zero, List.setIfInBounds_toArray, List.set_cons_zero, List.set_cons_succ]
      refine wpAnyH_take (i := 5) (v := .agg cs.toArray) rfl (by kernel_rfl) (by kernel_rfl) (by kernel_rfl) (fun _ _ _ h => h) (yieldsIf_load_mid (by kernel_rfl) 32 (.tmp 1) rfl w.heap.size 0 (by kernel_rfl) cs dst (fun z hz => hz.1) hust'.out hdst (by rw [lx.out]; exact st_size)) hHeld5 ?_
      simp only [Act.put, List.getElem_toArray, List.getElem_cons_succ, List.getElem_cons_zero, List.setIfInBounds_toArray, List.set_cons_zero, List.set_cons_succ]
      refine wpAnyH_ready (rs := [6]) (by kernel_rfl) (by simp) ?_
      refine AllReadyH.cons rfl (fun K hK => ?_) AllReadyH.nil
      go_simp
      refine (h35c.out _ hw5.out).mono ?_
      rintro e w6 ⟨rfl, hb6⟩
      have H6 : (fun z => z.rangeAt w.heap.size 0 cs ∧ z.cell? ⟨w.heap.size, 0, none⟩ = some (.int .i64 d.s.ru) ∧ z.cell? ⟨w.heap.size, 3, none⟩ = some (.bool d.s.g) ∧ z.cell? ⟨w.heap.size, 4, none⟩ = some (.slice d.aq d.an d.ac) ∧ z.cell? ⟨w.heap.size, 5, none⟩ = some (.slice d.cq d.cn d.cc) ∧ z.cell? ⟨w.heap.size, 20, none⟩ = some (.slice d.kiq d.kin d.kic)) w6 := ⟨rangeAt_below H5.1 hb6 hs5, (hb6.cell (by exact hs5)).trans H5.2.1, (hb6.cell (by exact hs5)).trans H5.2.2.1, (hb6.cell (by exact hs5)).trans H5.2.2.2.1, (hb6.cell (by exact hs5)).trans H5.2.2.2.2.1, (hb6.cell (by exact hs5)).trans H5.2.2.2.2.2⟩
      have hs6 : w.heap.size < w6.heap.size := Nat.lt_of_lt_of_le hs5 hb6.size
      have hw6 : Hid (Below w.heap.size w w6) := hw5.out.trans (hb6.mono hw5.out.size)
      have hT6 : Hid (Below WW.heap.size WW w6) := hT5.out.trans (hb6.mono hT5.out.size)
      refine hK.out _ _ H6 (fun hHeld6 => ?_)
      clear hK K hHeld5
      refine wpAnyH_take (i := 7) (v := .bool true) rfl (by kernel_rfl) (by kernel_rfl) (by kernel_rfl) (fun _ _ _ h => h) (.inl ⟨by rfl, fun z hSz => by go_simp⟩) hHeld6 ?_
      simp only [Act.put, List.getElem_toArray, List.getElem_cons_succ, List.getElem_cons_zero, List.setIfInBounds_toArray, List.set_cons_zero, List.set_cons_succ]
      refine wpAnyH_take (i := 8) (v := .bool true) rfl (by kernel_rfl) (by kernel_rfl) (by kernel_rfl) (fun _ _ _ h => h) (.inl ⟨by rfl, fun z hSz => by go_simp⟩) hHeld6 ?_
      simp only [Act.put, List.getElem_toArray, List.getElem_cons_succ, List.getElem_cons_zero, List.setIfInBounds_toArray, List.set_cons_zero, List.set_cons_succ]
      refine wpAnyH_take (i := 9) (v := .bool true) rfl (by kernel_rfl) (by kernel_rfl) (by kernel_rfl) (fun _ _ _ h => h) (.inl ⟨by rfl, fun z hSz => by go_simp⟩) hHeld6 ?_
      simp only [Act.put, List.getElem_toArray, List.getElem_cons_succ, List.getElem_cons_zero, List.setIfInBounds_toArray, List.set_cons_zero, List.set_cons_succ]
      refine wpAnyH_take (i := 10) (v := undef) rfl (by kernel_rfl) (by kernel_rfl) (by kernel_rfl) (fun _ _ _ h => h) (.inr ⟨by kernel_rfl, rfl⟩) hHeld6 ?_
      simp only [Act.put, List.getElem_toArray, List.getElem_cons_succ, List.getElem_cons_zero, List.setIfInBounds_toArray, List.set_cons_zero, List.set_cons_succ]
      refine wpAnyH_take (i := 11) (v := undef) rfl (by kernel_rfl) (by kernel_rfl) (by kernel_rfl) (fun _ _ _ h => h) (.inr ⟨by kernel_rfl, rfl⟩) hHeld6 ?_
      simp only [Act.put, List.getElem_toArray, List.getElem_cons_succ, List.getElem_cons_zero, List.setIfInBounds_toArray, List.set_cons_zero, List.set_cons_succ]
      refine wpAnyH_take (i := 12) (v := undef) rfl (by kernel_rfl) (by kernel_rfl) (by kernel_rfl) (fun _ _ _ h => h) (.inr ⟨by kernel_rfl, rfl⟩) hHeld6 ?_
      simp only [Act.put, List.getElem_toArray, List.getElem_cons_succ, List.getElem_cons_zero, List.setIfInBounds_toArray, List.set_cons_zero, List.set_cons_succ]
      refine wpAnyH_take (i := 13) (v := undef) rfl (by kernel_rfl) (by kernel_rfl) (by kernel_rfl) (fun _ _ _ h => h) (.inr ⟨by kernel_rfl, rfl⟩) hHeld6 ?_
      simp only [Act.put, List.getElem_toArray, List.getElem_cons_succ, List.getElem_cons_zero, List.setIfInBounds_toArray, List.set_cons_zero, List.set_cons_succ]
      refine wpAnyH_take (i := 14) (v := undef) rfl (by kernel_rfl) (by kernel_rfl) (by kernel_rfl) (fun _ _ _ h => h) (.inr ⟨by kernel_rfl, rfl⟩) hHeld6 ?_
      simp only [Act.put, List.getElem_toArray, List.getElem_cons_succ, List.getElem_cons_zero, List.setIfInBounds_toArray, List.set_cons_zero, List.set_cons_succ]
      refine wpAnyH_take (i := 15) (v := undef) rfl (by kernel_rfl) (by kernel_rfl) (by kernel_rfl) (fun _ _ _ h => h) (.inr ⟨by kernel_rfl, rfl⟩) hHeld6 ?_
      simp only [Act.put, List.getElem_toArray, List.getElem_cons_succ, List.getElem_cons_zero, List.setIfInBounds_toArray, List.set_cons_zero, List.set_cons_succ]
      refine wpAnyH_take (i := 16) (v := undef) rfl (by kernel_rfl) (by kernel_rfl) (by kernel_rfl) (fun _ _ _ h => h) (.inr ⟨by kernel_rfl, rfl⟩) hHeld6 ?_
      simp only [Act.put, List.getElem_toArray, List.getElem_cons_succ, List.getElem_cons_zero, List.setIfInBounds_toArray, List.set_cons_zero, List.set_cons_succ]
      refine wpAnyH_take (i := 17) (v := undef) rfl (by kernel_rfl) (by kernel_rfl) (by kernel_rfl) (fun _ _ _ h => h) (.inr ⟨by kernel_rfl, rfl⟩) hHeld6 ?_
      simp only [Act.put, List.getElem_toArray, List.getElem_cons_succ, List.getElem_cons_zero, List.setIfInBounds_toArray, List.set_cons_zero, List.set_cons_succ]
      refine wpAnyH_take (i := 18) (v := .bool true) rfl (by kernel_rfl) (by kernel_rfl) (by kernel_rfl) (fun _ _ _ h => h) (.inl ⟨by rfl, fun z hSz => by go_simp⟩) hHeld6 ?_
      simp only [Act.put, List.getElem_toArray, List.getElem_cons_succ, List.getElem_cons_zero, List.setIfInBounds_toArray, List.set_cons_zero, List.set_cons_succ]
      refine wpAnyH_take (i := 19) (v := .bool true) rfl (by kernel_rfl) (by kernel_rfl) (by kernel_rfl) (fun _ _ _ h => h) (.inl ⟨by rfl, fun z hSz => by go_simp⟩) hHeld6 ?_
      simp only [Act.put, List.getElem_toArray, List.getElem_cons_succ, List.getElem_cons_zero, List.setIfInBounds_toArray, List.set_cons_zero, List.set_cons_succ]
      refine wpAnyH_take (i := 20) (v := undef) rfl (by kernel_rfl) (by kernel_rfl) (by kernel_rfl) (fun _ _ _ h => h) (.inr ⟨by kernel_rfl, rfl⟩) hHeld6 ?_
      simp only [Act.put, List.getElem_toArray, List.getElem_cons_succ, List.getElem_cons_zero, List.setIfInBounds_toArray, List.set_cons_zero, List.set_cons_succ]
      refine wpAnyH_take (i := 21) (v := undef) rfl (by kernel_rfl) (by kernel_rfl) (by kernel_rfl) (fun _ _ _ h => h) (.inr ⟨by kernel_rfl, rfl⟩) hHeld6 ?_
      simp only [Act.put, List.getElem_toArray, List.getElem_cons_succ, List.getElem_cons_zero, List.setIfInBounds_toArray, List.set_cons_zero, List.set_cons_succ]
      refine wpAnyH_take (i := 22) (v := undef) rfl (by kernel_rfl) (by kernel_rfl) (by kernel_rfl) (fun _ _ _ h => h) (.inr ⟨by kernel_rfl, rfl⟩) hHeld6 ?_
      simp only [Act.put, List.getElem_toArray, List.getElem_cons_succ, List.getElem_cons_zero, List.setIfInBounds_toArray, List.set_cons_zero, List.set_cons_succ]
      refine wpAnyH_take (i := 23) (v := .bool true) rfl (by kernel_rfl) (by kernel_rfl) (by kernel_rfl) (fun _ _ _ h => h) (.inl ⟨by rfl, fun z hSz => by go_simp⟩) hHeld6 ?_
      simp only [Act.put, List.getElem_toArray, List.getElem_cons_succ, List.getElem_cons_zero, List.setIfInBounds_toArray, List.set_cons_zero, List.set_cons_succ]
      refine wpAnyH_done (by kernel_rfl) ?_ _
      clear hHeld6
      go_wp2_with fail
      go_meet
      case rel => exact ⟨by rw [hg.out], hT6⟩
    | true =>
      by_cases hk : (d.kin : Int) = q.k
      · have hg : Hid (G1 = L) := hG1L.out rfl hk
        have hkk : ((d.kin : Int) != q.k) = false := by simp [hk]
        clear hG1' hG1'' hG1L hk
        refine wp_region_held_drew (S := (fun z => z.rangeAt w.heap.size 0 cs ∧ z.cell? ⟨w.heap.size, 0, none⟩ = some (.int .i64 d.s.ru) ∧ z.cell? ⟨w.heap.size, 3, none⟩ = some (.bool d.s.g) ∧ z.cell? ⟨w.heap.size, 4, none⟩ = some (.slice d.aq d.an d.ac) ∧ z.cell? ⟨w.heap.size, 5, none⟩ = some (.slice d.cq d.cn d.cc) ∧ z.cell? ⟨w.heap.size, 20, none⟩ = some (.slice d.kiq d.kin d.kic))) (by kernel_rfl) hSW (fun hHeld => ?_)
        refine wpAnyH_take (i := 0) (v := .pointer (some ⟨w.heap.size, 0, none⟩)) rfl (by kernel_rfl) (by kernel_rfl) (by kernel_rfl) (fun _ _ _ h => h) (.inl ⟨by rfl, fun z hSz => by go_simp⟩) hHeld ?_
        simp only [Act.put, List.getElem_toArray, List.getElem_cons_succ, List.getElem_cons_zero, List.setIfInBounds_toArray, List.set_cons_zero, List.set_cons_succ]
        refine wpAnyH_take (i := 1) (v := .int .i64 d.s.ru) rfl (by kernel_rfl) (by kernel_rfl) (by kernel_rfl) (fun _ _ _ h => h) (.inl ⟨by rfl, fun z hSz => by go_simp⟩) hHeld ?_
        simp only [Act.put, List.getElem_toArray, List.getElem_cons_succ, List.getElem_cons_zero, List.setIfInBounds_toArray, List.set_cons_zero, List.set_cons_succ]
        refine wpAnyH_ready (rs := [2]) (by kernel_rfl) (by simp) ?_
        refine AllReadyH.cons rfl (fun K hK => ?_) AllReadyH.nil
        go_simp
        refine (h34.out _ hbW.out.drew).mono ?_
        rintro e w5 ⟨rfl, hb5⟩
        have H5 : (fun z => z.rangeAt w.heap.size 0 cs ∧ z.cell? ⟨w.heap.size, 0, none⟩ = some (.int .i64 d.s.ru) ∧ z.cell? ⟨w.heap.size, 3, none⟩ = some (.bool d.s.g) ∧ z.cell? ⟨w.heap.size, 4, none⟩ = some (.slice d.aq d.an d.ac) ∧ z.cell? ⟨w.heap.size, 5, none⟩ = some (.slice d.cq d.cn d.cc) ∧ z.cell? ⟨w.heap.size, 20, none⟩ = some (.slice d.kiq d.kin d.kic)) w5 := ⟨rangeAt_below ((World.rangeAt_drew _ _ _ _).2 hSW.1) hb5 hsT, (hb5.cell (by exact hsT)).trans hSW.2.1, (hb5.cell (by exact hsT)).trans hSW.2.2.1, (hb5.cell (by exact hsT)).trans hSW.2.2.2.1, (hb5.cell (by exact hsT)).trans hSW.2.2.2.2.1, (hb5.cell (by exact hsT)).trans hSW.2.2.2.2.2⟩
        have hs5 : w.heap.size < w5.heap.size := Nat.lt_of_lt_of_le hsT hb5.size
        have hw5 : Hid (Below w.heap.size w w5) := hbW.out.drew.trans (hb5.mono hbW.out.drew.size)
        have hT5 : Hid (Below WW.heap.size WW w5) := (Below.refl _ _).drew.trans hb5
        refine hK.out _ _ H5 (fun hHeld5 => ?_)
        clear hK K hHeld
        refine wpAnyH_take (i := 3) (v := .bool false) rfl (by kernel_rfl) (by kernel_rfl) (by kernel_rfl) (fun _ _ _ h => h) (.inl ⟨by rfl, fun z hSz => by go_simp⟩) hHeld5 ?_
        simp only [Act.put, List.getElem_toArray, List.getElem_cons_succ, List.getElem_cons_zero, List.setIfInBounds_toArray, List.set_cons_zero, List.set_cons_succ]
        refine wpAnyH_take (i := 4) (v := .bool false) rfl (by kernel_rfl) (by kernel_rfl) (by kernel_rfl) (fun _ _ _ h => h) (.inl ⟨by rfl, fun z hSz => by go_simp⟩) hHeld5 ?_
        simp only [Act.put, List.getElem_toArray, List.getElem_cons_succ, List.getElem_cons_zero, List.setIfInBounds_toArray, List.set_cons_zero, List.set_cons_succ]
        refine wpAnyH_take (i := 5) (v := .agg cs.toArray) rfl (by kernel_rfl) (by kernel_rfl) (by kernel_rfl) (fun _ _ _ h => h) (yieldsIf_load_mid (by kernel_rfl) 32 (.tmp 1) rfl w.heap.size 0 (by kernel_rfl) cs dst (fun z hz => hz.1) hust'.out hdst (by rw [lx.out]; exact st_size)) hHeld5 ?_
        simp only [Act.put, List.getElem_toArray, List.getElem_cons_succ, List.getElem_cons_zero, List.setIfInBounds_toArray, List.set_cons_zero, List.set_cons_succ]
        refine wpAnyH_ready (rs := [6]) (by kernel_rfl) (by simp) ?_
        refine AllReadyH.cons rfl (fun K hK => ?_) AllReadyH.nil
        go_simp
        refine (h35c.out _ hw5.out).mono ?_
        rintro e w6 ⟨rfl, hb6⟩
        have H6 : (fun z => z.rangeAt w.heap.size 0 cs ∧ z.cell? ⟨w.heap.size, 0, none⟩ = some (.int .i64 d.s.ru) ∧ z.cell? ⟨w.heap.size, 3, none⟩ = some (.bool d.s.g) ∧ z.cell? ⟨w.heap.size, 4, none⟩ = some (.slice d.aq d.an d.ac) ∧ z.cell? ⟨w.heap.size, 5, none⟩ = some (.slice d.cq d.cn d.cc) ∧ z.cell? ⟨w.heap.size, 20, none⟩ = some (.slice d.kiq d.kin d.kic)) w6 := ⟨rangeAt_below H5.1 hb6 hs5, (hb6.cell (by exact hs5)).trans H5.2.1, (hb6.cell (by exact hs5)).trans H5.2.2.1, (hb6.cell (by exact hs5)).trans H5.2.2.2.1, (hb6.cell (by exact hs5)).trans H5.2.2.2.2.1, (hb6.cell (by exact hs5)).trans H5.2.2.2.2.2⟩
        have hs6 : w.heap.size < w6.heap.size := Nat.lt_of_lt_of_le hs5 hb6.size
        have hw6 : Hid (Below w.heap.size w w6) := hw5.out.trans (hb6.mono hw5.out.size)
        have hT6 : Hid (Below WW.heap.size WW w6) := hT5.out.trans (hb6.mono hT5.out.size)
        refine hK.out _ _ H6 (fun hHeld6 => ?_)
        clear hK K hHeld5
        refine wpAnyH_take (i := 7) (v := .bool false) rfl (by kernel_rfl) (by kernel_rfl) (by kernel_rfl) (fun _ _ _ h => h) (.inl ⟨by rfl, fun z hSz => by go_simp⟩) hHeld6 ?_
        simp only [Act.put, List.getElem_toArray, List.getElem_cons_succ, List.getElem_cons_zero, List.setIfInBounds_toArray, List.set_cons_zero, List.set_cons_succ]
        refine wpAnyH_take (i := 8) (v := .bool false) rfl (by kernel_rfl) (by kernel_rfl) (by kernel_rfl) (fun _ _ _ h => h) (.inl ⟨by rfl, fun z hSz => by go_simp⟩) hHeld6 ?_
        simp only [Act.put, List.getElem_toArray, List.getElem_cons_succ, List.getElem_cons_zero, List.setIfInBounds_toArray, List.set_cons_zero, List.set_cons_succ]
        refine wpAnyH_take (i := 9) (v := .bool false) rfl (by kernel_rfl) (by kernel_rfl) (by kernel_rfl) (fun _ _ _ h => h) (.inl ⟨by rfl, fun z hSz => by go_simp⟩) hHeld6 ?_
        simp only [Act.put, List.getElem_toArray, List.getElem_cons_succ, List.getElem_cons_zero, List.setIfInBounds_toArray, List.set_cons_zero, List.set_cons_succ]
        refine wpAnyH_take (i := 10) (v := .pointer (some ⟨w.heap.size, 20, none⟩)) rfl (by kernel_rfl) (by kernel_rfl) (by kernel_rfl) (fun _ _ _ h => h) (.inl ⟨by rfl, fun z hSz => by go_simp⟩) hHeld6 ?_
        simp only [Act.put, List.getElem_toArray, List.getElem_cons_succ, List.getElem_cons_zero, List.setIfInBounds_toArray, List.set_cons_zero, List.set_cons_succ]
        refine wpAnyH_take (i := 11) (v := .slice d.kiq d.kin d.kic) rfl (by kernel_rfl) (by kernel_rfl) (by kernel_rfl) (fun _ _ _ h => h) (.inl ⟨by rfl, fun z hSz => by go_simp⟩) hHeld6 ?_
        simp only [Act.put, List.getElem_toArray, List.getElem_cons_succ, List.getElem_cons_zero, List.setIfInBounds_toArray, List.set_cons_zero, List.set_cons_succ]
        refine wpAnyH_take (i := 12) (v := .int .i64 d.kin) rfl (by kernel_rfl) (by kernel_rfl) (by kernel_rfl) (fun _ _ _ h => h) (.inl ⟨by rfl, fun z hSz => by go_simp⟩) hHeld6 ?_
        simp only [Act.put, List.getElem_toArray, List.getElem_cons_succ, List.getElem_cons_zero, List.setIfInBounds_toArray, List.set_cons_zero, List.set_cons_succ]
        refine wpAnyH_take (i := 13) (v := .pointer (some ⟨w.heap.size, 0, none⟩)) rfl (by kernel_rfl) (by kernel_rfl) (by kernel_rfl) (fun _ _ _ h => h) (.inl ⟨by rfl, fun z hSz => by go_simp⟩) hHeld6 ?_
        simp only [Act.put, List.getElem_toArray, List.getElem_cons_succ, List.getElem_cons_zero, List.setIfInBounds_toArray, List.set_cons_zero, List.set_cons_succ]
        refine wpAnyH_take (i := 14) (v := .int .i64 d.s.ru) rfl (by kernel_rfl) (by kernel_rfl) (by kernel_rfl) (fun _ _ _ h => h) (.inl ⟨by rfl, fun z hSz => by go_simp⟩) hHeld6 ?_
        simp only [Act.put, List.getElem_toArray, List.getElem_cons_succ, List.getElem_cons_zero, List.setIfInBounds_toArray, List.set_cons_zero, List.set_cons_succ]
        refine wpAnyH_ready (rs := [15]) (by kernel_rfl) (by simp) ?_
        refine AllReadyH.cons rfl (fun K hK => ?_) AllReadyH.nil
        go_simp
        refine (h36.out _ hw6.out).mono ?_
        rintro e w7 ⟨rfl, hb7⟩
        have H7 : (fun z => z.rangeAt w.heap.size 0 cs ∧ z.cell? ⟨w.heap.size, 0, none⟩ = some (.int .i64 d.s.ru) ∧ z.cell? ⟨w.heap.size, 3, none⟩ = some (.bool d.s.g) ∧ z.cell? ⟨w.heap.size, 4, none⟩ = some (.slice d.aq d.an d.ac) ∧ z.cell? ⟨w.heap.size, 5, none⟩ = some (.slice d.cq d.cn d.cc) ∧ z.cell? ⟨w.heap.size, 20, none⟩ = some (.slice d.kiq d.kin d.kic)) w7 := ⟨rangeAt_below H6.1 hb7 hs6, (hb7.cell (by exact hs6)).trans H6.2.1, (hb7.cell (by exact hs6)).trans H6.2.2.1, (hb7.cell (by exact hs6)).trans H6.2.2.2.1, (hb7.cell (by exact hs6)).trans H6.2.2.2.2.1, (hb7.cell (by exact hs6)).trans H6.2.2.2.2.2⟩
        have hs7 : w.heap.size < w7.heap.size := Nat.lt_of_lt_of_le hs6 hb7.size
        have hw7 : Hid (Below w.heap.size w w7) := hw6.out.trans (hb7.mono hw6.out.size)
        have hT7 : Hid (Below WW.heap.size WW w7) := hT6.out.trans (hb7.mono hT6.out.size)
        refine hK.out _ _ H7 (fun hHeld7 => ?_)
        clear hK K hHeld6
        refine wpAnyH_take (i := 16) (v := .int .i64 q.k) rfl (by kernel_rfl) (by kernel_rfl) (by kernel_rfl) (fun _ _ _ h => h) (.inl ⟨by rfl, fun z hSz => by go_simp⟩) hHeld7 ?_
        simp only [Act.put, List.getElem_toArray, List.getElem_cons_succ, List.getElem_cons_zero, List.setIfInBounds_toArray, List.set_cons_zero, List.set_cons_succ]
        refine wpAnyH_take (i := 17) (v := .bool false) rfl (by kernel_rfl) (by kernel_rfl) (by kernel_rfl) (fun _ _ _ h => h) (.inl ⟨by rfl, fun z hSz => by go_simp⟩) hHeld7 ?_
        simp only [Act.put, List.getElem_toArray, List.getElem_cons_succ, List.getElem_cons_zero, List.setIfInBounds_toArray, List.set_cons_zero, List.set_cons_succ]
        refine wpAnyH_take (i := 18) (v := .bool false) rfl (by kernel_rfl) (by kernel_rfl) (by kernel_rfl) (fun _ _ _ h => h) (.inl ⟨by rfl, fun z hSz => by go_simp⟩) hHeld7 ?_
        simp only [Act.put, List.getElem_toArray, List.getElem_cons_succ, List.getElem_cons_zero, List.setIfInBounds_toArray, List.set_cons_zero, List.set_cons_succ]
        refine wpAnyH_take (i := 19) (v := .bool false) rfl (by kernel_rfl) (by kernel_rfl) (by kernel_rfl) (fun _ _ _ h => h) (.inl ⟨by rfl, fun z hSz => by go_simp⟩) hHeld7 ?_
        simp only [Act.put, List.getElem_toArray, List.getElem_cons_succ, List.getElem_cons_zero, List.setIfInBounds_toArray, List.set_cons_zero, List.set_cons_succ]
        refine wpAnyH_take (i := 20) (v := .pointer (some ⟨w.heap.size, 3, none⟩)) rfl (by kernel_rfl) (by kernel_rfl) (by kernel_rfl) (fun _ _ _ h => h) (.inl ⟨by rfl, fun z hSz => by go_simp⟩) hHeld7 ?_
        simp only [Act.put, List.getElem_toArray, List.getElem_cons_succ, List.getElem_cons_zero, List.setIfInBounds_toArray, List.set_cons_zero, List.set_cons_succ]
        refine wpAnyH_take (i := 21) (v := .agg #[.bool d.s.g, .slice d.aq d.an d.ac, .slice d.cq d.cn d.cc]) rfl (by kernel_rfl) (by kernel_rfl) (by kernel_rfl) (fun _ _ _ h => h) (.inl ⟨by rfl, fun z hSz => by go_simp⟩) hHeld7 ?_
        simp only [Act.put, List.getElem_toArray, List.getElem_cons_succ, List.getElem_cons_zero, List.setIfInBounds_toArray, List.set_cons_zero, List.set_cons_succ]
        refine wpAnyH_ready (rs := [22]) (by kernel_rfl) (by simp) ?_
        refine AllReadyH.cons rfl (fun K hK => ?_) AllReadyH.nil
        go_simp
        refine (h37.out _ hw7.out).mono ?_
        rintro e w8 ⟨rfl, hb8⟩
        have H8 : (fun z => z.rangeAt w.heap.size 0 cs ∧ z.cell? ⟨w.heap.size, 0, none⟩ = some (.int .i64 d.s.ru) ∧ z.cell? ⟨w.heap.size, 3, none⟩ = some (.bool d.s.g) ∧ z.cell? ⟨w.heap.size, 4, none⟩ = some (.slice d.aq d.an d.ac) ∧ z.cell? ⟨w.heap.size, 5, none⟩ = some (.slice d.cq d.cn d.cc) ∧ z.cell? ⟨w.heap.size, 20, none⟩ = some (.slice d.kiq d.kin d.kic)) w8 := ⟨rangeAt_below H7.1 hb8 hs7, (hb8.cell (by exact hs7)).trans H7.2.1, (hb8.cell (by exact hs7)).trans H7.2.2.1, (hb8.cell (by exact hs7)).trans H7.2.2.2.1, (hb8.cell (by exact hs7)).trans H7.2.2.2.2.1, (hb8.cell (by exact hs7)).trans H7.2.2.2.2.2⟩
        have hs8 : w.heap.size < w8.heap.size := Nat.lt_of_lt_of_le hs7 hb8.size
        have hw8 : Hid (Below w.heap.size w w8) := hw7.out.trans (hb8.mono hw7.out.size)
        have hT8 : Hid (Below WW.heap.size WW w8) := hT7.out.trans (hb8.mono hT7.out.size)
        refine hK.out _ _ H8 (fun hHeld8 => ?_)
        clear hK K hHeld7
        refine wpAnyH_take (i := 23) (v := .bool L) rfl (by kernel_rfl) (by kernel_rfl) (by kernel_rfl) (fun _ _ _ h => h) (.inl ⟨by rfl, fun z hSz => by go_simp⟩) hHeld8 ?_
        simp only [Act.put, List.getElem_toArray, List.getElem_cons_succ, List.getElem_cons_zero, List.setIfInBounds_toArray, List.set_cons_zero, List.set_cons_succ]
        refine wpAnyH_done (by kernel_rfl) ?_ _
        clear hHeld8
        go_wp2_with fail
        go_meet
        case rel => exact ⟨by rw [hg.out], hT8⟩
      · have hg : Hid (G1 = true) := hG1''.out hk
        have hkk : ((d.kin : Int) != q.k) = true := by simp [hk]
        clear hG1' hG1'' hG1L hk
        refine wp_region_held_drew (S := (fun z => z.rangeAt w.heap.size 0 cs ∧ z.cell? ⟨w.heap.size, 0, none⟩ = some (.int .i64 d.s.ru) ∧ z.cell? ⟨w.heap.size, 3, none⟩ = some (.bool d.s.g) ∧ z.cell? ⟨w.heap.size, 4, none⟩ = some (.slice d.aq d.an d.ac) ∧ z.cell? ⟨w.heap.size, 5, none⟩ = some (.slice d.cq d.cn d.cc) ∧ z.cell? ⟨w.heap.size, 20, none⟩ = some (.slice d.kiq d.kin d.kic))) (by kernel_rfl) hSW (fun hHeld => ?_)
        refine wpAnyH_take (i := 0) (v := .pointer (some ⟨w.heap.size, 0, none⟩)) rfl (by kernel_rfl) (by kernel_rfl) (by kernel_rfl) (fun _ _ _ h => h) (.inl ⟨by rfl, fun z hSz => by go_simp⟩) hHeld ?_
        simp only [Act.put, List.getElem_toArray, List.getElem_cons_succ, List.getElem_cons_zero, List.setIfInBounds_toArray, List.set_cons_zero, List.set_cons_succ]
        refine wpAnyH_take (i := 1) (v := .int .i64 d.s.ru) rfl (by kernel_rfl) (by kernel_rfl) (by kernel_rfl) (fun _ _ _ h => h) (.inl ⟨by rfl, fun z hSz => by go_simp⟩) hHeld ?_
        simp only [Act.put, List.getElem_toArray, List.getElem_cons_succ, List.getElem_cons_zero, List.setIfInBounds_toArray, List.set_cons_zero, List.set_cons_succ]
        refine wpAnyH_ready (rs := [2]) (by kernel_rfl) (by simp) ?_
        refine AllReadyH.cons rfl (fun K hK => ?_) AllReadyH.nil
        go_simp
        refine (h34.out _ hbW.out.drew).mono ?_
        rintro e w5 ⟨rfl, hb5⟩
        have H5 : (fun z => z.rangeAt w.heap.size 0 cs ∧ z.cell? ⟨w.heap.size, 0, none⟩ = some (.int .i64 d.s.ru) ∧ z.cell? ⟨w.heap.size, 3, none⟩ = some (.bool d.s.g) ∧ z.cell? ⟨w.heap.size, 4, none⟩ = some (.slice d.aq d.an d.ac) ∧ z.cell? ⟨w.heap.size, 5, none⟩ = some (.slice d.cq d.cn d.cc) ∧ z.cell? ⟨w.heap.size, 20, none⟩ = some (.slice d.kiq d.kin d.kic)) w5 := ⟨rangeAt_below ((World.rangeAt_drew _ _ _ _).2 hSW.1) hb5 hsT, (hb5.cell (by exact hsT)).trans hSW.2.1, (hb5.cell (by exact hsT)).trans hSW.2.2.1, (hb5.cell (by exact hsT)).trans hSW.2.2.2.1, (hb5.cell (by exact hsT)).trans hSW.2.2.2.2.1, (hb5.cell (by exact hsT)).trans hSW.2.2.2.2.2⟩
        have hs5 : w.heap.size < w5.heap.size := Nat.lt_of_lt_of_le hsT hb5.size
        have hw5 : Hid (Below w.heap.size w w5) := hbW.out.drew.trans (hb5.mono hbW.out.drew.size)
        have hT5 : Hid (Below WW.heap.size WW w5) := (Below.refl _ _).drew.trans hb5
        refine hK.out _ _ H5 (fun hHeld5 => ?_)
        clear hK K hHeld
        refine wpAnyH_take (i := 3) (v := .bool false) rfl (by kernel_rfl) (by kernel_rfl) (by kernel_rfl) (fun _ _ _ h => h) (.inl ⟨by rfl, fun z hSz => by go_simp⟩) hHeld5 ?_
        simp only [Act.put, List.getElem_toArray, List.getElem_cons_succ, List.getElem_cons_zero, List.setIfInBounds_toArray, List.set_cons_zero, List.set_cons_succ]
        refine wpAnyH_take (i := 4) (v := .bool false) rfl (by kernel_rfl) (by kernel_rfl) (by kernel_rfl) (fun _ _ _ h => h) (.inl ⟨by rfl, fun z hSz => by go_simp⟩) hHeld5 ?_
        simp only [Act.put, List.getElem_toArray, List.getElem_cons_succ, List.getElem_cons_zero, List.setIfInBounds_toArray, List.set_cons_zero, List.set_cons_succ]
        refine wpAnyH_take (i := 5) (v := .agg cs.toArray) rfl (by kernel_rfl) (by kernel_rfl) (by kernel_rfl) (fun _ _ _ h => h) (yieldsIf_load_mid (by kernel_rfl) 32 (.tmp 1) rfl w.heap.size 0 (by kernel_rfl) cs dst (fun z hz => hz.1) hust'.out hdst (by rw [lx.out]; exact st_size)) hHeld5 ?_
        simp only [Act.put, List.getElem_toArray, List.getElem_cons_succ, List.getElem_cons_zero, List.setIfInBounds_toArray, List.set_cons_zero, List.set_cons_succ]
        refine wpAnyH_ready (rs := [6]) (by kernel_rfl) (by simp) ?_
        refine AllReadyH.cons rfl (fun K hK => ?_) AllReadyH.nil
        go_simp
        refine (h35c.out _ hw5.out).mono ?_
        rintro e w6 ⟨rfl, hb6⟩
        have H6 : (fun z => z.rangeAt w.heap.size 0 cs ∧ z.cell? ⟨w.heap.size, 0, none⟩ = some (.int .i64 d.s.ru) ∧ z.cell? ⟨w.heap.size, 3, none⟩ = some (.bool d.s.g) ∧ z.cell? ⟨w.heap.size, 4, none⟩ = some (.slice d.aq d.an d.ac) ∧ z.cell? ⟨w.heap.size, 5, none⟩ = some (.slice d.cq d.cn d.cc) ∧ z.cell? ⟨w.heap.size, 20, none⟩ = some (.slice d.kiq d.kin d.kic)) w6 := ⟨rangeAt_below H5.1 hb6 hs5, (hb6.cell (by exact hs5)).trans H5.2.1, (hb6.cell (by exact hs5)).trans H5.2.2.1, (hb6.cell (by exact hs5)).trans H5.2.2.2.1, (hb6.cell (by exact hs5)).trans H5.2.2.2.2.1, (hb6.cell (by exact hs5)).trans H5.2.2.2.2.2⟩
        have hs6 : w.heap.size < w6.heap.size := Nat.lt_of_lt_of_le hs5 hb6.size
        have hw6 : Hid (Below w.heap.size w w6) := hw5.out.trans (hb6.mono hw5.out.size)
        have hT6 : Hid (Below WW.heap.size WW w6) := hT5.out.trans (hb6.mono hT5.out.size)
        refine hK.out _ _ H6 (fun hHeld6 => ?_)
        clear hK K hHeld5
        refine wpAnyH_take (i := 7) (v := .bool false) rfl (by kernel_rfl) (by kernel_rfl) (by kernel_rfl) (fun _ _ _ h => h) (.inl ⟨by rfl, fun z hSz => by go_simp⟩) hHeld6 ?_
        simp only [Act.put, List.getElem_toArray, List.getElem_cons_succ, List.getElem_cons_zero, List.setIfInBounds_toArray, List.set_cons_zero, List.set_cons_succ]
        refine wpAnyH_take (i := 8) (v := .bool false) rfl (by kernel_rfl) (by kernel_rfl) (by kernel_rfl) (fun _ _ _ h => h) (.inl ⟨by rfl, fun z hSz => by go_simp⟩) hHeld6 ?_
        simp only [Act.put, List.getElem_toArray, List.getElem_cons_succ, List.getElem_cons_zero, List.setIfInBounds_toArray, List.set_cons_zero, List.set_cons_succ]
        refine wpAnyH_take (i := 9) (v := .bool false) rfl (by kernel_rfl) (by kernel_rfl) (by kernel_rfl) (fun _ _ _ h => h) (.inl ⟨by rfl, fun z hSz => by go_simp⟩) hHeld6 ?_
        simp only [Act.put, List.getElem_toArray, List.getElem_cons_succ, List.getElem_cons_zero, List.setIfInBounds_toArray, List.set_cons_zero, List.set_cons_succ]
        refine wpAnyH_take (i := 10) (v := .pointer (some ⟨w.heap.size, 20, none⟩)) rfl (by kernel_rfl) (by kernel_rfl) (by kernel_rfl) (fun _ _ _ h => h) (.inl ⟨by rfl, fun z hSz => by go_simp⟩) hHeld6 ?_
        simp only [Act.put, List.getElem_toArray, List.getElem_cons_succ, List.getElem_cons_zero, List.setIfInBounds_toArray, List.set_cons_zero, List.set_cons_succ]
        refine wpAnyH_take (i := 11) (v := .slice d.kiq d.kin d.kic) rfl (by kernel_rfl) (by kernel_rfl) (by kernel_rfl) (fun _ _ _ h => h) (.inl ⟨by rfl, fun z hSz => by go_simp⟩) hHeld6 ?_
        simp only [Act.put, List.getElem_toArray, List.getElem_cons_succ, List.getElem_cons_zero, List.setIfInBounds_toArray, List.set_cons_zero, List.set_cons_succ]
        refine wpAnyH_take (i := 12) (v := .int .i64 d.kin) rfl (by kernel_rfl) (by kernel_rfl) (by kernel_rfl) (fun _ _ _ h => h) (.inl ⟨by rfl, fun z hSz => by go_simp⟩) hHeld6 ?_
        simp only [Act.put, List.getElem_toArray, List.getElem_cons_succ, List.getElem_cons_zero, List.setIfInBounds_toArray, List.set_cons_zero, List.set_cons_succ]
        refine wpAnyH_take (i := 13) (v := .pointer (some ⟨w.heap.size, 0, none⟩)) rfl (by kernel_rfl) (by kernel_rfl) (by kernel_rfl) (fun _ _ _ h => h) (.inl ⟨by rfl, fun z hSz => by go_simp⟩) hHeld6 ?_
        simp only [Act.put, List.getElem_toArray, List.getElem_cons_succ, List.getElem_cons_zero, List.setIfInBounds_toArray, List.set_cons_zero, List.set_cons_succ]
        refine wpAnyH_take (i := 14) (v := .int .i64 d.s.ru) rfl (by kernel_rfl) (by kernel_rfl) (by kernel_rfl) (fun _ _ _ h => h) (.inl ⟨by rfl, fun z hSz => by go_simp⟩) hHeld6 ?_
        simp only [Act.put, List.getElem_toArray, List.getElem_cons_succ, List.getElem_cons_zero, List.setIfInBounds_toArray, List.set_cons_zero, List.set_cons_succ]
        refine wpAnyH_ready (rs := [15]) (by kernel_rfl) (by simp) ?_
        refine AllReadyH.cons rfl (fun K hK => ?_) AllReadyH.nil
        go_simp
        refine (h36.out _ hw6.out).mono ?_
        rintro e w7 ⟨rfl, hb7⟩
        have H7 : (fun z => z.rangeAt w.heap.size 0 cs ∧ z.cell? ⟨w.heap.size, 0, none⟩ = some (.int .i64 d.s.ru) ∧ z.cell? ⟨w.heap.size, 3, none⟩ = some (.bool d.s.g) ∧ z.cell? ⟨w.heap.size, 4, none⟩ = some (.slice d.aq d.an d.ac) ∧ z.cell? ⟨w.heap.size, 5, none⟩ = some (.slice d.cq d.cn d.cc) ∧ z.cell? ⟨w.heap.size, 20, none⟩ = some (.slice d.kiq d.kin d.kic)) w7 := ⟨rangeAt_below H6.1 hb7 hs6, (hb7.cell (by exact hs6)).trans H6.2.1, (hb7.cell (by exact hs6)).trans H6.2.2.1, (hb7.cell (by exact hs6)).trans H6.2.2.2.1, (hb7.cell (by exact hs6)).trans H6.2.2.2.2.1, (hb7.cell (by exact hs6)).trans H6.2.2.2.2.2⟩
        have hs7 : w.heap.size < w7.heap.size := Nat.lt_of_lt_of_le hs6 hb7.size
        have hw7 : Hid (Below w.heap.size w w7) := hw6.out.trans (hb7.mono hw6.out.size)
        have hT7 : Hid (Below WW.heap.size WW w7) := hT6.out.trans (hb7.mono hT6.out.size)
        refine hK.out _ _ H7 (fun hHeld7 => ?_)
        clear hK K hHeld6
        refine wpAnyH_take (i := 16) (v := .int .i64 q.k) rfl (by kernel_rfl) (by kernel_rfl) (by kernel_rfl) (fun _ _ _ h => h) (.inl ⟨by rfl, fun z hSz => by go_simp⟩) hHeld7 ?_
        simp only [Act.put, List.getElem_toArray, List.getElem_cons_succ, List.getElem_cons_zero, List.setIfInBounds_toArray, List.set_cons_zero, List.set_cons_succ]
        refine wpAnyH_take (i := 17) (v := .bool true) rfl (by kernel_rfl) (by kernel_rfl) (by kernel_rfl) (fun _ _ _ h => h) (.inl ⟨by rfl, fun z hSz => by go_simp⟩) hHeld7 ?_
        simp only [Act.put, List.getElem_toArray, List.getElem_cons_succ, List.getElem_cons_zero, List.setIfInBounds_toArray, List.set_cons_zero, List.set_cons_succ]
        refine wpAnyH_take (i := 18) (v := .bool true) rfl (by kernel_rfl) (by kernel_rfl) (by kernel_rfl) (fun _ _ _ h => h) (.inl ⟨by rfl, fun z hSz => by go_simp⟩) hHeld7 ?_
        simp only [Act.put, List.getElem_toArray, List.getElem_cons_succ, List.getElem_cons_zero, List.setIfInBounds_toArray, List.set_cons_zero, List.set_cons_succ]
        refine wpAnyH_take (i := 19) (v := .bool true) rfl (by kernel_rfl) (by kernel_rfl) (by kernel_rfl) (fun _ _ _ h => h) (.inl ⟨by rfl, fun z hSz => by go_simp⟩) hHeld7 ?_
        simp only [Act.put, List.getElem_toArray, List.getElem_cons_succ, List.getElem_cons_zero, List.setIfInBounds_toArray, List.set_cons_zero, List.set_cons_succ]
        refine wpAnyH_take (i := 20) (v := undef) rfl (by kernel_rfl) (by kernel_rfl) (by kernel_rfl) (fun _ _ _ h => h) (.inr ⟨by kernel_rfl, rfl⟩) hHeld7 ?_
        simp only [Act.put, List.getElem_toArray, List.getElem_cons_succ, List.getElem_cons_zero, List.setIfInBounds_toArray, List.set_cons_zero, List.set_cons_succ]
        refine wpAnyH_take (i := 21) (v := undef) rfl (by kernel_rfl) (by kernel_rfl) (by kernel_rfl) (fun _ _ _ h => h) (.inr ⟨by kernel_rfl, rfl⟩) hHeld7 ?_
        simp only [Act.put, List.getElem_toArray, List.getElem_cons_succ, List.getElem_cons_zero, List.setIfInBounds_toArray, List.set_cons_zero, List.set_cons_succ]
        refine wpAnyH_take (i := 22) (v := undef) rfl (by kernel_rfl) (by kernel_rfl) (by kernel_rfl) (fun _ _ _ h => h) (.inr ⟨by kernel_rfl, rfl⟩) hHeld7 ?_
        simp only [Act.put, List.getElem_toArray, List.getElem_cons_succ, List.getElem_cons_zero, List.setIfInBounds_toArray, List.set_cons_zero, List.set_cons_succ]
        refine wpAnyH_take (i := 23) (v := .bool true) rfl (by kernel_rfl) (by kernel_rfl) (by kernel_rfl) (fun _ _ _ h => h) (.inl ⟨by rfl, fun z hSz => by go_simp⟩) hHeld7 ?_
        simp only [Act.put, List.getElem_toArray, List.getElem_cons_succ, List.getElem_cons_zero, List.setIfInBounds_toArray, List.set_cons_zero, List.set_cons_succ]
        refine wpAnyH_done (by kernel_rfl) ?_ _
        clear hHeld7
        go_wp2_with fail
        go_meet
        case rel => exact ⟨by rw [hg.out], hT7⟩
  case rest =>
    obtain ⟨rfl, hbc⟩ := hcut
    have hbw1 : Hid (Below w.heap.size w wc) := hbW.out.trans (hbc.out.mono hbW.out.size)
    clear hSW hG1' hG1'' hG1L h34 h35 h35c h36 h37 hne hfd
    cases G1 with
    | true =>
      have hRf := hR01.out rfl
      subst hRf
      go_wp2_with fail
      go_ret
      exact ⟨rfl, hbw1.out⟩
    | false =>
      have hR31 : Hid (G2 = false → (∀ j, j < d.pon → ptB (ps j) = true) → (∀ j, j < d.arn → bdB (bs j) = true) → R = true) := hR30.out rfl
      clear hR30 hR01
      have hs0 : w.heap.size < WW.heap.size := hsT
      have x0 := (hcw.out _ hbc.out).1
      have x9 := (hcw.out _ hbc.out).2.1
      have x10 := (hcw.out _ hbc.out).2.2.1
      have x11 := (hcw.out _ hbc.out).2.2.2.1
      have x12 := (hcw.out _ hbc.out).2.2.2.2.1
      have x13 := (hcw.out _ hbc.out).2.2.2.2.2.1
      have x14 := (hcw.out _ hbc.out).2.2.2.2.2.2.1
      have x15 := (hcw.out _ hbc.out).2.2.2.2.2.2.2.1
      have x16 := (hcw.out _ hbc.out).2.2.2.2.2.2.2.2.1
      have x19 := (hcw.out _ hbc.out).2.2.2.2.2.2.2.2.2
      have hs1 : w.heap.size < wc.heap.size := Nat.lt_of_lt_of_le hs0 hbc.out.size
      clear hbc hsT hcw
      obtain ⟨W1, rfl⟩ : ∃ z, z = wc := ⟨_, rfl⟩
      go_upto_region 3 with fail
      go_cut [51] from 31 to 51 (fun v wx => v = .bool G2 ∧ Hid (Below W1.heap.size W1 wx))
      case first =>
        clear hR1 hR2 hR02 hR31 hlp
        cases UE with
        | true =>
          cases V with
          | false =>
            have hg : Hid (G2 = true) := hG2u.out rfl rfl
            clear hG2u hG2p hG2a hG2t
            go_wp2_with (first
              | (go_at_call 38; with_reducible refine (h38.out _).mono ?_; rintro e w6 ⟨rfl, hb6'⟩
                 have y9 := (hb6'.cell (p := ⟨w.heap.size, 9, none⟩) (by exact hs1)).trans x9
                 have y10 := (hb6'.cell (p := ⟨w.heap.size, 10, none⟩) (by exact hs1)).trans x10
                 have y11 := (hb6'.cell (p := ⟨w.heap.size, 11, none⟩) (by exact hs1)).trans x11
                 have y12 := (hb6'.cell (p := ⟨w.heap.size, 12, none⟩) (by exact hs1)).trans x12
                 have y13 := (hb6'.cell (p := ⟨w.heap.size, 13, none⟩) (by exact hs1)).trans x13
                 have y14 := (hb6'.cell (p := ⟨w.heap.size, 14, none⟩) (by exact hs1)).trans x14
                 have y15 := (hb6'.cell (p := ⟨w.heap.size, 15, none⟩) (by exact hs1)).trans x15
                 have y16 := (hb6'.cell (p := ⟨w.heap.size, 16, none⟩) (by exact hs1)).trans x16
                 have y19 := (hb6'.cell (p := ⟨w.heap.size, 19, none⟩) (by exact hs1)).trans x19
                 have hs6 : w.heap.size < w6.heap.size := Nat.lt_of_lt_of_le hs1 hb6'.size
                 have hb6 : Hid (Below W1.heap.size W1 w6) := hb6'
                 clear hb6' x9 x10 x11 x12 x13 x14 x15 x16 x19)
              | (go_at_call 39; with_reducible refine (h39.out _ (hbw1.out.trans (hb6.out.mono hbw1.out.size))).mono ?_; rintro e w7 ⟨rfl, hb7⟩))
            go_meet
            case rel => exact ⟨by rw [hg.out], hb6.out.trans (hb7.mono hb6.out.size)⟩
          | true =>
            by_cases p6 : d.pon ≤ 6
            · have p6' : ¬ (d.pon : Int) > 6 := by omega
              by_cases a6 : d.arn ≤ 6
              · have a6' : ¬ (d.arn : Int) > 6 := by omega
                have hg : Hid (G2 = false) := hG2t.out (.inr rfl) p6 a6
                clear hG2u hG2p hG2a hG2t p6 a6
                go_wp2_with (first
                  | (go_at_call 38; with_reducible refine (h38.out _).mono ?_; rintro e w6 ⟨rfl, hb6'⟩
                     have y9 := (hb6'.cell (p := ⟨w.heap.size, 9, none⟩) (by exact hs1)).trans x9
                     have y10 := (hb6'.cell (p := ⟨w.heap.size, 10, none⟩) (by exact hs1)).trans x10
                     have y11 := (hb6'.cell (p := ⟨w.heap.size, 11, none⟩) (by exact hs1)).trans x11
                     have y12 := (hb6'.cell (p := ⟨w.heap.size, 12, none⟩) (by exact hs1)).trans x12
                     have y13 := (hb6'.cell (p := ⟨w.heap.size, 13, none⟩) (by exact hs1)).trans x13
                     have y14 := (hb6'.cell (p := ⟨w.heap.size, 14, none⟩) (by exact hs1)).trans x14
                     have y15 := (hb6'.cell (p := ⟨w.heap.size, 15, none⟩) (by exact hs1)).trans x15
                     have y16 := (hb6'.cell (p := ⟨w.heap.size, 16, none⟩) (by exact hs1)).trans x16
                     have y19 := (hb6'.cell (p := ⟨w.heap.size, 19, none⟩) (by exact hs1)).trans x19
                     have hs6 : w.heap.size < w6.heap.size := Nat.lt_of_lt_of_le hs1 hb6'.size
                     have hb6 : Hid (Below W1.heap.size W1 w6) := hb6'
                     clear hb6' x9 x10 x11 x12 x13 x14 x15 x16 x19)
                  | (go_at_call 39; with_reducible refine (h39.out _ (hbw1.out.trans (hb6.out.mono hbw1.out.size))).mono ?_; rintro e w7 ⟨rfl, hb7⟩
                     have v16 := (hb7.cell (p := ⟨w.heap.size, 16, none⟩) (by exact hs6)).trans y16
                     have v19 := (hb7.cell (p := ⟨w.heap.size, 19, none⟩) (by exact hs6)).trans y19
                     have hb8 : Hid (Below W1.heap.size W1 w7) := hb6.out.trans (hb7.mono hb6.out.size)
                     clear hb7 y16 y19))
                go_meet
                case rel =>
                  refine ⟨?_, hb8⟩
                  rw [hg.out]
                  congr 1
                  rw [decide_eq_false (by omega), decide_eq_false (by omega)]
                  rfl
              · have a6' : (d.arn : Int) > 6 := by omega
                have hg : Hid (G2 = true) := hG2a.out a6
                clear hG2u hG2p hG2a hG2t p6 a6
                go_wp2_with (first
                  | (go_at_call 38; with_reducible refine (h38.out _).mono ?_; rintro e w6 ⟨rfl, hb6'⟩
                     have y9 := (hb6'.cell (p := ⟨w.heap.size, 9, none⟩) (by exact hs1)).trans x9
                     have y10 := (hb6'.cell (p := ⟨w.heap.size, 10, none⟩) (by exact hs1)).trans x10
                     have y11 := (hb6'.cell (p := ⟨w.heap.size, 11, none⟩) (by exact hs1)).trans x11
                     have y12 := (hb6'.cell (p := ⟨w.heap.size, 12, none⟩) (by exact hs1)).trans x12
                     have y13 := (hb6'.cell (p := ⟨w.heap.size, 13, none⟩) (by exact hs1)).trans x13
                     have y14 := (hb6'.cell (p := ⟨w.heap.size, 14, none⟩) (by exact hs1)).trans x14
                     have y15 := (hb6'.cell (p := ⟨w.heap.size, 15, none⟩) (by exact hs1)).trans x15
                     have y16 := (hb6'.cell (p := ⟨w.heap.size, 16, none⟩) (by exact hs1)).trans x16
                     have y19 := (hb6'.cell (p := ⟨w.heap.size, 19, none⟩) (by exact hs1)).trans x19
                     have hs6 : w.heap.size < w6.heap.size := Nat.lt_of_lt_of_le hs1 hb6'.size
                     have hb6 : Hid (Below W1.heap.size W1 w6) := hb6'
                     clear hb6' x9 x10 x11 x12 x13 x14 x15 x16 x19)
                  | (go_at_call 39; with_reducible refine (h39.out _ (hbw1.out.trans (hb6.out.mono hbw1.out.size))).mono ?_; rintro e w7 ⟨rfl, hb7⟩
                     have v16 := (hb7.cell (p := ⟨w.heap.size, 16, none⟩) (by exact hs6)).trans y16
                     have v19 := (hb7.cell (p := ⟨w.heap.size, 19, none⟩) (by exact hs6)).trans y19
                     have hb8 : Hid (Below W1.heap.size W1 w7) := hb6.out.trans (hb7.mono hb6.out.size)
                     clear hb7 y16 y19))
                go_meet
                case rel => exact ⟨by rw [hg.out], hb8⟩
            · have p6' : (d.pon : Int) > 6 := by omega
              have hg : Hid (G2 = true) := hG2p.out p6
              clear hG2u hG2p hG2a hG2t p6
              go_wp2_with (first
                | (go_at_call 38; with_reducible refine (h38.out _).mono ?_; rintro e w6 ⟨rfl, hb6'⟩
                   have y9 := (hb6'.cell (p := ⟨w.heap.size, 9, none⟩) (by exact hs1)).trans x9
                   have y10 := (hb6'.cell (p := ⟨w.heap.size, 10, none⟩) (by exact hs1)).trans x10
                   have y11 := (hb6'.cell (p := ⟨w.heap.size, 11, none⟩) (by exact hs1)).trans x11
                   have y12 := (hb6'.cell (p := ⟨w.heap.size, 12, none⟩) (by exact hs1)).trans x12
                   have y13 := (hb6'.cell (p := ⟨w.heap.size, 13, none⟩) (by exact hs1)).trans x13
                   have y14 := (hb6'.cell (p := ⟨w.heap.size, 14, none⟩) (by exact hs1)).trans x14
                   have y15 := (hb6'.cell (p := ⟨w.heap.size, 15, none⟩) (by exact hs1)).trans x15
                   have y16 := (hb6'.cell (p := ⟨w.heap.size, 16, none⟩) (by exact hs1)).trans x16
                   have y19 := (hb6'.cell (p := ⟨w.heap.size, 19, none⟩) (by exact hs1)).trans x19
                   have hs6 : w.heap.size < w6.heap.size := Nat.lt_of_lt_of_le hs1 hb6'.size
                   have hb6 : Hid (Below W1.heap.size W1 w6) := hb6'
                   clear hb6' x9 x10 x11 x12 x13 x14 x15 x16 x19)
                | (go_at_call 39; with_reducible refine (h39.out _ (hbw1.out.trans (hb6.out.mono hbw1.out.size))).mono ?_; rintro e w7 ⟨rfl, hb7⟩
                   have v16 := (hb7.cell (p := ⟨w.heap.size, 16, none⟩) (by exact hs6)).trans y16
                   have v19 := (hb7.cell (p := ⟨w.heap.size, 19, none⟩) (by exact hs6)).trans y19
                   have hb8 : Hid (Below W1.heap.size W1 w7) := hb6.out.trans (hb7.mono hb6.out.size)
                   clear hb7 y16 y19))
              go_meet
              case rel => exact ⟨by rw [hg.out], hb8⟩
        | false =>
          by_cases p6 : d.pon ≤ 6
          · have p6' : ¬ (d.pon : Int) > 6 := by omega
            by_cases a6 : d.arn ≤ 6
            · have a6' : ¬ (d.arn : Int) > 6 := by omega
              have hg : Hid (G2 = false) := hG2t.out (.inl rfl) p6 a6
              clear hG2u hG2p hG2a hG2t p6 a6
              go_wp2_with (first
                | (go_at_call 38; with_reducible refine (h38.out _).mono ?_; rintro e w6 ⟨rfl, hb6'⟩
                   have y9 := (hb6'.cell (p := ⟨w.heap.size, 9, none⟩) (by exact hs1)).trans x9
                   have y10 := (hb6'.cell (p := ⟨w.heap.size, 10, none⟩) (by exact hs1)).trans x10
                   have y11 := (hb6'.cell (p := ⟨w.heap.size, 11, none⟩) (by exact hs1)).trans x11
                   have y12 := (hb6'.cell (p := ⟨w.heap.size, 12, none⟩) (by exact hs1)).trans x12
                   have y13 := (hb6'.cell (p := ⟨w.heap.size, 13, none⟩) (by exact hs1)).trans x13
                   have y14 := (hb6'.cell (p := ⟨w.heap.size, 14, none⟩) (by exact hs1)).trans x14
                   have y15 := (hb6'.cell (p := ⟨w.heap.size, 15, none⟩) (by exact hs1)).trans x15
                   have y16 := (hb6'.cell (p := ⟨w.heap.size, 16, none⟩) (by exact hs1)).trans x16
                   have y19 := (hb6'.cell (p := ⟨w.heap.size, 19, none⟩) (by exact hs1)).trans x19
                   have hs6 : w.heap.size < w6.heap.size := Nat.lt_of_lt_of_le hs1 hb6'.size
                   have hb6 : Hid (Below W1.heap.size W1 w6) := hb6'
                   clear hb6' x9 x10 x11 x12 x13 x14 x15 x16 x19)
                | fail)
              go_meet
              case rel =>
                refine ⟨?_, hb6⟩
                rw [hg.out]
                congr 1
                rw [decide_eq_false (by omega), decide_eq_false (by omega)]
                rfl
            · have a6' : (d.arn : Int) > 6 := by omega
              have hg : Hid (G2 = true) := hG2a.out a6
              clear hG2u hG2p hG2a hG2t p6 a6
              go_wp2_with (first
                | (go_at_call 38; with_reducible refine (h38.out _).mono ?_; rintro e w6 ⟨rfl, hb6'⟩
                   have y9 := (hb6'.cell (p := ⟨w.heap.size, 9, none⟩) (by exact hs1)).trans x9
                   have y10 := (hb6'.cell (p := ⟨w.heap.size, 10, none⟩) (by exact hs1)).trans x10
                   have y11 := (hb6'.cell (p := ⟨w.heap.size, 11, none⟩) (by exact hs1)).trans x11
                   have y12 := (hb6'.cell (p := ⟨w.heap.size, 12, none⟩) (by exact hs1)).trans x12
                   have y13 := (hb6'.cell (p := ⟨w.heap.size, 13, none⟩) (by exact hs1)).trans x13
                   have y14 := (hb6'.cell (p := ⟨w.heap.size, 14, none⟩) (by exact hs1)).trans x14
                   have y15 := (hb6'.cell (p := ⟨w.heap.size, 15, none⟩) (by exact hs1)).trans x15
                   have y16 := (hb6'.cell (p := ⟨w.heap.size, 16, none⟩) (by exact hs1)).trans x16
                   have y19 := (hb6'.cell (p := ⟨w.heap.size, 19, none⟩) (by exact hs1)).trans x19
                   have hs6 : w.heap.size < w6.heap.size := Nat.lt_of_lt_of_le hs1 hb6'.size
                   have hb6 : Hid (Below W1.heap.size W1 w6) := hb6'
                   clear hb6' x9 x10 x11 x12 x13 x14 x15 x16 x19)
                | fail)
              go_meet
              case rel => exact ⟨by rw [hg.out], hb6⟩
          · have p6' : (d.pon : Int) > 6 := by omega
            have hg : Hid (G2 = true) := hG2p.out p6
            clear hG2u hG2p hG2a hG2t p6
            go_wp2_with (first
              | (go_at_call 38; with_reducible refine (h38.out _).mono ?_; rintro e w6 ⟨rfl, hb6'⟩
                 have y9 := (hb6'.cell (p := ⟨w.heap.size, 9, none⟩) (by exact hs1)).trans x9
                 have y10 := (hb6'.cell (p := ⟨w.heap.size, 10, none⟩) (by exact hs1)).trans x10
                 have y11 := (hb6'.cell (p := ⟨w.heap.size, 11, none⟩) (by exact hs1)).trans x11
                 have y12 := (hb6'.cell (p := ⟨w.heap.size, 12, none⟩) (by exact hs1)).trans x12
                 have y13 := (hb6'.cell (p := ⟨w.heap.size, 13, none⟩) (by exact hs1)).trans x13
                 have y14 := (hb6'.cell (p := ⟨w.heap.size, 14, none⟩) (by exact hs1)).trans x14
                 have y15 := (hb6'.cell (p := ⟨w.heap.size, 15, none⟩) (by exact hs1)).trans x15
                 have y16 := (hb6'.cell (p := ⟨w.heap.size, 16, none⟩) (by exact hs1)).trans x16
                 have y19 := (hb6'.cell (p := ⟨w.heap.size, 19, none⟩) (by exact hs1)).trans x19
                 have hs6 : w.heap.size < w6.heap.size := Nat.lt_of_lt_of_le hs1 hb6'.size
                 have hb6 : Hid (Below W1.heap.size W1 w6) := hb6'
                 clear hb6' x9 x10 x11 x12 x13 x14 x15 x16 x19)
              | fail)
            go_meet
            case rel => exact ⟨by rw [hg.out], hb6⟩
      case rest =>
        obtain ⟨rfl, hbc⟩ := hcut
        cases G2 with
        | true =>
          have hRf := hR02.out rfl
          subst hRf
          go_wp2_with fail
          go_ret
          exact ⟨rfl, hbw1.out.trans (hbc.out.mono hbw1.out.size)⟩
        | false =>
          have hR3 : Hid ((∀ j, j < d.pon → ptB (ps j) = true) → (∀ j, j < d.arn → bdB (bs j) = true) → R = true) := hR31.out rfl
          clear hR31 hR02 hG2u hG2p hG2a hG2t
          have y16 := (hbc.out.cell (p := ⟨w.heap.size, 16, none⟩) (by exact hs1)).trans x16
          have y19 := (hbc.out.cell (p := ⟨w.heap.size, 19, none⟩) (by exact hs1)).trans x19
          have hbw : Hid (Below w.heap.size w wc) := hbw1.out.trans (hbc.out.mono hbw1.out.size)
          have hsW : w.heap.size < wc.heap.size := Nat.lt_of_lt_of_le hs1 hbc.out.size
          clear hbc x0 x9 x10 x11 x12 x13 x14 x15 x16 x19 h38 h39 hbw1 hs0 hs1
          have x16 := y16
          have x19 := y19
          clear y16 y19
          obtain ⟨W, rfl⟩ : ∃ z, z = wc := ⟨_, rfl⟩
          go_wp2_with fail
          go_loopw [55] (fun v wr => ∃ i : Nat, i ≤ d.pon ∧ v = .int .i64 i ∧ Hid (∀ j, j < i → ptB (ps j) = true) ∧ Below W.heap.size W wr) (fun v _ => d.pon - (intOf v).toNat)
          case atStart => exact ⟨0, Nat.zero_le _, rfl, fun j hj => by omega, Below.refl _ _⟩
          case round =>
            obtain ⟨i, hi, rfl, hz, hbr⟩ := hrel
            have hW : Hid (Below w.heap.size w wr) := hbw.out.trans (hbr.mono hbw.out.size)
            by_cases hlt : i < d.pon
            · have hlt' : (i : Int) < (d.pon : Int) := by omega
              have hpl := hP'.out.1
              obtain ⟨b, o, rfl, hbl, ds, hds⟩ := hP'.out.2.resolve_left (by omega)
              obtain ⟨z0, z1, z2, z3⟩ := (hds i hlt).1.below hW.out hbl
              have hok : Hid (PtOk wr (ps i) (ds i)) := (hds i hlt).2.below hW.out
              have hb2 : Hid (Below wr.heap.size wr (wr.alloc (.cells #[.string (ds i).m, .bool (ds i).g, .slice (ds i).aq (ds i).an (ds i).ac, .slice (ds i).cq (ds i).cn (ds i).cc] 82))) := below_alloc wr _
              have hcl := hlp.out (ds i) (ps i) _ (hok.out.below hb2.out)
              have hbr' : Hid (Below W.heap.size W wr) := hbr
              clear hbr hds x16 x19
              obtain ⟨B, hB9⟩ : ∃ B, Hid (ptB (ps i) = B) := ⟨_, rfl⟩
              rw [hB9.out] at hcl
              cases B with
              | false =>
                have hRf := hR1.out i hlt hB9.out
                subst hRf
                go_wp2_with (go_at_call 37; with_reducible refine hcl.mono ?_; rintro e w3 ⟨rfl, hb3⟩)
                go_ret
                exact ⟨rfl, hW.out.trans ((hb2.out.trans (hb3.mono hb2.out.size)).mono hW.out.size)⟩
              | true =>
                have hz' : Hid (∀ j, j < i + 1 → ptB (ps j) = true) := fun j hj => by
                  rcases Nat.lt_or_ge j i with h | h
                  · exact hz.out j h
                  · have : j = i := by omega
                    subst this; exact hB9.out
                go_wp2_with (go_at_call 37; with_reducible refine hcl.mono ?_; rintro e w3 ⟨rfl, hb3⟩)
                go_roundw
                case rel => exact ⟨i + 1, by omega, by go_num, hz', hbr'.out.trans ((hb2.out.trans (hb3.mono hb2.out.size)).mono hbr'.out.size)⟩
                case measure => simp [intOf]; omega
            · obtain rfl : i = d.pon := by omega
              have hR4 : Hid ((∀ j, j < d.arn → bdB (bs j) = true) → R = true) := hR3.out hz.out
              have y19 := (hbr.cell (p := ⟨w.heap.size, 19, none⟩) (by exact hsW)).trans x19
              have hbr' : Hid (Below W.heap.size W wr) := hbr
              clear x16 x19 hbr hz hR3
              obtain ⟨W2, rfl⟩ : ∃ z, z = wr := ⟨_, rfl⟩
              go_wp2_with fail
              go_loopw [66] (fun v wz => ∃ i : Nat, i ≤ d.arn ∧ v = .int .i64 i ∧ Hid (∀ j, j < i → bdB (bs j) = true) ∧ Below W2.heap.size W2 wz) (fun v _ => d.arn - (intOf v).toNat)
              case atStart => exact ⟨0, Nat.zero_le _, rfl, fun j hj => by omega, Below.refl _ _⟩
              case round =>
                obtain ⟨i, hi, rfl, hz, hbr⟩ := hrel
                have hW3 : Hid (Below w.heap.size w wr) := hW.out.trans (hbr.mono hW.out.size)
                by_cases hlt : i < d.arn
                · have hlt' : (i : Int) < (d.arn : Int) := by omega
                  have hpl := hB'.out.1
                  obtain ⟨b, o, rfl, hbl, ds, hds⟩ := hB'.out.2.resolve_left (by omega)
                  obtain ⟨z0, z1, z2, z3, z4, z5, z6, z7⟩ := (hds i hlt).1.below hW3.out hbl
                  have hok : Hid (BdOk wr (bs i) (ds i)) := (hds i hlt).2.below hW3.out
                  have hb2 : Hid (Below wr.heap.size wr (wr.alloc (.cells #[.string (ds i).m, .int .i64 (ds i).ek, .int .i64 (ds i).ef, .bool (ds i).eg, .slice (ds i).eaq (ds i).ean (ds i).eac, .slice (ds i).ecq (ds i).ecn (ds i).ecc, .string (ds i).em, .slice (ds i).esq (ds i).esn (ds i).esc] 84))) := below_alloc wr _
                  have hcl := qValid_ok (hok.out.2.below hb2.out)
                  simp only [Bi.nd, Nd.val] at hcl
                  have hbr' : Hid (Below W2.heap.size W2 wr) := hbr
                  clear hbr hds y19
                  obtain ⟨B, hB9⟩ : ∃ B, Hid (bdB (bs i) = B) := ⟨_, rfl⟩
                  have hB8 : ((bs i).x.cnt 1 0).isSome = B := hB9.out
                  rw [hB8] at hcl
                  clear hB8
                  cases B with
                  | false =>
                    have hRf := hR2.out i hlt hB9.out
                    subst hRf
                    go_wp2_with (go_at_call 39; with_reducible refine hcl.mono ?_; rintro e w3 ⟨rfl, hb3⟩)
                    go_ret
                    exact ⟨rfl, hW3.out.trans ((hb2.out.trans (hb3.mono hb2.out.size)).mono hW3.out.size)⟩
                  | true =>
                    have hz' : Hid (∀ j, j < i + 1 → bdB (bs j) = true) := fun j hj => by
                      rcases Nat.lt_or_ge j i with h | h
                      · exact hz.out j h
                      · have : j = i := by omega
                        subst this; exact hB9.out
                    go_wp2_with (go_at_call 39; with_reducible refine hcl.mono ?_; rintro e w3 ⟨rfl, hb3⟩)
                    go_roundw
                    case rel => exact ⟨i + 1, by omega, by go_num, hz', hbr'.out.trans ((hb2.out.trans (hb3.mono hb2.out.size)).mono hbr'.out.size)⟩
                    case measure => simp [intOf]; omega
                · obtain rfl : i = d.arn := by omega
                  have hRt := hR4.out hz.out
                  subst hRt
                  clear hz
                  go_wp2_with fail
                  go_ret
                  exact ⟨rfl, hW3.out⟩
end Go.Proofs.YtgmbeedbeahblaaGreatDoor
