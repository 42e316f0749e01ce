/-
  check.fields.
-/
import Derived.Test.YtlmifjdbjhcceaaGreatDoorDvK
namespace Go.Proofs.YtlmifjdbjhcceaaGreatDoor
open Go Go.RowKit

def Va.cells (d : Va) : List Value := [.string d.m, .bool d.g, .slice d.aq d.an d.ac, .slice d.cq d.cn d.cc]
def Bi.cells (d : Bi) : List Value := [.string d.m, .int .i64 d.ek, .int .i64 d.ef, .bool d.eg, .slice d.eaq d.ean d.eac, .slice d.ecq d.ecn d.ecc, .string d.em, .slice d.esq d.esn d.esc]
theorem one_va (d : Va) : ∀ u ∈ d.cells, u.oneCell' = true := by
  intro u hu
  simp only [Va.cells, List.mem_cons, List.not_mem_nil, or_false] at hu
  rcases hu with rfl | rfl | rfl | rfl <;> rfl
theorem one_bi (d : Bi) : ∀ u ∈ d.cells, u.oneCell' = true := by
  intro u hu
  simp only [Bi.cells, List.mem_cons, List.not_mem_nil, or_false] at hu
  rcases hu with rfl | rfl | rfl | rfl | rfl | rfl | rfl | rfl <;> rfl
theorem va_row : ∃ d, Tryz.prog.underlying 62 = some d ∧ d.isRow = true := ⟨_, Tryz.underlying62, rfl⟩
theorem bi_row : ∃ d, Tryz.prog.underlying 65 = some d ∧ d.isRow = true := ⟨_, Tryz.underlying65, rfl⟩
theorem va_size : (Tryz.prog.info? 62).map (·.size) = some 4 := by kernel_rfl
theorem bi_size : (Tryz.prog.info? 65).map (·.size) = some 8 := by kernel_rfl

set_option maxRecDepth 100000 in
set_option maxHeartbeats 4000000 in
theorem fields_walk {w : World} {d : Sd} {nu de : List Int} {ex : Ex} (ps : Nat → Pt) (bs : Nat → Bd) (xs : Nat → Va) (ys : Nat → Bi) (hn : d.pon ≤ 1048576) (hn2 : d.arn ≤ 1048576)
    (hR : ∀ z, Below w.heap.size w z → Calls Tryz.prog 77 #[.agg #[.bool d.s.g, .slice d.aq d.an d.ac, .slice d.cq d.cn d.cc]] z fun e w' => ∃ q1 c1 q2 c2, e = .returned (.agg #[.bool d.s.g, .slice q1 d.an c1, .slice q2 d.cn c2]) ∧ SlA w' (Fresh z w') (.slice q1 d.an c1) nu ∧ SlA w' (Fresh z w') (.slice q2 d.cn c2) de ∧ Below z.heap.size z w')
    (hE : ∀ z, Below w.heap.size w z → Calls Tryz.prog 78 #[.agg #[.int .i64 d.e.k, .int .i64 d.e.f, .bool d.e.neg, .slice d.e.aq d.e.an d.e.ac, .slice d.e.cq d.e.cn d.e.cc, .string d.e.m, .slice d.e.sq d.e.sn d.e.sc]] z fun e w' => ∃ e' : Nd, e = .returned (.agg #[.int .i64 e'.k, .int .i64 e'.f, .bool e'.neg, .slice e'.aq e'.an e'.ac, .slice e'.cq e'.cn e'.cc, .string e'.m, .slice e'.sq e'.sn e'.sc]) ∧ ExA w' (Fresh z w') ex e' ∧ Below z.heap.size z w')
    (hp0 : d.pon = 0 ∨ ∃ b o, d.poq = some ⟨b, o, none⟩ ∧ b < w.heap.size ∧ ∀ i, i < d.pon → w.rangeAt b (o + i * 4) (xs i).cells)
    (hPeq : ∀ i, i < d.pon → (xs i).m = (ps i).m ∧ (xs i).g = (ps i).g ∧ (ps i).nu.length ≤ 1048576 ∧ (ps i).de.length ≤ 1048576)
    (hPt : ∀ i, i < d.pon → ∀ z, Below w.heap.size w z → Calls Tryz.prog 77 #[.agg #[.bool (xs i).g, .slice (xs i).aq (xs i).an (xs i).ac, .slice (xs i).cq (xs i).cn (xs i).cc]] z fun e w' => ∃ r1 s1 r2 s2, e = .returned (.agg #[.bool (xs i).g, .slice r1 (xs i).an s1, .slice r2 (xs i).cn s2]) ∧ SlA w' (Fresh z w') (.slice r1 (xs i).an s1) (ps i).nu ∧ SlA w' (Fresh z w') (.slice r2 (xs i).cn s2) (ps i).de ∧ Below z.heap.size z w')
    (hb0 : d.arn = 0 ∨ ∃ b o, d.arq = some ⟨b, o, none⟩ ∧ b < w.heap.size ∧ ∀ i, i < d.arn → w.rangeAt b (o + i * 8) (ys i).cells)
    (hBeq : ∀ i, i < d.arn → (ys i).m = (bs i).m)
    (hBd : ∀ i, i < d.arn → ∀ z, Below w.heap.size w z → Calls Tryz.prog 78 #[.agg #[.int .i64 (ys i).ek, .int .i64 (ys i).ef, .bool (ys i).eg, .slice (ys i).eaq (ys i).ean (ys i).eac, .slice (ys i).ecq (ys i).ecn (ys i).ecc, .string (ys i).em, .slice (ys i).esq (ys i).esn (ys i).esc]] z fun e w' => ∃ f' : Nd, e = .returned (.agg #[.int .i64 f'.k, .int .i64 f'.f, .bool f'.neg, .slice f'.aq f'.an f'.ac, .slice f'.cq f'.cn f'.cc, .string f'.m, .slice f'.sq f'.sn f'.sc]) ∧ ExA w' (Fresh z w') (bs i).x f' ∧ Below z.heap.size z w') :
    Calls Tryz.prog 54 #[.agg #[.int .i64 d.s.ru, .string d.s.nm, .string d.s.ot, .bool d.s.g, .slice d.aq d.an d.ac, .slice d.cq d.cn d.cc, .int .i64 d.s.kk, .int .i64 d.s.nn, .int .i64 d.s.pr, .int .i64 d.e.k, .int .i64 d.e.f, .bool d.e.neg, .slice d.e.aq d.e.an d.e.ac, .slice d.e.cq d.e.cn d.e.cc, .string d.e.m, .slice d.e.sq d.e.sn d.e.sc, .slice d.poq d.pon d.poc, .string d.s.en, .int .i64 d.s.ve, .slice d.arq d.arn d.arc, .slice d.kiq d.kin d.kic]] w fun e w' => ∃ (q1 : Option Addr) (c1 : Nat) (q2 : Option Addr) (c2 : Nat) (e' : Nd) (q3 : Option Addr) (c3 : Nat) (q4 : Option Addr) (c4 : Nat), e = .returned (.agg #[.int .i64 d.s.ru, .string d.s.nm, .string d.s.ot, .bool d.s.g, .slice q1 d.an c1, .slice q2 d.cn c2, .int .i64 d.s.kk, .int .i64 d.s.nn, .int .i64 d.s.pr, .int .i64 e'.k, .int .i64 e'.f, .bool e'.neg, .slice e'.aq e'.an e'.ac, .slice e'.cq e'.cn e'.cc, .string e'.m, .slice e'.sq e'.sn e'.sc, .slice q3 d.pon c3, .string d.s.en, .int .i64 d.s.ve, .slice q4 d.arn c4, .slice none 0 0]) ∧ SlA w' (Fresh w w') (.slice q1 d.an c1) nu ∧ SlA w' (Fresh w w') (.slice q2 d.cn c2) de ∧ ExA w' (Fresh w w') ex e' ∧ PtsA w' (Fresh w w') q3 d.pon ps ∧ BdsA w' (Fresh w w') q4 d.arn bs ∧ Below w.heap.size w w' := by
  have hp : Hid (d.pon = 0 ∨ ∃ b o, d.poq = some ⟨b, o, none⟩ ∧ b < w.heap.size ∧ ∀ i, i < d.pon → w.rangeAt b (o + i * 4) (xs i).cells) := hp0
  have hb : Hid (d.arn = 0 ∨ ∃ b o, d.arq = some ⟨b, o, none⟩ ∧ b < w.heap.size ∧ ∀ i, i < d.arn → w.rangeAt b (o + i * 8) (ys i).cells) := hb0
  clear hp0 hb0
  obtain ⟨dd, hu, hd⟩ := st_row
  have hHu : Hid (Tryz.prog.underlying 32 = some dd) := hu
  clear hu
  go_enter Tryz.func54, Tryz.ntmps54
  go_wp2_with (first
    | (with_reducible refine wpList_load_mid ?_ 32 (.tmp 1) ?_ w.heap.size 0 ?_ [.int .i64 d.s.ru, .string d.s.nm, .string d.s.ot, .bool d.s.g, .slice d.aq d.an d.ac, .slice d.cq d.cn d.cc, .int .i64 d.s.kk, .int .i64 d.s.nn, .int .i64 d.s.pr, .int .i64 d.e.k, .int .i64 d.e.f, .bool d.e.neg, .slice d.e.aq d.e.an d.e.ac, .slice d.e.cq d.e.cn d.e.cc, .string d.e.m, .slice d.e.sq d.e.sn d.e.sc, .slice d.poq d.pon d.poc, .string d.s.en, .int .i64 d.s.ve, .slice d.arq d.arn d.arc, .slice d.kiq d.kin d.kic] dd (World.rangeAt_alloc (range_new w _ 32) _) hHu.out hd ?_ ?_
       rotate_left 1
       · with_reducible rfl
       · rfl
       · exact st_size
       rotate_left 1
       · rfl)
    | (with_reducible refine wpList_store_new ?_ 32 (.tmp 3) (.tmp 8) ?_ #[.int .i64 d.s.ru, .string d.s.nm, .string d.s.ot, .bool d.s.g, .slice d.aq d.an d.ac, .slice d.cq d.cn d.cc, .int .i64 d.s.kk, .int .i64 d.s.nn, .int .i64 d.s.pr, .int .i64 d.e.k, .int .i64 d.e.f, .bool d.e.neg, .slice d.e.aq d.e.an d.e.ac, .slice d.e.cq d.e.cn d.e.cc, .string d.e.m, .slice d.e.sq d.e.sn d.e.sc, .slice d.poq d.pon d.poc, .string d.s.en, .int .i64 d.s.ve, .slice d.arq d.arn d.arc, .slice d.kiq d.kin d.kic] (w.heap.size + 2) ?_ ?_ ?_ ?_ ?_ ?_ ?_
       rotate_left 1
       · with_reducible rfl
       · simp
       · rfl
       · rfl
       · rfl
       · exact st_size
       · exact all_oneCell_toArray (one_sd d)
       rotate_left 1
       · rfl))
  simp only [Act.put]
  generalize hw1 : ((w.alloc _).alloc _).alloc _ = w1
  have hz1 : w1.heap.size = w.heap.size + 3 := by rw [← hw1]; simp
  have hbox1 : w1.heap[w.heap.size]? = some (.cells #[.int .i64 d.s.ru, .string d.s.nm, .string d.s.ot, .bool d.s.g, .slice d.aq d.an d.ac, .slice d.cq d.cn d.cc, .int .i64 d.s.kk, .int .i64 d.s.nn, .int .i64 d.s.pr, .int .i64 d.e.k, .int .i64 d.e.f, .bool d.e.neg, .slice d.e.aq d.e.an d.e.ac, .slice d.e.cq d.e.cn d.e.cc, .string d.e.m, .slice d.e.sq d.e.sn d.e.sc, .slice d.poq d.pon d.poc, .string d.s.en, .int .i64 d.s.ve, .slice d.arq d.arn d.arc, .slice d.kiq d.kin d.kic] 32 (0, 0)) := by
    rw [← hw1, Below.heap_alloc _ _ _ (by simp; omega), Below.heap_alloc _ _ _ (by simp)]
    exact heap_alloc_last w _
  have hres1 : w1.heap[w.heap.size + 1]? = some (.cells #[.int .i64 0, .string ⟨#[]⟩, .string ⟨#[]⟩, .bool false, .slice none 0 0, .slice none 0 0, .int .i64 0, .int .i64 0, .int .i64 0, .int .i64 0, .int .i64 0, .bool false, .slice none 0 0, .slice none 0 0, .string ⟨#[]⟩, .slice none 0 0, .slice none 0 0, .string ⟨#[]⟩, .int .i64 0, .slice none 0 0, .slice none 0 0] 32 (0, 0)) := by
    rw [← hw1, Below.heap_alloc _ _ _ (by simp)]
    have h := heap_alloc_last (w.alloc (.cells #[.int .i64 d.s.ru, .string d.s.nm, .string d.s.ot, .bool d.s.g, .slice d.aq d.an d.ac, .slice d.cq d.cn d.cc, .int .i64 d.s.kk, .int .i64 d.s.nn, .int .i64 d.s.pr, .int .i64 d.e.k, .int .i64 d.e.f, .bool d.e.neg, .slice d.e.aq d.e.an d.e.ac, .slice d.e.cq d.e.cn d.e.cc, .string d.e.m, .slice d.e.sq d.e.sn d.e.sc, .slice d.poq d.pon d.poc, .string d.s.en, .int .i64 d.s.ve, .slice d.arq d.arn d.arc, .slice d.kiq d.kin d.kic] 32)) (.cells #[.int .i64 0, .string ⟨#[]⟩, .string ⟨#[]⟩, .bool false, .slice none 0 0, .slice none 0 0, .int .i64 0, .int .i64 0, .int .i64 0, .int .i64 0, .int .i64 0, .bool false, .slice none 0 0, .slice none 0 0, .string ⟨#[]⟩, .slice none 0 0, .slice none 0 0, .string ⟨#[]⟩, .int .i64 0, .slice none 0 0, .slice none 0 0] 32 (0, 0))
    rw [show (w.alloc (.cells #[.int .i64 d.s.ru, .string d.s.nm, .string d.s.ot, .bool d.s.g, .slice d.aq d.an d.ac, .slice d.cq d.cn d.cc, .int .i64 d.s.kk, .int .i64 d.s.nn, .int .i64 d.s.pr, .int .i64 d.e.k, .int .i64 d.e.f, .bool d.e.neg, .slice d.e.aq d.e.an d.e.ac, .slice d.e.cq d.e.cn d.e.cc, .string d.e.m, .slice d.e.sq d.e.sn d.e.sc, .slice d.poq d.pon d.poc, .string d.s.en, .int .i64 d.s.ve, .slice d.arq d.arn d.arc, .slice d.kiq d.kin d.kic] 32)).heap.size = w.heap.size + 1 by simp] at h
    exact h
  have hblk1 : w1.heap[w.heap.size + 2]? = some (.cells #[.int .i64 d.s.ru, .string d.s.nm, .string d.s.ot, .bool d.s.g, .slice d.aq d.an d.ac, .slice d.cq d.cn d.cc, .int .i64 d.s.kk, .int .i64 d.s.nn, .int .i64 d.s.pr, .int .i64 d.e.k, .int .i64 d.e.f, .bool d.e.neg, .slice d.e.aq d.e.an d.e.ac, .slice d.e.cq d.e.cn d.e.cc, .string d.e.m, .slice d.e.sq d.e.sn d.e.sc, .slice d.poq d.pon d.poc, .string d.s.en, .int .i64 d.s.ve, .slice d.arq d.arn d.arc, .slice d.kiq d.kin d.kic] 32 (0, 0)) := by
    rw [← hw1]
    have h := heap_alloc_last ((w.alloc (.cells #[.int .i64 d.s.ru, .string d.s.nm, .string d.s.ot, .bool d.s.g, .slice d.aq d.an d.ac, .slice d.cq d.cn d.cc, .int .i64 d.s.kk, .int .i64 d.s.nn, .int .i64 d.s.pr, .int .i64 d.e.k, .int .i64 d.e.f, .bool d.e.neg, .slice d.e.aq d.e.an d.e.ac, .slice d.e.cq d.e.cn d.e.cc, .string d.e.m, .slice d.e.sq d.e.sn d.e.sc, .slice d.poq d.pon d.poc, .string d.s.en, .int .i64 d.s.ve, .slice d.arq d.arn d.arc, .slice d.kiq d.kin d.kic] 32)).alloc (.cells #[.int .i64 0, .string ⟨#[]⟩, .string ⟨#[]⟩, .bool false, .slice none 0 0, .slice none 0 0, .int .i64 0, .int .i64 0, .int .i64 0, .int .i64 0, .int .i64 0, .bool false, .slice none 0 0, .slice none 0 0, .string ⟨#[]⟩, .slice none 0 0, .slice none 0 0, .string ⟨#[]⟩, .int .i64 0, .slice none 0 0, .slice none 0 0] 32 (0, 0))) (.cells #[.int .i64 d.s.ru, .string d.s.nm, .string d.s.ot, .bool d.s.g, .slice d.aq d.an d.ac, .slice d.cq d.cn d.cc, .int .i64 d.s.kk, .int .i64 d.s.nn, .int .i64 d.s.pr, .int .i64 d.e.k, .int .i64 d.e.f, .bool d.e.neg, .slice d.e.aq d.e.an d.e.ac, .slice d.e.cq d.e.cn d.e.cc, .string d.e.m, .slice d.e.sq d.e.sn d.e.sc, .slice d.poq d.pon d.poc, .string d.s.en, .int .i64 d.s.ve, .slice d.arq d.arn d.arc, .slice d.kiq d.kin d.kic] 32 (0, 0))
    rw [show ((w.alloc (.cells #[.int .i64 d.s.ru, .string d.s.nm, .string d.s.ot, .bool d.s.g, .slice d.aq d.an d.ac, .slice d.cq d.cn d.cc, .int .i64 d.s.kk, .int .i64 d.s.nn, .int .i64 d.s.pr, .int .i64 d.e.k, .int .i64 d.e.f, .bool d.e.neg, .slice d.e.aq d.e.an d.e.ac, .slice d.e.cq d.e.cn d.e.cc, .string d.e.m, .slice d.e.sq d.e.sn d.e.sc, .slice d.poq d.pon d.poc, .string d.s.en, .int .i64 d.s.ve, .slice d.arq d.arn d.arc, .slice d.kiq d.kin d.kic] 32)).alloc (.cells #[.int .i64 0, .string ⟨#[]⟩, .string ⟨#[]⟩, .bool false, .slice none 0 0, .slice none 0 0, .int .i64 0, .int .i64 0, .int .i64 0, .int .i64 0, .int .i64 0, .bool false, .slice none 0 0, .slice none 0 0, .string ⟨#[]⟩, .slice none 0 0, .slice none 0 0, .string ⟨#[]⟩, .int .i64 0, .slice none 0 0, .slice none 0 0] 32 (0, 0))).heap.size = w.heap.size + 2 by simp] at h
    exact h
  have hW1 : Below w.heap.size w w1 := by rw [← hw1]; exact (below_two w _ _).alloc (by simp; omega) _
  clear hw1
  have hS1 : (fun z => Below w.heap.size w z ∧ w.heap.size + 3 ≤ z.heap.size ∧ z.heap[w.heap.size]? = some (.cells #[.int .i64 d.s.ru, .string d.s.nm, .string d.s.ot, .bool d.s.g, .slice d.aq d.an d.ac, .slice d.cq d.cn d.cc, .int .i64 d.s.kk, .int .i64 d.s.nn, .int .i64 d.s.pr, .int .i64 d.e.k, .int .i64 d.e.f, .bool d.e.neg, .slice d.e.aq d.e.an d.e.ac, .slice d.e.cq d.e.cn d.e.cc, .string d.e.m, .slice d.e.sq d.e.sn d.e.sc, .slice d.poq d.pon d.poc, .string d.s.en, .int .i64 d.s.ve, .slice d.arq d.arn d.arc, .slice d.kiq d.kin d.kic] 32 (0, 0)) ∧ z.heap[w.heap.size + 1]? = some (.cells #[.int .i64 0, .string ⟨#[]⟩, .string ⟨#[]⟩, .bool false, .slice none 0 0, .slice none 0 0, .int .i64 0, .int .i64 0, .int .i64 0, .int .i64 0, .int .i64 0, .bool false, .slice none 0 0, .slice none 0 0, .string ⟨#[]⟩, .slice none 0 0, .slice none 0 0, .string ⟨#[]⟩, .int .i64 0, .slice none 0 0, .slice none 0 0] 32 (0, 0)) ∧ z.cell? ⟨w.heap.size, 3, none⟩ = some (.bool d.s.g) ∧ z.cell? ⟨w.heap.size, 4, none⟩ = some (.slice d.aq d.an d.ac) ∧ z.cell? ⟨w.heap.size, 5, none⟩ = some (.slice d.cq d.cn d.cc) ∧ z.cell? ⟨w.heap.size, 9, none⟩ = some (.int .i64 d.e.k) ∧ z.cell? ⟨w.heap.size, 10, none⟩ = some (.int .i64 d.e.f) ∧ z.cell? ⟨w.heap.size, 11, none⟩ = some (.bool d.e.neg) ∧ z.cell? ⟨w.heap.size, 12, none⟩ = some (.slice d.e.aq d.e.an d.e.ac) ∧ z.cell? ⟨w.heap.size, 13, none⟩ = some (.slice d.e.cq d.e.cn d.e.cc) ∧ z.cell? ⟨w.heap.size, 14, none⟩ = some (.string d.e.m) ∧ z.cell? ⟨w.heap.size, 15, none⟩ = some (.slice d.e.sq d.e.sn d.e.sc)) w1 := ⟨hW1, by omega, hbox1, hres1, by rw [cell_of_row _ _ _ _ _ _ hbox1]; rfl, by rw [cell_of_row _ _ _ _ _ _ hbox1]; rfl, by rw [cell_of_row _ _ _ _ _ _ hbox1]; rfl, by rw [cell_of_row _ _ _ _ _ _ hbox1]; rfl, by rw [cell_of_row _ _ _ _ _ _ hbox1]; rfl, by rw [cell_of_row _ _ _ _ _ _ hbox1]; rfl, by rw [cell_of_row _ _ _ _ _ _ hbox1]; rfl, by rw [cell_of_row _ _ _ _ _ _ hbox1]; rfl, by rw [cell_of_row _ _ _ _ _ _ hbox1]; rfl, by rw [cell_of_row _ _ _ _ _ _ hbox1]; rfl⟩
  have tr : ∀ z z', (fun z => Below w.heap.size w z ∧ w.heap.size + 3 ≤ z.heap.size ∧ z.heap[w.heap.size]? = some (.cells #[.int .i64 d.s.ru, .string d.s.nm, .string d.s.ot, .bool d.s.g, .slice d.aq d.an d.ac, .slice d.cq d.cn d.cc, .int .i64 d.s.kk, .int .i64 d.s.nn, .int .i64 d.s.pr, .int .i64 d.e.k, .int .i64 d.e.f, .bool d.e.neg, .slice d.e.aq d.e.an d.e.ac, .slice d.e.cq d.e.cn d.e.cc, .string d.e.m, .slice d.e.sq d.e.sn d.e.sc, .slice d.poq d.pon d.poc, .string d.s.en, .int .i64 d.s.ve, .slice d.arq d.arn d.arc, .slice d.kiq d.kin d.kic] 32 (0, 0)) ∧ z.heap[w.heap.size + 1]? = some (.cells #[.int .i64 0, .string ⟨#[]⟩, .string ⟨#[]⟩, .bool false, .slice none 0 0, .slice none 0 0, .int .i64 0, .int .i64 0, .int .i64 0, .int .i64 0, .int .i64 0, .bool false, .slice none 0 0, .slice none 0 0, .string ⟨#[]⟩, .slice none 0 0, .slice none 0 0, .string ⟨#[]⟩, .int .i64 0, .slice none 0 0, .slice none 0 0] 32 (0, 0)) ∧ z.cell? ⟨w.heap.size, 3, none⟩ = some (.bool d.s.g) ∧ z.cell? ⟨w.heap.size, 4, none⟩ = some (.slice d.aq d.an d.ac) ∧ z.cell? ⟨w.heap.size, 5, none⟩ = some (.slice d.cq d.cn d.cc) ∧ z.cell? ⟨w.heap.size, 9, none⟩ = some (.int .i64 d.e.k) ∧ z.cell? ⟨w.heap.size, 10, none⟩ = some (.int .i64 d.e.f) ∧ z.cell? ⟨w.heap.size, 11, none⟩ = some (.bool d.e.neg) ∧ z.cell? ⟨w.heap.size, 12, none⟩ = some (.slice d.e.aq d.e.an d.e.ac) ∧ z.cell? ⟨w.heap.size, 13, none⟩ = some (.slice d.e.cq d.e.cn d.e.cc) ∧ z.cell? ⟨w.heap.size, 14, none⟩ = some (.string d.e.m) ∧ z.cell? ⟨w.heap.size, 15, none⟩ = some (.slice d.e.sq d.e.sn d.e.sc)) z → Below z.heap.size z z' → (fun z => Below w.heap.size w z ∧ w.heap.size + 3 ≤ z.heap.size ∧ z.heap[w.heap.size]? = some (.cells #[.int .i64 d.s.ru, .string d.s.nm, .string d.s.ot, .bool d.s.g, .slice d.aq d.an d.ac, .slice d.cq d.cn d.cc, .int .i64 d.s.kk, .int .i64 d.s.nn, .int .i64 d.s.pr, .int .i64 d.e.k, .int .i64 d.e.f, .bool d.e.neg, .slice d.e.aq d.e.an d.e.ac, .slice d.e.cq d.e.cn d.e.cc, .string d.e.m, .slice d.e.sq d.e.sn d.e.sc, .slice d.poq d.pon d.poc, .string d.s.en, .int .i64 d.s.ve, .slice d.arq d.arn d.arc, .slice d.kiq d.kin d.kic] 32 (0, 0)) ∧ z.heap[w.heap.size + 1]? = some (.cells #[.int .i64 0, .string ⟨#[]⟩, .string ⟨#[]⟩, .bool false, .slice none 0 0, .slice none 0 0, .int .i64 0, .int .i64 0, .int .i64 0, .int .i64 0, .int .i64 0, .bool false, .slice none 0 0, .slice none 0 0, .string ⟨#[]⟩, .slice none 0 0, .slice none 0 0, .string ⟨#[]⟩, .int .i64 0, .slice none 0 0, .slice none 0 0] 32 (0, 0)) ∧ z.cell? ⟨w.heap.size, 3, none⟩ = some (.bool d.s.g) ∧ z.cell? ⟨w.heap.size, 4, none⟩ = some (.slice d.aq d.an d.ac) ∧ z.cell? ⟨w.heap.size, 5, none⟩ = some (.slice d.cq d.cn d.cc) ∧ z.cell? ⟨w.heap.size, 9, none⟩ = some (.int .i64 d.e.k) ∧ z.cell? ⟨w.heap.size, 10, none⟩ = some (.int .i64 d.e.f) ∧ z.cell? ⟨w.heap.size, 11, none⟩ = some (.bool d.e.neg) ∧ z.cell? ⟨w.heap.size, 12, none⟩ = some (.slice d.e.aq d.e.an d.e.ac) ∧ z.cell? ⟨w.heap.size, 13, none⟩ = some (.slice d.e.cq d.e.cn d.e.cc) ∧ z.cell? ⟨w.heap.size, 14, none⟩ = some (.string d.e.m) ∧ z.cell? ⟨w.heap.size, 15, none⟩ = some (.slice d.e.sq d.e.sn d.e.sc)) z' := by
    rintro z z' ⟨a0, a1, a2, a3, x3, x4, x5, x9, x10, x11, x12, x13, x14, x15⟩ hb
    have hs := hb.size
    exact ⟨a0.trans (hb.mono a0.size), by omega, (hb.block _ (by omega)).trans a2, (hb.block _ (by omega)).trans a3, (hb.cell (by show w.heap.size < _; omega)).trans x3, (hb.cell (by show w.heap.size < _; omega)).trans x4, (hb.cell (by show w.heap.size < _; omega)).trans x5, (hb.cell (by show w.heap.size < _; omega)).trans x9, (hb.cell (by show w.heap.size < _; omega)).trans x10, (hb.cell (by show w.heap.size < _; omega)).trans x11, (hb.cell (by show w.heap.size < _; omega)).trans x12, (hb.cell (by show w.heap.size < _; omega)).trans x13, (hb.cell (by show w.heap.size < _; omega)).trans x14, (hb.cell (by show w.heap.size < _; omega)).trans x15⟩
  have ts : ∀ z B j u, w.heap.size + 2 ≤ B → (fun z => Below w.heap.size w z ∧ w.heap.size + 3 ≤ z.heap.size ∧ z.heap[w.heap.size]? = some (.cells #[.int .i64 d.s.ru, .string d.s.nm, .string d.s.ot, .bool d.s.g, .slice d.aq d.an d.ac, .slice d.cq d.cn d.cc, .int .i64 d.s.kk, .int .i64 d.s.nn, .int .i64 d.s.pr, .int .i64 d.e.k, .int .i64 d.e.f, .bool d.e.neg, .slice d.e.aq d.e.an d.e.ac, .slice d.e.cq d.e.cn d.e.cc, .string d.e.m, .slice d.e.sq d.e.sn d.e.sc, .slice d.poq d.pon d.poc, .string d.s.en, .int .i64 d.s.ve, .slice d.arq d.arn d.arc, .slice d.kiq d.kin d.kic] 32 (0, 0)) ∧ z.heap[w.heap.size + 1]? = some (.cells #[.int .i64 0, .string ⟨#[]⟩, .string ⟨#[]⟩, .bool false, .slice none 0 0, .slice none 0 0, .int .i64 0, .int .i64 0, .int .i64 0, .int .i64 0, .int .i64 0, .bool false, .slice none 0 0, .slice none 0 0, .string ⟨#[]⟩, .slice none 0 0, .slice none 0 0, .string ⟨#[]⟩, .int .i64 0, .slice none 0 0, .slice none 0 0] 32 (0, 0)) ∧ z.cell? ⟨w.heap.size, 3, none⟩ = some (.bool d.s.g) ∧ z.cell? ⟨w.heap.size, 4, none⟩ = some (.slice d.aq d.an d.ac) ∧ z.cell? ⟨w.heap.size, 5, none⟩ = some (.slice d.cq d.cn d.cc) ∧ z.cell? ⟨w.heap.size, 9, none⟩ = some (.int .i64 d.e.k) ∧ z.cell? ⟨w.heap.size, 10, none⟩ = some (.int .i64 d.e.f) ∧ z.cell? ⟨w.heap.size, 11, none⟩ = some (.bool d.e.neg) ∧ z.cell? ⟨w.heap.size, 12, none⟩ = some (.slice d.e.aq d.e.an d.e.ac) ∧ z.cell? ⟨w.heap.size, 13, none⟩ = some (.slice d.e.cq d.e.cn d.e.cc) ∧ z.cell? ⟨w.heap.size, 14, none⟩ = some (.string d.e.m) ∧ z.cell? ⟨w.heap.size, 15, none⟩ = some (.slice d.e.sq d.e.sn d.e.sc)) z → (fun z => Below w.heap.size w z ∧ w.heap.size + 3 ≤ z.heap.size ∧ z.heap[w.heap.size]? = some (.cells #[.int .i64 d.s.ru, .string d.s.nm, .string d.s.ot, .bool d.s.g, .slice d.aq d.an d.ac, .slice d.cq d.cn d.cc, .int .i64 d.s.kk, .int .i64 d.s.nn, .int .i64 d.s.pr, .int .i64 d.e.k, .int .i64 d.e.f, .bool d.e.neg, .slice d.e.aq d.e.an d.e.ac, .slice d.e.cq d.e.cn d.e.cc, .string d.e.m, .slice d.e.sq d.e.sn d.e.sc, .slice d.poq d.pon d.poc, .string d.s.en, .int .i64 d.s.ve, .slice d.arq d.arn d.arc, .slice d.kiq d.kin d.kic] 32 (0, 0)) ∧ z.heap[w.heap.size + 1]? = some (.cells #[.int .i64 0, .string ⟨#[]⟩, .string ⟨#[]⟩, .bool false, .slice none 0 0, .slice none 0 0, .int .i64 0, .int .i64 0, .int .i64 0, .int .i64 0, .int .i64 0, .bool false, .slice none 0 0, .slice none 0 0, .string ⟨#[]⟩, .slice none 0 0, .slice none 0 0, .string ⟨#[]⟩, .int .i64 0, .slice none 0 0, .slice none 0 0] 32 (0, 0)) ∧ z.cell? ⟨w.heap.size, 3, none⟩ = some (.bool d.s.g) ∧ z.cell? ⟨w.heap.size, 4, none⟩ = some (.slice d.aq d.an d.ac) ∧ z.cell? ⟨w.heap.size, 5, none⟩ = some (.slice d.cq d.cn d.cc) ∧ z.cell? ⟨w.heap.size, 9, none⟩ = some (.int .i64 d.e.k) ∧ z.cell? ⟨w.heap.size, 10, none⟩ = some (.int .i64 d.e.f) ∧ z.cell? ⟨w.heap.size, 11, none⟩ = some (.bool d.e.neg) ∧ z.cell? ⟨w.heap.size, 12, none⟩ = some (.slice d.e.aq d.e.an d.e.ac) ∧ z.cell? ⟨w.heap.size, 13, none⟩ = some (.slice d.e.cq d.e.cn d.e.cc) ∧ z.cell? ⟨w.heap.size, 14, none⟩ = some (.string d.e.m) ∧ z.cell? ⟨w.heap.size, 15, none⟩ = some (.slice d.e.sq d.e.sn d.e.sc)) (z.setCell ⟨B, j, none⟩ u) := by
    rintro z B j u hB ⟨a0, a1, a2, a3, x3, x4, x5, x9, x10, x11, x12, x13, x14, x15⟩
    have hne : ¬ B = w.heap.size := by omega
    exact ⟨a0.setCell (by show _ ≤ B; omega) u, by simp; omega, (Below.heap_setCell _ _ _ _ (by show ¬ _ = B; omega)).trans a2, (Below.heap_setCell _ _ _ _ (by show ¬ _ = B; omega)).trans a3, (World.cell?_setCell_far _ _ _ _ (by simp [hne])).trans x3, (World.cell?_setCell_far _ _ _ _ (by simp [hne])).trans x4, (World.cell?_setCell_far _ _ _ _ (by simp [hne])).trans x5, (World.cell?_setCell_far _ _ _ _ (by simp [hne])).trans x9, (World.cell?_setCell_far _ _ _ _ (by simp [hne])).trans x10, (World.cell?_setCell_far _ _ _ _ (by simp [hne])).trans x11, (World.cell?_setCell_far _ _ _ _ (by simp [hne])).trans x12, (World.cell?_setCell_far _ _ _ _ (by simp [hne])).trans x13, (World.cell?_setCell_far _ _ _ _ (by simp [hne])).trans x14, (World.cell?_setCell_far _ _ _ _ (by simp [hne])).trans x15⟩
  have hSd : (fun z => Below w.heap.size w z ∧ w.heap.size + 3 ≤ z.heap.size ∧ z.heap[w.heap.size]? = some (.cells #[.int .i64 d.s.ru, .string d.s.nm, .string d.s.ot, .bool d.s.g, .slice d.aq d.an d.ac, .slice d.cq d.cn d.cc, .int .i64 d.s.kk, .int .i64 d.s.nn, .int .i64 d.s.pr, .int .i64 d.e.k, .int .i64 d.e.f, .bool d.e.neg, .slice d.e.aq d.e.an d.e.ac, .slice d.e.cq d.e.cn d.e.cc, .string d.e.m, .slice d.e.sq d.e.sn d.e.sc, .slice d.poq d.pon d.poc, .string d.s.en, .int .i64 d.s.ve, .slice d.arq d.arn d.arc, .slice d.kiq d.kin d.kic] 32 (0, 0)) ∧ z.heap[w.heap.size + 1]? = some (.cells #[.int .i64 0, .string ⟨#[]⟩, .string ⟨#[]⟩, .bool false, .slice none 0 0, .slice none 0 0, .int .i64 0, .int .i64 0, .int .i64 0, .int .i64 0, .int .i64 0, .bool false, .slice none 0 0, .slice none 0 0, .string ⟨#[]⟩, .slice none 0 0, .slice none 0 0, .string ⟨#[]⟩, .int .i64 0, .slice none 0 0, .slice none 0 0] 32 (0, 0)) ∧ z.cell? ⟨w.heap.size, 3, none⟩ = some (.bool d.s.g) ∧ z.cell? ⟨w.heap.size, 4, none⟩ = some (.slice d.aq d.an d.ac) ∧ z.cell? ⟨w.heap.size, 5, none⟩ = some (.slice d.cq d.cn d.cc) ∧ z.cell? ⟨w.heap.size, 9, none⟩ = some (.int .i64 d.e.k) ∧ z.cell? ⟨w.heap.size, 10, none⟩ = some (.int .i64 d.e.f) ∧ z.cell? ⟨w.heap.size, 11, none⟩ = some (.bool d.e.neg) ∧ z.cell? ⟨w.heap.size, 12, none⟩ = some (.slice d.e.aq d.e.an d.e.ac) ∧ z.cell? ⟨w.heap.size, 13, none⟩ = some (.slice d.e.cq d.e.cn d.e.cc) ∧ z.cell? ⟨w.heap.size, 14, none⟩ = some (.string d.e.m) ∧ z.cell? ⟨w.heap.size, 15, none⟩ = some (.slice d.e.sq d.e.sn d.e.sc)) w1.drew := ⟨hS1.1.drew, hS1.2⟩
  have tr' : Hid (∀ z z', (fun z => Below w.heap.size w z ∧ w.heap.size + 3 ≤ z.heap.size ∧ z.heap[w.heap.size]? = some (.cells #[.int .i64 d.s.ru, .string d.s.nm, .string d.s.ot, .bool d.s.g, .slice d.aq d.an d.ac, .slice d.cq d.cn d.cc, .int .i64 d.s.kk, .int .i64 d.s.nn, .int .i64 d.s.pr, .int .i64 d.e.k, .int .i64 d.e.f, .bool d.e.neg, .slice d.e.aq d.e.an d.e.ac, .slice d.e.cq d.e.cn d.e.cc, .string d.e.m, .slice d.e.sq d.e.sn d.e.sc, .slice d.poq d.pon d.poc, .string d.s.en, .int .i64 d.s.ve, .slice d.arq d.arn d.arc, .slice d.kiq d.kin d.kic] 32 (0, 0)) ∧ z.heap[w.heap.size + 1]? = some (.cells #[.int .i64 0, .string ⟨#[]⟩, .string ⟨#[]⟩, .bool false, .slice none 0 0, .slice none 0 0, .int .i64 0, .int .i64 0, .int .i64 0, .int .i64 0, .int .i64 0, .bool false, .slice none 0 0, .slice none 0 0, .string ⟨#[]⟩, .slice none 0 0, .slice none 0 0, .string ⟨#[]⟩, .int .i64 0, .slice none 0 0, .slice none 0 0] 32 (0, 0)) ∧ z.cell? ⟨w.heap.size, 3, none⟩ = some (.bool d.s.g) ∧ z.cell? ⟨w.heap.size, 4, none⟩ = some (.slice d.aq d.an d.ac) ∧ z.cell? ⟨w.heap.size, 5, none⟩ = some (.slice d.cq d.cn d.cc) ∧ z.cell? ⟨w.heap.size, 9, none⟩ = some (.int .i64 d.e.k) ∧ z.cell? ⟨w.heap.size, 10, none⟩ = some (.int .i64 d.e.f) ∧ z.cell? ⟨w.heap.size, 11, none⟩ = some (.bool d.e.neg) ∧ z.cell? ⟨w.heap.size, 12, none⟩ = some (.slice d.e.aq d.e.an d.e.ac) ∧ z.cell? ⟨w.heap.size, 13, none⟩ = some (.slice d.e.cq d.e.cn d.e.cc) ∧ z.cell? ⟨w.heap.size, 14, none⟩ = some (.string d.e.m) ∧ z.cell? ⟨w.heap.size, 15, none⟩ = some (.slice d.e.sq d.e.sn d.e.sc)) z → Below z.heap.size z z' → (fun z => Below w.heap.size w z ∧ w.heap.size + 3 ≤ z.heap.size ∧ z.heap[w.heap.size]? = some (.cells #[.int .i64 d.s.ru, .string d.s.nm, .string d.s.ot, .bool d.s.g, .slice d.aq d.an d.ac, .slice d.cq d.cn d.cc, .int .i64 d.s.kk, .int .i64 d.s.nn, .int .i64 d.s.pr, .int .i64 d.e.k, .int .i64 d.e.f, .bool d.e.neg, .slice d.e.aq d.e.an d.e.ac, .slice d.e.cq d.e.cn d.e.cc, .string d.e.m, .slice d.e.sq d.e.sn d.e.sc, .slice d.poq d.pon d.poc, .string d.s.en, .int .i64 d.s.ve, .slice d.arq d.arn d.arc, .slice d.kiq d.kin d.kic] 32 (0, 0)) ∧ z.heap[w.heap.size + 1]? = some (.cells #[.int .i64 0, .string ⟨#[]⟩, .string ⟨#[]⟩, .bool false, .slice none 0 0, .slice none 0 0, .int .i64 0, .int .i64 0, .int .i64 0, .int .i64 0, .int .i64 0, .bool false, .slice none 0 0, .slice none 0 0, .string ⟨#[]⟩, .slice none 0 0, .slice none 0 0, .string ⟨#[]⟩, .int .i64 0, .slice none 0 0, .slice none 0 0] 32 (0, 0)) ∧ z.cell? ⟨w.heap.size, 3, none⟩ = some (.bool d.s.g) ∧ z.cell? ⟨w.heap.size, 4, none⟩ = some (.slice d.aq d.an d.ac) ∧ z.cell? ⟨w.heap.size, 5, none⟩ = some (.slice d.cq d.cn d.cc) ∧ z.cell? ⟨w.heap.size, 9, none⟩ = some (.int .i64 d.e.k) ∧ z.cell? ⟨w.heap.size, 10, none⟩ = some (.int .i64 d.e.f) ∧ z.cell? ⟨w.heap.size, 11, none⟩ = some (.bool d.e.neg) ∧ z.cell? ⟨w.heap.size, 12, none⟩ = some (.slice d.e.aq d.e.an d.e.ac) ∧ z.cell? ⟨w.heap.size, 13, none⟩ = some (.slice d.e.cq d.e.cn d.e.cc) ∧ z.cell? ⟨w.heap.size, 14, none⟩ = some (.string d.e.m) ∧ z.cell? ⟨w.heap.size, 15, none⟩ = some (.slice d.e.sq d.e.sn d.e.sc)) z') := tr
  have ts' : Hid (∀ z B j u, w.heap.size + 2 ≤ B → (fun z => Below w.heap.size w z ∧ w.heap.size + 3 ≤ z.heap.size ∧ z.heap[w.heap.size]? = some (.cells #[.int .i64 d.s.ru, .string d.s.nm, .string d.s.ot, .bool d.s.g, .slice d.aq d.an d.ac, .slice d.cq d.cn d.cc, .int .i64 d.s.kk, .int .i64 d.s.nn, .int .i64 d.s.pr, .int .i64 d.e.k, .int .i64 d.e.f, .bool d.e.neg, .slice d.e.aq d.e.an d.e.ac, .slice d.e.cq d.e.cn d.e.cc, .string d.e.m, .slice d.e.sq d.e.sn d.e.sc, .slice d.poq d.pon d.poc, .string d.s.en, .int .i64 d.s.ve, .slice d.arq d.arn d.arc, .slice d.kiq d.kin d.kic] 32 (0, 0)) ∧ z.heap[w.heap.size + 1]? = some (.cells #[.int .i64 0, .string ⟨#[]⟩, .string ⟨#[]⟩, .bool false, .slice none 0 0, .slice none 0 0, .int .i64 0, .int .i64 0, .int .i64 0, .int .i64 0, .int .i64 0, .bool false, .slice none 0 0, .slice none 0 0, .string ⟨#[]⟩, .slice none 0 0, .slice none 0 0, .string ⟨#[]⟩, .int .i64 0, .slice none 0 0, .slice none 0 0] 32 (0, 0)) ∧ z.cell? ⟨w.heap.size, 3, none⟩ = some (.bool d.s.g) ∧ z.cell? ⟨w.heap.size, 4, none⟩ = some (.slice d.aq d.an d.ac) ∧ z.cell? ⟨w.heap.size, 5, none⟩ = some (.slice d.cq d.cn d.cc) ∧ z.cell? ⟨w.heap.size, 9, none⟩ = some (.int .i64 d.e.k) ∧ z.cell? ⟨w.heap.size, 10, none⟩ = some (.int .i64 d.e.f) ∧ z.cell? ⟨w.heap.size, 11, none⟩ = some (.bool d.e.neg) ∧ z.cell? ⟨w.heap.size, 12, none⟩ = some (.slice d.e.aq d.e.an d.e.ac) ∧ z.cell? ⟨w.heap.size, 13, none⟩ = some (.slice d.e.cq d.e.cn d.e.cc) ∧ z.cell? ⟨w.heap.size, 14, none⟩ = some (.string d.e.m) ∧ z.cell? ⟨w.heap.size, 15, none⟩ = some (.slice d.e.sq d.e.sn d.e.sc)) z → (fun z => Below w.heap.size w z ∧ w.heap.size + 3 ≤ z.heap.size ∧ z.heap[w.heap.size]? = some (.cells #[.int .i64 d.s.ru, .string d.s.nm, .string d.s.ot, .bool d.s.g, .slice d.aq d.an d.ac, .slice d.cq d.cn d.cc, .int .i64 d.s.kk, .int .i64 d.s.nn, .int .i64 d.s.pr, .int .i64 d.e.k, .int .i64 d.e.f, .bool d.e.neg, .slice d.e.aq d.e.an d.e.ac, .slice d.e.cq d.e.cn d.e.cc, .string d.e.m, .slice d.e.sq d.e.sn d.e.sc, .slice d.poq d.pon d.poc, .string d.s.en, .int .i64 d.s.ve, .slice d.arq d.arn d.arc, .slice d.kiq d.kin d.kic] 32 (0, 0)) ∧ z.heap[w.heap.size + 1]? = some (.cells #[.int .i64 0, .string ⟨#[]⟩, .string ⟨#[]⟩, .bool false, .slice none 0 0, .slice none 0 0, .int .i64 0, .int .i64 0, .int .i64 0, .int .i64 0, .int .i64 0, .bool false, .slice none 0 0, .slice none 0 0, .string ⟨#[]⟩, .slice none 0 0, .slice none 0 0, .string ⟨#[]⟩, .int .i64 0, .slice none 0 0, .slice none 0 0] 32 (0, 0)) ∧ z.cell? ⟨w.heap.size, 3, none⟩ = some (.bool d.s.g) ∧ z.cell? ⟨w.heap.size, 4, none⟩ = some (.slice d.aq d.an d.ac) ∧ z.cell? ⟨w.heap.size, 5, none⟩ = some (.slice d.cq d.cn d.cc) ∧ z.cell? ⟨w.heap.size, 9, none⟩ = some (.int .i64 d.e.k) ∧ z.cell? ⟨w.heap.size, 10, none⟩ = some (.int .i64 d.e.f) ∧ z.cell? ⟨w.heap.size, 11, none⟩ = some (.bool d.e.neg) ∧ z.cell? ⟨w.heap.size, 12, none⟩ = some (.slice d.e.aq d.e.an d.e.ac) ∧ z.cell? ⟨w.heap.size, 13, none⟩ = some (.slice d.e.cq d.e.cn d.e.cc) ∧ z.cell? ⟨w.heap.size, 14, none⟩ = some (.string d.e.m) ∧ z.cell? ⟨w.heap.size, 15, none⟩ = some (.slice d.e.sq d.e.sn d.e.sc)) (z.setCell ⟨B, j, none⟩ u)) := ts
  clear tr ts hS1 hbox1 hres1
  have hblkd : Hid (w1.heap[w.heap.size + 2]? = some (.cells #[.int .i64 d.s.ru, .string d.s.nm, .string d.s.ot, .bool d.s.g, .slice d.aq d.an d.ac, .slice d.cq d.cn d.cc, .int .i64 d.s.kk, .int .i64 d.s.nn, .int .i64 d.s.pr, .int .i64 d.e.k, .int .i64 d.e.f, .bool d.e.neg, .slice d.e.aq d.e.an d.e.ac, .slice d.e.cq d.e.cn d.e.cc, .string d.e.m, .slice d.e.sq d.e.sn d.e.sc, .slice d.poq d.pon d.poc, .string d.s.en, .int .i64 d.s.ve, .slice d.arq d.arn d.arc, .slice d.kiq d.kin d.kic] 32 (0, 0))) := hblk1
  clear hblk1
  have hsd : w1.drew.heap.size = w1.heap.size := rfl
  go_region_held3 (fun z => Below w.heap.size w z ∧ w.heap.size + 3 ≤ z.heap.size ∧ z.heap[w.heap.size]? = some (.cells #[.int .i64 d.s.ru, .string d.s.nm, .string d.s.ot, .bool d.s.g, .slice d.aq d.an d.ac, .slice d.cq d.cn d.cc, .int .i64 d.s.kk, .int .i64 d.s.nn, .int .i64 d.s.pr, .int .i64 d.e.k, .int .i64 d.e.f, .bool d.e.neg, .slice d.e.aq d.e.an d.e.ac, .slice d.e.cq d.e.cn d.e.cc, .string d.e.m, .slice d.e.sq d.e.sn d.e.sc, .slice d.poq d.pon d.poc, .string d.s.en, .int .i64 d.s.ve, .slice d.arq d.arn d.arc, .slice d.kiq d.kin d.kic] 32 (0, 0)) ∧ z.heap[w.heap.size + 1]? = some (.cells #[.int .i64 0, .string ⟨#[]⟩, .string ⟨#[]⟩, .bool false, .slice none 0 0, .slice none 0 0, .int .i64 0, .int .i64 0, .int .i64 0, .int .i64 0, .int .i64 0, .bool false, .slice none 0 0, .slice none 0 0, .string ⟨#[]⟩, .slice none 0 0, .slice none 0 0, .string ⟨#[]⟩, .int .i64 0, .slice none 0 0, .slice none 0 0] 32 (0, 0)) ∧ z.cell? ⟨w.heap.size, 3, none⟩ = some (.bool d.s.g) ∧ z.cell? ⟨w.heap.size, 4, none⟩ = some (.slice d.aq d.an d.ac) ∧ z.cell? ⟨w.heap.size, 5, none⟩ = some (.slice d.cq d.cn d.cc) ∧ z.cell? ⟨w.heap.size, 9, none⟩ = some (.int .i64 d.e.k) ∧ z.cell? ⟨w.heap.size, 10, none⟩ = some (.int .i64 d.e.f) ∧ z.cell? ⟨w.heap.size, 11, none⟩ = some (.bool d.e.neg) ∧ z.cell? ⟨w.heap.size, 12, none⟩ = some (.slice d.e.aq d.e.an d.e.ac) ∧ z.cell? ⟨w.heap.size, 13, none⟩ = some (.slice d.e.cq d.e.cn d.e.cc) ∧ z.cell? ⟨w.heap.size, 14, none⟩ = some (.string d.e.m) ∧ z.cell? ⟨w.heap.size, 15, none⟩ = some (.slice d.e.sq d.e.sn d.e.sc)) (first | with_reducible exact hSd | with_reducible exact hS2 | with_reducible exact hS3 | ((repeat with_reducible refine ts'.out _ _ _ _ (by omega) ?_); with_reducible exact hS3))
    (first
      | (go_at_call 77; with_reducible refine (hR _ ?_).mono ?_; exact hSd.1; rintro e w2 ⟨q1, c1, q2, c2, rfl, hA1, hA2, hb2⟩
         have hS2 := tr'.out _ _ hSd hb2)
      | (go_at_call 78; with_reducible refine (hE _ ?_).mono ?_; exact hS2.1; rintro e w3 ⟨e', rfl, hA3, hb3⟩
         have hS3 := tr'.out _ _ hS2 hb3
         have hs2 := hb2.size
         have hs3 := hb3.size
         have hblk : w3.heap[w.heap.size + 2]? = some (.cells #[.int .i64 d.s.ru, .string d.s.nm, .string d.s.ot, .bool d.s.g, .slice d.aq d.an d.ac, .slice d.cq d.cn d.cc, .int .i64 d.s.kk, .int .i64 d.s.nn, .int .i64 d.s.pr, .int .i64 d.e.k, .int .i64 d.e.f, .bool d.e.neg, .slice d.e.aq d.e.an d.e.ac, .slice d.e.cq d.e.cn d.e.cc, .string d.e.m, .slice d.e.sq d.e.sn d.e.sc, .slice d.poq d.pon d.poc, .string d.s.en, .int .i64 d.s.ve, .slice d.arq d.arn d.arc, .slice d.kiq d.kin d.kic] 32 (0, 0)) := (hb3.block _ (by omega)).trans ((hb2.block _ (by omega)).trans hblkd.out)
         have y3 : w3.cell? ⟨w.heap.size + 2, 3, none⟩ = some (.bool d.s.g) := by rw [cell_of_row _ _ _ _ _ _ hblk]; rfl
         have y4 : w3.cell? ⟨w.heap.size + 2, 4, none⟩ = some (.slice d.aq d.an d.ac) := by rw [cell_of_row _ _ _ _ _ _ hblk]; rfl
         have y5 : w3.cell? ⟨w.heap.size + 2, 5, none⟩ = some (.slice d.cq d.cn d.cc) := by rw [cell_of_row _ _ _ _ _ _ hblk]; rfl
         have y9 : w3.cell? ⟨w.heap.size + 2, 9, none⟩ = some (.int .i64 d.e.k) := by rw [cell_of_row _ _ _ _ _ _ hblk]; rfl
         have y10 : w3.cell? ⟨w.heap.size + 2, 10, none⟩ = some (.int .i64 d.e.f) := by rw [cell_of_row _ _ _ _ _ _ hblk]; rfl
         have y11 : w3.cell? ⟨w.heap.size + 2, 11, none⟩ = some (.bool d.e.neg) := by rw [cell_of_row _ _ _ _ _ _ hblk]; rfl
         have y12 : w3.cell? ⟨w.heap.size + 2, 12, none⟩ = some (.slice d.e.aq d.e.an d.e.ac) := by rw [cell_of_row _ _ _ _ _ _ hblk]; rfl
         have y13 : w3.cell? ⟨w.heap.size + 2, 13, none⟩ = some (.slice d.e.cq d.e.cn d.e.cc) := by rw [cell_of_row _ _ _ _ _ _ hblk]; rfl
         have y14 : w3.cell? ⟨w.heap.size + 2, 14, none⟩ = some (.string d.e.m) := by rw [cell_of_row _ _ _ _ _ _ hblk]; rfl
         have y15 : w3.cell? ⟨w.heap.size + 2, 15, none⟩ = some (.slice d.e.sq d.e.sn d.e.sc) := by rw [cell_of_row _ _ _ _ _ _ hblk]; rfl
         have y16 : w3.cell? ⟨w.heap.size + 2, 16, none⟩ = some (.slice d.poq d.pon d.poc) := by rw [cell_of_row _ _ _ _ _ _ hblk]; rfl
         have y19 : w3.cell? ⟨w.heap.size + 2, 19, none⟩ = some (.slice d.arq d.arn d.arc) := by rw [cell_of_row _ _ _ _ _ _ hblk]; rfl
         have y20 : w3.cell? ⟨w.heap.size + 2, 20, none⟩ = some (.slice d.kiq d.kin d.kic) := by rw [cell_of_row _ _ _ _ _ _ hblk]; rfl
         have yf : ∀ j, w3.frozen? ⟨w.heap.size + 2, j, none⟩ = false := fun j => frozen_of_row _ _ _ _ _ hblk))
  have g0 := heap_setCell_at hblk (j := 3) (u := .bool d.s.g)
  have g1 := heap_setCell_at g0 (j := 4) (u := .slice q1 d.an c1)
  have g2 := heap_setCell_at g1 (j := 5) (u := .slice q2 d.cn c2)
  have g3 := heap_setCell_at g2 (j := 9) (u := .int .i64 e'.k)
  have g4 := heap_setCell_at g3 (j := 10) (u := .int .i64 e'.f)
  have g5 := heap_setCell_at g4 (j := 11) (u := .bool e'.neg)
  have g6 := heap_setCell_at g5 (j := 12) (u := .slice e'.aq e'.an e'.ac)
  have g7 := heap_setCell_at g6 (j := 13) (u := .slice e'.cq e'.cn e'.cc)
  have g8 := heap_setCell_at g7 (j := 14) (u := .string e'.m)
  have g9 := heap_setCell_at g8 (j := 15) (u := .slice e'.sq e'.sn e'.sc)
  have g10 := heap_setCell_at g9 (j := 16) (u := .slice none 0 0)
  have g11 := heap_setCell_at g10 (j := 19) (u := .slice none 0 0)
  have g12 := heap_setCell_at g11 (j := 20) (u := .slice none 0 0)
  generalize hwc : (((((((((((((w3.setCell ⟨w.heap.size + 2, 3, none⟩ (.bool d.s.g)).setCell ⟨w.heap.size + 2, 4, none⟩ (.slice q1 d.an c1)).setCell ⟨w.heap.size + 2, 5, none⟩ (.slice q2 d.cn c2)).setCell ⟨w.heap.size + 2, 9, none⟩ (.int .i64 e'.k)).setCell ⟨w.heap.size + 2, 10, none⟩ (.int .i64 e'.f)).setCell ⟨w.heap.size + 2, 11, none⟩ (.bool e'.neg)).setCell ⟨w.heap.size + 2, 12, none⟩ (.slice e'.aq e'.an e'.ac)).setCell ⟨w.heap.size + 2, 13, none⟩ (.slice e'.cq e'.cn e'.cc)).setCell ⟨w.heap.size + 2, 14, none⟩ (.string e'.m)).setCell ⟨w.heap.size + 2, 15, none⟩ (.slice e'.sq e'.sn e'.sc)).setCell ⟨w.heap.size + 2, 16, none⟩ (.slice none 0 0)).setCell ⟨w.heap.size + 2, 19, none⟩ (.slice none 0 0)).setCell ⟨w.heap.size + 2, 20, none⟩ (.slice none 0 0)) = wc at *
  have hkc : ∀ b, b ≠ w.heap.size + 2 → wc.heap[b]? = w3.heap[b]? := by
    intro b hb
    rw [← hwc]
    rw [Below.heap_setCell _ _ _ _ (by exact hb)]; rw [Below.heap_setCell _ _ _ _ (by exact hb)]; rw [Below.heap_setCell _ _ _ _ (by exact hb)]; rw [Below.heap_setCell _ _ _ _ (by exact hb)]; rw [Below.heap_setCell _ _ _ _ (by exact hb)]; rw [Below.heap_setCell _ _ _ _ (by exact hb)]; rw [Below.heap_setCell _ _ _ _ (by exact hb)]; rw [Below.heap_setCell _ _ _ _ (by exact hb)]; rw [Below.heap_setCell _ _ _ _ (by exact hb)]; rw [Below.heap_setCell _ _ _ _ (by exact hb)]; rw [Below.heap_setCell _ _ _ _ (by exact hb)]; rw [Below.heap_setCell _ _ _ _ (by exact hb)]; rw [Below.heap_setCell _ _ _ _ (by exact hb)]
  have hsc : wc.heap.size = w3.heap.size := by rw [← hwc]; simp
  have hSc : (fun z => Below w.heap.size w z ∧ w.heap.size + 3 ≤ z.heap.size ∧ z.heap[w.heap.size]? = some (.cells #[.int .i64 d.s.ru, .string d.s.nm, .string d.s.ot, .bool d.s.g, .slice d.aq d.an d.ac, .slice d.cq d.cn d.cc, .int .i64 d.s.kk, .int .i64 d.s.nn, .int .i64 d.s.pr, .int .i64 d.e.k, .int .i64 d.e.f, .bool d.e.neg, .slice d.e.aq d.e.an d.e.ac, .slice d.e.cq d.e.cn d.e.cc, .string d.e.m, .slice d.e.sq d.e.sn d.e.sc, .slice d.poq d.pon d.poc, .string d.s.en, .int .i64 d.s.ve, .slice d.arq d.arn d.arc, .slice d.kiq d.kin d.kic] 32 (0, 0)) ∧ z.heap[w.heap.size + 1]? = some (.cells #[.int .i64 0, .string ⟨#[]⟩, .string ⟨#[]⟩, .bool false, .slice none 0 0, .slice none 0 0, .int .i64 0, .int .i64 0, .int .i64 0, .int .i64 0, .int .i64 0, .bool false, .slice none 0 0, .slice none 0 0, .string ⟨#[]⟩, .slice none 0 0, .slice none 0 0, .string ⟨#[]⟩, .int .i64 0, .slice none 0 0, .slice none 0 0] 32 (0, 0)) ∧ z.cell? ⟨w.heap.size, 3, none⟩ = some (.bool d.s.g) ∧ z.cell? ⟨w.heap.size, 4, none⟩ = some (.slice d.aq d.an d.ac) ∧ z.cell? ⟨w.heap.size, 5, none⟩ = some (.slice d.cq d.cn d.cc) ∧ z.cell? ⟨w.heap.size, 9, none⟩ = some (.int .i64 d.e.k) ∧ z.cell? ⟨w.heap.size, 10, none⟩ = some (.int .i64 d.e.f) ∧ z.cell? ⟨w.heap.size, 11, none⟩ = some (.bool d.e.neg) ∧ z.cell? ⟨w.heap.size, 12, none⟩ = some (.slice d.e.aq d.e.an d.e.ac) ∧ z.cell? ⟨w.heap.size, 13, none⟩ = some (.slice d.e.cq d.e.cn d.e.cc) ∧ z.cell? ⟨w.heap.size, 14, none⟩ = some (.string d.e.m) ∧ z.cell? ⟨w.heap.size, 15, none⟩ = some (.slice d.e.sq d.e.sn d.e.sc)) wc := by
    rw [← hwc]
    repeat with_reducible refine ts'.out _ _ _ _ (by omega) ?_
    exact hS3
  have hblk0 : wc.heap[w.heap.size + 2]? = some (.cells #[.int .i64 d.s.ru, .string d.s.nm, .string d.s.ot, .bool d.s.g, .slice q1 d.an c1, .slice q2 d.cn c2, .int .i64 d.s.kk, .int .i64 d.s.nn, .int .i64 d.s.pr, .int .i64 e'.k, .int .i64 e'.f, .bool e'.neg, .slice e'.aq e'.an e'.ac, .slice e'.cq e'.cn e'.cc, .string e'.m, .slice e'.sq e'.sn e'.sc, .slice none 0 0, .string d.s.en, .int .i64 d.s.ve, .slice none 0 0, .slice none 0 0] 32 (0, 0)) := g12
  obtain ⟨hWc, _, hboxc, hresc, _⟩ := hSc
  have k16 : wc.cell? ⟨w.heap.size, 16, none⟩ = some (.slice d.poq d.pon d.poc) := by rw [cell_of_row _ _ _ _ _ _ hboxc]; rfl
  have hG2 : w.heap.size + 2 < wc.heap.size := by omega
  have B1 : SlA wc (Free (w.heap.size + 3) wc (w.heap.size + 2) (.slice none 0 0)) (.slice q1 d.an c1) nu := by
    refine hA1.keep (fun b hb => ?_) (fun b hb => ?_)
    · have e1 := hb.1
      have e2 := hb.2
      rw [hkc b (by omega), hb3.block b e2]
    · have e1 := hb.1
      have e2 := hb.2
      exact ⟨by omega, by omega, by omega, by simp [Value.ownBlock]⟩
  have B2 : SlA wc (Free (w.heap.size + 3) wc (w.heap.size + 2) (.slice none 0 0)) (.slice q2 d.cn c2) de := by
    refine hA2.keep (fun b hb => ?_) (fun b hb => ?_)
    · have e1 := hb.1
      have e2 := hb.2
      rw [hkc b (by omega), hb3.block b e2]
    · have e1 := hb.1
      have e2 := hb.2
      exact ⟨by omega, by omega, by omega, by simp [Value.ownBlock]⟩
  have B3 : ExA wc (Free (w.heap.size + 3) wc (w.heap.size + 2) (.slice none 0 0)) ex e' := by
    refine hA3.keep (fun b hb => ?_) (fun b hb => ?_)
    · have e1 := hb.1
      rw [hkc b (by omega)]
    · have e1 := hb.1
      have e2 := hb.2
      exact ⟨by omega, by omega, by omega, by simp [Value.ownBlock]⟩
  have B4 : True := trivial
  have hG0 : (w.heap.size + 3) ≤ w.heap.size + 3 := Nat.le_refl _
  have hGH : w.heap.size + 1 < w.heap.size + 2 := by omega
  clear hwc hkc hsc hS3 hS2 hSd hR hE hA1 hA2 hA3 hb2 hb3 hblk yf y3 y4 y5 y9 y10 y11 y12 y13 y14 y15 y16 y19 y20 g0 g1 g2 g3 g4 g5 g6 g7 g8 g9 g10 g11 g12 tr' ts' hblkd hs2 hs3 hz1 hsd hW1
  generalize w.heap.size + 2 = G at hblk0 hG2 B1 B2 B3 hGH ⊢
  go_wp2_with fail
  obtain ⟨i0, hi, hz0, hz1, hz2⟩ := info_parts (show (Tryz.prog.info? 62).map (fun i => (i.zero, i.size, i.bytes)) = some (some (.agg #[.string ⟨#[]⟩, .bool false, .slice none 0 0, .slice none 0 0]), 4, 72) by kernel_rfl)
  go_loopw [23] (fun i wr => ∃ k : Nat, k ≤ d.pon ∧ i = .int .i64 k ∧ ∃ (v : Value) (L : List Va), L.length = k ∧ wr.heap[G]? = some (.cells #[.int .i64 d.s.ru, .string d.s.nm, .string d.s.ot, .bool d.s.g, .slice q1 d.an c1, .slice q2 d.cn c2, .int .i64 d.s.kk, .int .i64 d.s.nn, .int .i64 d.s.pr, .int .i64 e'.k, .int .i64 e'.f, .bool e'.neg, .slice e'.aq e'.an e'.ac, .slice e'.cq e'.cn e'.cc, .string e'.m, .slice e'.sq e'.sn e'.sc, v, .string d.s.en, .int .i64 d.s.ve, .slice none 0 0, .slice none 0 0] 32 (0, 0)) ∧ wr.ownsRow (w.heap.size + 3) 62 4 v k (L.flatMap Va.cells) ∧ v.ownBlock ≠ some G ∧ (∀ i x, L[i]? = some x → PtA wr (Free (w.heap.size + 3) wr G v) (ps i) x) ∧ SlA wr (Free (w.heap.size + 3) wr G v) (.slice q1 d.an c1) nu ∧ SlA wr (Free (w.heap.size + 3) wr G v) (.slice q2 d.cn c2) de ∧ ExA wr (Free (w.heap.size + 3) wr G v) ex e' ∧ True ∧ Below w.heap.size w wr ∧ G < wr.heap.size ∧ wr.heap[w.heap.size + 1]? = some (.cells #[.int .i64 0, .string ⟨#[]⟩, .string ⟨#[]⟩, .bool false, .slice none 0 0, .slice none 0 0, .int .i64 0, .int .i64 0, .int .i64 0, .int .i64 0, .int .i64 0, .bool false, .slice none 0 0, .slice none 0 0, .string ⟨#[]⟩, .slice none 0 0, .slice none 0 0, .string ⟨#[]⟩, .int .i64 0, .slice none 0 0, .slice none 0 0] 32 (0, 0)) ∧ wr.heap[w.heap.size]? = some (.cells #[.int .i64 d.s.ru, .string d.s.nm, .string d.s.ot, .bool d.s.g, .slice d.aq d.an d.ac, .slice d.cq d.cn d.cc, .int .i64 d.s.kk, .int .i64 d.s.nn, .int .i64 d.s.pr, .int .i64 d.e.k, .int .i64 d.e.f, .bool d.e.neg, .slice d.e.aq d.e.an d.e.ac, .slice d.e.cq d.e.cn d.e.cc, .string d.e.m, .slice d.e.sq d.e.sn d.e.sc, .slice d.poq d.pon d.poc, .string d.s.en, .int .i64 d.s.ve, .slice d.arq d.arn d.arc, .slice d.kiq d.kin d.kic] 32 (0, 0))) (fun i _ => d.pon - (intOf i).toNat)
  case atStart =>
    exact ⟨0, Nat.zero_le _, rfl, .slice none 0 0, [], rfl, hblk0, World.ownsRow_nil _ _ _ _, by simp [Value.ownBlock], fun i x h => by simp at h, B1, B2, B3, trivial, hWc, hG2, hresc, hboxc⟩
  case round =>
    clear hblk0 hG2 hWc hresc hboxc B1 B2 B3 B4
    obtain ⟨k, hk, rfl, v, L, hLk, hblk, hown, hne, hLx, hA1, hA2, hA3, hA4, hbw, hGr, hres, hbox⟩ := hrel
    have hws := hbw.size
    by_cases hlt : k < d.pon
    · have hlt' : (k : Int) < (d.pon : Int) := by omega
      have hKk := hPt k hlt
      rcases hp.out with h0 | ⟨b, o, hq, hbb, hcx⟩
      · omega
      have hx := rangeAt_below (hcx k hlt) hbw hbb
      clear hcx
      generalize hX : xs k = X at *
      rw [hq] at hbox ⊢
      obtain ⟨de', hu', hd'⟩ := va_row
      have hHu' : Hid (Tryz.prog.underlying 62 = some de') := hu'
      clear hu'
      go_wp2_with (first
        | (with_reducible refine wpList_load_mid ?_ 62 (.tmp 25) ?_ b (o + k * 4) ?_ [.string X.m, .bool X.g, .slice X.aq X.an X.ac, .slice X.cq X.cn X.cc] de' ?_ hHu'.out hd' ?_ ?_
           rotate_left 1
           · with_reducible rfl
           · rfl
           · exact hx
           · exact va_size
           rotate_left 1
           · rfl)
        | (with_reducible refine wpList_store_new ?_ 62 (.tmp 5) (.tmp 26) ?_ #[.string X.m, .bool X.g, .slice X.aq X.an X.ac, .slice X.cq X.cn X.cc] wr.heap.size rfl ?_ ?_ ?_ ?_ ?_ ?_
           rotate_left 1
           · with_reducible rfl
           · rfl
           · rfl
           · rfl
           · exact va_size
           · exact all_oneCell_toArray (one_va X)
           rotate_left 1
           · rfl))
      simp only [Act.put]
      have hT : (fun z => z.cell? ⟨wr.heap.size, 0, none⟩ = some (.string X.m) ∧ z.cell? ⟨wr.heap.size, 1, none⟩ = some (.bool X.g) ∧ z.cell? ⟨wr.heap.size, 2, none⟩ = some (.slice X.aq X.an X.ac) ∧ z.cell? ⟨wr.heap.size, 3, none⟩ = some (.slice X.cq X.cn X.cc)) (wr.alloc (.cells #[.string X.m, .bool X.g, .slice X.aq X.an X.ac, .slice X.cq X.cn X.cc] 62)) := ⟨by simp, by simp, by simp, by simp⟩
      have hz : Below wr.heap.size wr (wr.alloc (.cells #[.string X.m, .bool X.g, .slice X.aq X.an X.ac, .slice X.cq X.cn X.cc] 62)).drew := (below_one _ _).drew
      have hzs : (wr.alloc (.cells #[.string X.m, .bool X.g, .slice X.aq X.an X.ac, .slice X.cq X.cn X.cc] 62)).drew.heap.size = wr.heap.size + 1 := by show (wr.heap.push _).size = _; simp
      have hbz : Below w.heap.size w (wr.alloc (.cells #[.string X.m, .bool X.g, .slice X.aq X.an X.ac, .slice X.cq X.cn X.cc] 62)).drew := hbw.trans (hz.mono hbw.size)
      have c6 : (wr.alloc (.cells #[.string X.m, .bool X.g, .slice X.aq X.an X.ac, .slice X.cq X.cn X.cc] 62)).cell? ⟨G, 16, none⟩ = some v := by rw [World.cell?_alloc_lt _ _ _ (by exact hGr), cell_of_row _ _ _ _ _ _ hblk]; rfl
      have hrl := hown.lt
      refine wp_region_held_drew (S := fun z => z.cell? ⟨wr.heap.size, 0, none⟩ = some (.string X.m) ∧ z.cell? ⟨wr.heap.size, 1, none⟩ = some (.bool X.g) ∧ z.cell? ⟨wr.heap.size, 2, none⟩ = some (.slice X.aq X.an X.ac) ∧ z.cell? ⟨wr.heap.size, 3, none⟩ = some (.slice X.cq X.cn X.cc)) (by kernel_rfl) hT (fun hHeld => ?_)
      refine wpAnyH_take (i := 0) (oi := ?op0x10) (v := .pointer (some ⟨G, 16, none⟩)) ?ta0x10 ?tb0x10 ?tc0x10 ?td0x10 ?tq0x10 ?ty0x10 hHeld ?_
      case ta0x10 => rfl
      case tb0x10 => kernel_rfl
      case tc0x10 => kernel_rfl
      case td0x10 => kernel_rfl
      case tq0x10 => exact fun _ _ _ h => h
      case ty0x10 => exact Or.inl ⟨by rfl, by intro z hSz; go_simp⟩
      simp only [Act.put, List.setIfInBounds_toArray]
      refine wpAnyH_take (i := 2) (oi := ?op2x11) (v := .pointer (some ⟨wr.heap.size, 0, none⟩)) ?ta2x11 ?tb2x11 ?tc2x11 ?td2x11 ?tq2x11 ?ty2x11 hHeld ?_
      case ta2x11 => rfl
      case tb2x11 => kernel_rfl
      case tc2x11 => kernel_rfl
      case td2x11 => kernel_rfl
      case tq2x11 => exact fun _ _ _ h => h
      case ty2x11 => exact Or.inl ⟨by rfl, by intro z hSz; go_simp⟩
      simp only [Act.put]
      refine wpAnyH_take (i := 3) (oi := ?op3x12) (v := .string X.m) ?ta3x12 ?tb3x12 ?tc3x12 ?td3x12 ?tq3x12 ?ty3x12 hHeld ?_
      case ta3x12 => rfl
      case tb3x12 => kernel_rfl
      case tc3x12 => kernel_rfl
      case td3x12 => kernel_rfl
      case tq3x12 => exact fun _ _ _ h => h
      case ty3x12 => exact Or.inl ⟨by rfl, by intro z hSz; go_simp⟩
      simp only [Act.put]
      refine wpAnyH_take (i := 4) (oi := ?op4x13) (v := .pointer (some ⟨wr.heap.size, 1, none⟩)) ?ta4x13 ?tb4x13 ?tc4x13 ?td4x13 ?tq4x13 ?ty4x13 hHeld ?_
      case ta4x13 => rfl
      case tb4x13 => kernel_rfl
      case tc4x13 => kernel_rfl
      case td4x13 => kernel_rfl
      case tq4x13 => exact fun _ _ _ h => h
      case ty4x13 => exact Or.inl ⟨by rfl, by intro z hSz; go_simp⟩
      simp only [Act.put]
      refine wpAnyH_take (i := 5) (oi := ?op5x14) (v := .agg #[.bool X.g, .slice X.aq X.an X.ac, .slice X.cq X.cn X.cc]) ?ta5x14 ?tb5x14 ?tc5x14 ?td5x14 ?tq5x14 ?ty5x14 hHeld ?_
      case ta5x14 => rfl
      case tb5x14 => kernel_rfl
      case tc5x14 => kernel_rfl
      case td5x14 => kernel_rfl
      case tq5x14 => exact fun _ _ _ h => h
      case ty5x14 => exact Or.inl ⟨by rfl, by intro z hSz; go_simp⟩
      simp only [Act.put]
      refine wpAnyH_ready (rs := [1, 6]) (by kernel_rfl) (by simp) ?_
      refine AllReadyH.cons rfl (fun K hKK => ?_) (AllReadyH.cons rfl (fun K hKK => ?_) AllReadyH.nil)
      · go_simp
        refine hKK.out _ _ hHeld (fun _ => ?_)
        clear hKK K
        refine wpAnyH_ready (rs := [6]) (by kernel_rfl) (by simp) ?_
        refine AllReadyH.cons rfl (fun K hKK => ?_) AllReadyH.nil
        go_simp
        refine (hKk _ hbz).mono ?_
        rintro e w5 ⟨r1, s1, r2, s2, rfl, hA51, hA52, hb5⟩
        have hs5 := hb5.size
        have hT5 : (fun z => z.cell? ⟨wr.heap.size, 0, none⟩ = some (.string X.m) ∧ z.cell? ⟨wr.heap.size, 1, none⟩ = some (.bool X.g) ∧ z.cell? ⟨wr.heap.size, 2, none⟩ = some (.slice X.aq X.an X.ac) ∧ z.cell? ⟨wr.heap.size, 3, none⟩ = some (.slice X.cq X.cn X.cc)) w5 := ⟨(hb5.cell (by show wr.heap.size < _; omega)).trans hT.1, (hb5.cell (by show wr.heap.size < _; omega)).trans hT.2.1, (hb5.cell (by show wr.heap.size < _; omega)).trans hT.2.2.1, (hb5.cell (by show wr.heap.size < _; omega)).trans hT.2.2.2⟩
        have c65 : w5.cell? ⟨G, 16, none⟩ = some v := (hb5.cell (by show G < _; omega)).trans c6
        have hown5 : w5.ownsRow (w.heap.size + 3) 62 4 v k (L.flatMap Va.cells) := ((hown.alloc _).drew).kept (row := none) ⟨hb5.os, hb5.tape, hb5.output, hb5.size, fun b hb _ => hb5.block b hb⟩ (by cases hv : v.ownBlock with | none => exact .inl rfl | some _ => exact .inr (by simp))
        refine hKK.out _ _ hT5 (fun hHeld5 => ?_)
        clear hKK K
        refine wpAnyH_take (i := 7) (oi := ?op7x8) (v := .agg #[.string X.m, .bool X.g, .slice r1 X.an s1, .slice r2 X.cn s2]) ?ta7x8 ?tb7x8 ?tc7x8 ?td7x8 ?tq7x8 ?ty7x8 hHeld5 ?_
        case ta7x8 => rfl
        case tb7x8 => kernel_rfl
        case tc7x8 => kernel_rfl
        case td7x8 => kernel_rfl
        case tq7x8 => exact fun _ _ _ h => h
        case ty7x8 => exact Or.inl ⟨by rfl, by intro z hSz; go_simp⟩
        simp only [Act.put, List.setIfInBounds_toArray]
        refine wpAnyH_ready (rs := [8]) (by kernel_rfl) (by simp) ?_
        refine AllReadyH.cons rfl (fun K hKK => ?_) AllReadyH.nil
        go_simp
        have hT6 : (fun z => z.cell? ⟨wr.heap.size, 0, none⟩ = some (.string X.m) ∧ z.cell? ⟨wr.heap.size, 1, none⟩ = some (.bool X.g) ∧ z.cell? ⟨wr.heap.size, 2, none⟩ = some (.slice X.aq X.an X.ac) ∧ z.cell? ⟨wr.heap.size, 3, none⟩ = some (.slice X.cq X.cn X.cc)) (w5.alloc (.cells #[.string X.m, .bool X.g, .slice r1 X.an s1, .slice r2 X.cn s2] 62)) := ⟨(World.cell?_alloc_lt _ _ _ (by show wr.heap.size < _; omega)).trans hT5.1, (World.cell?_alloc_lt _ _ _ (by show wr.heap.size < _; omega)).trans hT5.2.1, (World.cell?_alloc_lt _ _ _ (by show wr.heap.size < _; omega)).trans hT5.2.2.1, (World.cell?_alloc_lt _ _ _ (by show wr.heap.size < _; omega)).trans hT5.2.2.2⟩
        have c66 : (w5.alloc (.cells #[.string X.m, .bool X.g, .slice r1 X.an s1, .slice r2 X.cn s2] 62)).cell? ⟨G, 16, none⟩ = some v := by rw [World.cell?_alloc_lt _ _ _ (by show G < _; omega)]; exact c65
        refine hKK.out _ _ hT6 (fun _ => ?_)
        clear hKK K
        refine wpAnyH_ready (rs := [9]) (by kernel_rfl) (by simp) ?_
        refine AllReadyH.cons rfl (fun K hKK => ?_) AllReadyH.nil
        refine step_append_lies _ rfl _ _ 28 rfl (w.heap.size + 3) 62 i0 (.agg #[.string ⟨#[]⟩, .bool false, .slice none 0 0, .slice none 0 0]) 4 72 Tryz.underlying28 hi hz0 hz1 hz2 rfl (by decide) v k (L.flatMap Va.cells) rfl (hown5.alloc _) ⟨w5.heap.size, 0, none⟩ 1 1 (⟨X.m, X.g, r1, X.an, s1, r2, X.cn, s2⟩ : Va).cells rfl rfl (World.news_of_block (heap_alloc_last w5 (.cells (⟨X.m, X.g, r1, X.an, s1, r2, X.cn, s2⟩ : Va).cells.toArray 62))) (one_va _) (by decide) (by unfold maxLen; omega) (by omega) (by simp; omega) _ rfl ?_
        intro g cap w7 hown7 hgrow7 hat7 hlt7
        have hTne : some wr.heap.size ≠ v.ownBlock := fun e => by have := (hrl _ e.symm).2; omega
        have hT7 : (fun z => z.cell? ⟨wr.heap.size, 0, none⟩ = some (.string X.m) ∧ z.cell? ⟨wr.heap.size, 1, none⟩ = some (.bool X.g) ∧ z.cell? ⟨wr.heap.size, 2, none⟩ = some (.slice X.aq X.an X.ac) ∧ z.cell? ⟨wr.heap.size, 3, none⟩ = some (.slice X.cq X.cn X.cc)) w7 := ⟨hgrow7.cell hT6.1 hTne, hgrow7.cell hT6.2.1 hTne, hgrow7.cell hT6.2.2.1 hTne, hgrow7.cell hT6.2.2.2 hTne⟩
        have c67 : w7.cell? ⟨G, 16, none⟩ = some v := hgrow7.cell c66 (fun e => hne e.symm)
        obtain ⟨m1, m2, m3, m4, m5, m6, m7, m8⟩ := grow_step (j := 16) (u := .slice (some ⟨g, 0, none⟩) (k + 1) cap) hGr (by omega : (w.heap.size + 3) ≤ wr.heap.size) hz hb5 hgrow7 hat7 hlt7 hrl hne rfl
        have f67 : ∀ j, w7.frozen? ⟨G, j, none⟩ = false := fun j => frozen_of_row _ _ _ _ _ (m5 _ _ _ hblk)
        refine hKK.out _ _ hT7 (fun hHeld7 => ?_)
        clear hKK K
        refine wpAnyH_take (i := 10) (oi := ?op10x9) (v := .pointer (some ⟨G, 16, none⟩)) ?ta10x9 ?tb10x9 ?tc10x9 ?td10x9 ?tq10x9 ?ty10x9 hHeld7 ?_
        case ta10x9 => rfl
        case tb10x9 => kernel_rfl
        case tc10x9 => kernel_rfl
        case td10x9 => kernel_rfl
        case tq10x9 => exact fun _ _ _ h => h
        case ty10x9 => exact Or.inl ⟨by rfl, by intro z hSz; go_simp⟩
        simp only [Act.put, List.setIfInBounds_toArray]
        refine wpAnyH_ready (rs := [11]) (by kernel_rfl) (by simp) ?_
        refine AllReadyH.cons rfl (fun K hKK => ?_) AllReadyH.nil
        go_simp
        refine hKK.out _ _ ⟨(World.cell?_setCell_far _ _ _ _ (by show G ≠ wr.heap.size; omega)).trans hT7.1, (World.cell?_setCell_far _ _ _ _ (by show G ≠ wr.heap.size; omega)).trans hT7.2.1, (World.cell?_setCell_far _ _ _ _ (by show G ≠ wr.heap.size; omega)).trans hT7.2.2.1, (World.cell?_setCell_far _ _ _ _ (by show G ≠ wr.heap.size; omega)).trans hT7.2.2.2⟩ (fun _ => ?_)
        clear hKK K
        refine wpAnyH_done (by kernel_rfl) ?_ _
        go_wp2_with fail
        go_roundw
        case rel =>
          refine ⟨k + 1, by omega, by go_num, .slice (some ⟨g, 0, none⟩) (k + 1) cap, L ++ [(⟨X.m, X.g, r1, X.an, s1, r2, X.cn, s2⟩ : Va)], by simp [hLk], heap_setCell_at (m5 _ _ _ hblk), ?_, m6, ?_, hA1.keep m1 m2, hA2.keep m1 m2, hA3.keep m1 m2, trivial, ?_, by omega, ?_, ?_⟩
          · rw [List.flatMap_append, List.flatMap_singleton]
            exact owns_setCell hown7 m6
          · intro i x hi
            by_cases hik : i < k
            · rw [List.getElem?_append_left (by omega)] at hi
              exact (hLx i x hi).keep m1 m2
            · rw [List.getElem?_append_right (by omega)] at hi
              have hi0 : i - L.length = 0 := by
                rcases Nat.eq_zero_or_pos (i - L.length) with h | h
                · exact h
                · rw [List.getElem?_eq_none (by simp; omega)] at hi
                  cases hi
              rw [hi0] at hi
              simp only [List.getElem?_cons_zero, Option.some.injEq] at hi
              subst hi
              have : i = k := by omega
              subst this
              exact (by have h := hPeq i hlt; rw [hX] at h; exact ⟨h.1, h.2.1, hA51.keep m3 m4, hA52.keep m3 m4, h.2.2⟩)
          · refine Below.setCell ?_ (by show w.heap.size ≤ G; omega) _
            exact ((hbz.trans (hb5.mono hbz.size)).alloc (by omega) _).grown hgrow7 (by simp; omega) (fun b hb => by have := (hrl b hb).1; omega)
          · rw [m8 (w.heap.size + 1) (by omega) (by omega) (fun e => by have := (hrl _ e).1; omega)]
            exact hres
          · rw [m8 w.heap.size (by omega) (by omega) (fun e => by have := (hrl _ e).1; omega)]
            exact hbox
        case measure => simp [intOf]; omega
      · go_simp
        refine (hKk _ hbz).mono ?_
        rintro e w5 ⟨r1, s1, r2, s2, rfl, hA51, hA52, hb5⟩
        have hs5 := hb5.size
        have hT5 : (fun z => z.cell? ⟨wr.heap.size, 0, none⟩ = some (.string X.m) ∧ z.cell? ⟨wr.heap.size, 1, none⟩ = some (.bool X.g) ∧ z.cell? ⟨wr.heap.size, 2, none⟩ = some (.slice X.aq X.an X.ac) ∧ z.cell? ⟨wr.heap.size, 3, none⟩ = some (.slice X.cq X.cn X.cc)) w5 := ⟨(hb5.cell (by show wr.heap.size < _; omega)).trans hT.1, (hb5.cell (by show wr.heap.size < _; omega)).trans hT.2.1, (hb5.cell (by show wr.heap.size < _; omega)).trans hT.2.2.1, (hb5.cell (by show wr.heap.size < _; omega)).trans hT.2.2.2⟩
        have c65 : w5.cell? ⟨G, 16, none⟩ = some v := (hb5.cell (by show G < _; omega)).trans c6
        have hown5 : w5.ownsRow (w.heap.size + 3) 62 4 v k (L.flatMap Va.cells) := ((hown.alloc _).drew).kept (row := none) ⟨hb5.os, hb5.tape, hb5.output, hb5.size, fun b hb _ => hb5.block b hb⟩ (by cases hv : v.ownBlock with | none => exact .inl rfl | some _ => exact .inr (by simp))
        refine hKK.out _ _ hT5 (fun hHeld5 => ?_)
        clear hKK K
        refine wpAnyH_take (i := 7) (oi := ?op7x8) (v := .agg #[.string X.m, .bool X.g, .slice r1 X.an s1, .slice r2 X.cn s2]) ?ta7x8 ?tb7x8 ?tc7x8 ?td7x8 ?tq7x8 ?ty7x8 hHeld5 ?_
        case ta7x8 => rfl
        case tb7x8 => kernel_rfl
        case tc7x8 => kernel_rfl
        case td7x8 => kernel_rfl
        case tq7x8 => exact fun _ _ _ h => h
        case ty7x8 => exact Or.inl ⟨by rfl, by intro z hSz; go_simp⟩
        simp only [Act.put, List.setIfInBounds_toArray]
        refine wpAnyH_ready (rs := [1, 8]) (by kernel_rfl) (by simp) ?_
        refine AllReadyH.cons rfl (fun K hKK => ?_) (AllReadyH.cons rfl (fun K hKK => ?_) AllReadyH.nil)
        · go_simp
          refine hKK.out _ _ hT5 (fun _ => ?_)
          clear hKK K
          refine wpAnyH_ready (rs := [8]) (by kernel_rfl) (by simp) ?_
          refine AllReadyH.cons rfl (fun K hKK => ?_) AllReadyH.nil
          go_simp
          have hT6 : (fun z => z.cell? ⟨wr.heap.size, 0, none⟩ = some (.string X.m) ∧ z.cell? ⟨wr.heap.size, 1, none⟩ = some (.bool X.g) ∧ z.cell? ⟨wr.heap.size, 2, none⟩ = some (.slice X.aq X.an X.ac) ∧ z.cell? ⟨wr.heap.size, 3, none⟩ = some (.slice X.cq X.cn X.cc)) (w5.alloc (.cells #[.string X.m, .bool X.g, .slice r1 X.an s1, .slice r2 X.cn s2] 62)) := ⟨(World.cell?_alloc_lt _ _ _ (by show wr.heap.size < _; omega)).trans hT5.1, (World.cell?_alloc_lt _ _ _ (by show wr.heap.size < _; omega)).trans hT5.2.1, (World.cell?_alloc_lt _ _ _ (by show wr.heap.size < _; omega)).trans hT5.2.2.1, (World.cell?_alloc_lt _ _ _ (by show wr.heap.size < _; omega)).trans hT5.2.2.2⟩
          have c66 : (w5.alloc (.cells #[.string X.m, .bool X.g, .slice r1 X.an s1, .slice r2 X.cn s2] 62)).cell? ⟨G, 16, none⟩ = some v := by rw [World.cell?_alloc_lt _ _ _ (by show G < _; omega)]; exact c65
          refine hKK.out _ _ hT6 (fun _ => ?_)
          clear hKK K
          refine wpAnyH_ready (rs := [9]) (by kernel_rfl) (by simp) ?_
          refine AllReadyH.cons rfl (fun K hKK => ?_) AllReadyH.nil
          refine step_append_lies _ rfl _ _ 28 rfl (w.heap.size + 3) 62 i0 (.agg #[.string ⟨#[]⟩, .bool false, .slice none 0 0, .slice none 0 0]) 4 72 Tryz.underlying28 hi hz0 hz1 hz2 rfl (by decide) v k (L.flatMap Va.cells) rfl (hown5.alloc _) ⟨w5.heap.size, 0, none⟩ 1 1 (⟨X.m, X.g, r1, X.an, s1, r2, X.cn, s2⟩ : Va).cells rfl rfl (World.news_of_block (heap_alloc_last w5 (.cells (⟨X.m, X.g, r1, X.an, s1, r2, X.cn, s2⟩ : Va).cells.toArray 62))) (one_va _) (by decide) (by unfold maxLen; omega) (by omega) (by simp; omega) _ rfl ?_
          intro g cap w7 hown7 hgrow7 hat7 hlt7
          have hTne : some wr.heap.size ≠ v.ownBlock := fun e => by have := (hrl _ e.symm).2; omega
          have hT7 : (fun z => z.cell? ⟨wr.heap.size, 0, none⟩ = some (.string X.m) ∧ z.cell? ⟨wr.heap.size, 1, none⟩ = some (.bool X.g) ∧ z.cell? ⟨wr.heap.size, 2, none⟩ = some (.slice X.aq X.an X.ac) ∧ z.cell? ⟨wr.heap.size, 3, none⟩ = some (.slice X.cq X.cn X.cc)) w7 := ⟨hgrow7.cell hT6.1 hTne, hgrow7.cell hT6.2.1 hTne, hgrow7.cell hT6.2.2.1 hTne, hgrow7.cell hT6.2.2.2 hTne⟩
          have c67 : w7.cell? ⟨G, 16, none⟩ = some v := hgrow7.cell c66 (fun e => hne e.symm)
          obtain ⟨m1, m2, m3, m4, m5, m6, m7, m8⟩ := grow_step (j := 16) (u := .slice (some ⟨g, 0, none⟩) (k + 1) cap) hGr (by omega : (w.heap.size + 3) ≤ wr.heap.size) hz hb5 hgrow7 hat7 hlt7 hrl hne rfl
          have f67 : ∀ j, w7.frozen? ⟨G, j, none⟩ = false := fun j => frozen_of_row _ _ _ _ _ (m5 _ _ _ hblk)
          refine hKK.out _ _ hT7 (fun hHeld7 => ?_)
          clear hKK K
          refine wpAnyH_take (i := 10) (oi := ?op10x9) (v := .pointer (some ⟨G, 16, none⟩)) ?ta10x9 ?tb10x9 ?tc10x9 ?td10x9 ?tq10x9 ?ty10x9 hHeld7 ?_
          case ta10x9 => rfl
          case tb10x9 => kernel_rfl
          case tc10x9 => kernel_rfl
          case td10x9 => kernel_rfl
          case tq10x9 => exact fun _ _ _ h => h
          case ty10x9 => exact Or.inl ⟨by rfl, by intro z hSz; go_simp⟩
          simp only [Act.put, List.setIfInBounds_toArray]
          refine wpAnyH_ready (rs := [11]) (by kernel_rfl) (by simp) ?_
          refine AllReadyH.cons rfl (fun K hKK => ?_) AllReadyH.nil
          go_simp
          refine hKK.out _ _ ⟨(World.cell?_setCell_far _ _ _ _ (by show G ≠ wr.heap.size; omega)).trans hT7.1, (World.cell?_setCell_far _ _ _ _ (by show G ≠ wr.heap.size; omega)).trans hT7.2.1, (World.cell?_setCell_far _ _ _ _ (by show G ≠ wr.heap.size; omega)).trans hT7.2.2.1, (World.cell?_setCell_far _ _ _ _ (by show G ≠ wr.heap.size; omega)).trans hT7.2.2.2⟩ (fun _ => ?_)
          clear hKK K
          refine wpAnyH_done (by kernel_rfl) ?_ _
          go_wp2_with fail
          go_roundw
          case rel =>
            refine ⟨k + 1, by omega, by go_num, .slice (some ⟨g, 0, none⟩) (k + 1) cap, L ++ [(⟨X.m, X.g, r1, X.an, s1, r2, X.cn, s2⟩ : Va)], by simp [hLk], heap_setCell_at (m5 _ _ _ hblk), ?_, m6, ?_, hA1.keep m1 m2, hA2.keep m1 m2, hA3.keep m1 m2, trivial, ?_, by omega, ?_, ?_⟩
            · rw [List.flatMap_append, List.flatMap_singleton]
              exact owns_setCell hown7 m6
            · intro i x hi
              by_cases hik : i < k
              · rw [List.getElem?_append_left (by omega)] at hi
                exact (hLx i x hi).keep m1 m2
              · rw [List.getElem?_append_right (by omega)] at hi
                have hi0 : i - L.length = 0 := by
                  rcases Nat.eq_zero_or_pos (i - L.length) with h | h
                  · exact h
                  · rw [List.getElem?_eq_none (by simp; omega)] at hi
                    cases hi
                rw [hi0] at hi
                simp only [List.getElem?_cons_zero, Option.some.injEq] at hi
                subst hi
                have : i = k := by omega
                subst this
                exact (by have h := hPeq i hlt; rw [hX] at h; exact ⟨h.1, h.2.1, hA51.keep m3 m4, hA52.keep m3 m4, h.2.2⟩)
            · refine Below.setCell ?_ (by show w.heap.size ≤ G; omega) _
              exact ((hbz.trans (hb5.mono hbz.size)).alloc (by omega) _).grown hgrow7 (by simp; omega) (fun b hb => by have := (hrl b hb).1; omega)
            · rw [m8 (w.heap.size + 1) (by omega) (by omega) (fun e => by have := (hrl _ e).1; omega)]
              exact hres
            · rw [m8 w.heap.size (by omega) (by omega) (fun e => by have := (hrl _ e).1; omega)]
              exact hbox
          case measure => simp [intOf]; omega
        · go_simp
          have hT6 : (fun z => z.cell? ⟨wr.heap.size, 0, none⟩ = some (.string X.m) ∧ z.cell? ⟨wr.heap.size, 1, none⟩ = some (.bool X.g) ∧ z.cell? ⟨wr.heap.size, 2, none⟩ = some (.slice X.aq X.an X.ac) ∧ z.cell? ⟨wr.heap.size, 3, none⟩ = some (.slice X.cq X.cn X.cc)) (w5.alloc (.cells #[.string X.m, .bool X.g, .slice r1 X.an s1, .slice r2 X.cn s2] 62)) := ⟨(World.cell?_alloc_lt _ _ _ (by show wr.heap.size < _; omega)).trans hT5.1, (World.cell?_alloc_lt _ _ _ (by show wr.heap.size < _; omega)).trans hT5.2.1, (World.cell?_alloc_lt _ _ _ (by show wr.heap.size < _; omega)).trans hT5.2.2.1, (World.cell?_alloc_lt _ _ _ (by show wr.heap.size < _; omega)).trans hT5.2.2.2⟩
          have c66 : (w5.alloc (.cells #[.string X.m, .bool X.g, .slice r1 X.an s1, .slice r2 X.cn s2] 62)).cell? ⟨G, 16, none⟩ = some v := by rw [World.cell?_alloc_lt _ _ _ (by show G < _; omega)]; exact c65
          refine hKK.out _ _ hT6 (fun _ => ?_)
          clear hKK K
          refine wpAnyH_ready (rs := [1]) (by kernel_rfl) (by simp) ?_
          refine AllReadyH.cons rfl (fun K hKK => ?_) AllReadyH.nil
          go_simp
          refine hKK.out _ _ hT6 (fun _ => ?_)
          clear hKK K
          refine wpAnyH_ready (rs := [9]) (by kernel_rfl) (by simp) ?_
          refine AllReadyH.cons rfl (fun K hKK => ?_) AllReadyH.nil
          refine step_append_lies _ rfl _ _ 28 rfl (w.heap.size + 3) 62 i0 (.agg #[.string ⟨#[]⟩, .bool false, .slice none 0 0, .slice none 0 0]) 4 72 Tryz.underlying28 hi hz0 hz1 hz2 rfl (by decide) v k (L.flatMap Va.cells) rfl (hown5.alloc _) ⟨w5.heap.size, 0, none⟩ 1 1 (⟨X.m, X.g, r1, X.an, s1, r2, X.cn, s2⟩ : Va).cells rfl rfl (World.news_of_block (heap_alloc_last w5 (.cells (⟨X.m, X.g, r1, X.an, s1, r2, X.cn, s2⟩ : Va).cells.toArray 62))) (one_va _) (by decide) (by unfold maxLen; omega) (by omega) (by simp; omega) _ rfl ?_
          intro g cap w7 hown7 hgrow7 hat7 hlt7
          have hTne : some wr.heap.size ≠ v.ownBlock := fun e => by have := (hrl _ e.symm).2; omega
          have hT7 : (fun z => z.cell? ⟨wr.heap.size, 0, none⟩ = some (.string X.m) ∧ z.cell? ⟨wr.heap.size, 1, none⟩ = some (.bool X.g) ∧ z.cell? ⟨wr.heap.size, 2, none⟩ = some (.slice X.aq X.an X.ac) ∧ z.cell? ⟨wr.heap.size, 3, none⟩ = some (.slice X.cq X.cn X.cc)) w7 := ⟨hgrow7.cell hT6.1 hTne, hgrow7.cell hT6.2.1 hTne, hgrow7.cell hT6.2.2.1 hTne, hgrow7.cell hT6.2.2.2 hTne⟩
          have c67 : w7.cell? ⟨G, 16, none⟩ = some v := hgrow7.cell c66 (fun e => hne e.symm)
          obtain ⟨m1, m2, m3, m4, m5, m6, m7, m8⟩ := grow_step (j := 16) (u := .slice (some ⟨g, 0, none⟩) (k + 1) cap) hGr (by omega : (w.heap.size + 3) ≤ wr.heap.size) hz hb5 hgrow7 hat7 hlt7 hrl hne rfl
          have f67 : ∀ j, w7.frozen? ⟨G, j, none⟩ = false := fun j => frozen_of_row _ _ _ _ _ (m5 _ _ _ hblk)
          refine hKK.out _ _ hT7 (fun hHeld7 => ?_)
          clear hKK K
          refine wpAnyH_take (i := 10) (oi := ?op10x9) (v := .pointer (some ⟨G, 16, none⟩)) ?ta10x9 ?tb10x9 ?tc10x9 ?td10x9 ?tq10x9 ?ty10x9 hHeld7 ?_
          case ta10x9 => rfl
          case tb10x9 => kernel_rfl
          case tc10x9 => kernel_rfl
          case td10x9 => kernel_rfl
          case tq10x9 => exact fun _ _ _ h => h
          case ty10x9 => exact Or.inl ⟨by rfl, by intro z hSz; go_simp⟩
          simp only [Act.put, List.setIfInBounds_toArray]
          refine wpAnyH_ready (rs := [11]) (by kernel_rfl) (by simp) ?_
          refine AllReadyH.cons rfl (fun K hKK => ?_) AllReadyH.nil
          go_simp
          refine hKK.out _ _ ⟨(World.cell?_setCell_far _ _ _ _ (by show G ≠ wr.heap.size; omega)).trans hT7.1, (World.cell?_setCell_far _ _ _ _ (by show G ≠ wr.heap.size; omega)).trans hT7.2.1, (World.cell?_setCell_far _ _ _ _ (by show G ≠ wr.heap.size; omega)).trans hT7.2.2.1, (World.cell?_setCell_far _ _ _ _ (by show G ≠ wr.heap.size; omega)).trans hT7.2.2.2⟩ (fun _ => ?_)
          clear hKK K
          refine wpAnyH_done (by kernel_rfl) ?_ _
          go_wp2_with fail
          go_roundw
          case rel =>
            refine ⟨k + 1, by omega, by go_num, .slice (some ⟨g, 0, none⟩) (k + 1) cap, L ++ [(⟨X.m, X.g, r1, X.an, s1, r2, X.cn, s2⟩ : Va)], by simp [hLk], heap_setCell_at (m5 _ _ _ hblk), ?_, m6, ?_, hA1.keep m1 m2, hA2.keep m1 m2, hA3.keep m1 m2, trivial, ?_, by omega, ?_, ?_⟩
            · rw [List.flatMap_append, List.flatMap_singleton]
              exact owns_setCell hown7 m6
            · intro i x hi
              by_cases hik : i < k
              · rw [List.getElem?_append_left (by omega)] at hi
                exact (hLx i x hi).keep m1 m2
              · rw [List.getElem?_append_right (by omega)] at hi
                have hi0 : i - L.length = 0 := by
                  rcases Nat.eq_zero_or_pos (i - L.length) with h | h
                  · exact h
                  · rw [List.getElem?_eq_none (by simp; omega)] at hi
                    cases hi
                rw [hi0] at hi
                simp only [List.getElem?_cons_zero, Option.some.injEq] at hi
                subst hi
                have : i = k := by omega
                subst this
                exact (by have h := hPeq i hlt; rw [hX] at h; exact ⟨h.1, h.2.1, hA51.keep m3 m4, hA52.keep m3 m4, h.2.2⟩)
            · refine Below.setCell ?_ (by show w.heap.size ≤ G; omega) _
              exact ((hbz.trans (hb5.mono hbz.size)).alloc (by omega) _).grown hgrow7 (by simp; omega) (fun b hb => by have := (hrl b hb).1; omega)
            · rw [m8 (w.heap.size + 1) (by omega) (by omega) (fun e => by have := (hrl _ e).1; omega)]
              exact hres
            · rw [m8 w.heap.size (by omega) (by omega) (fun e => by have := (hrl _ e).1; omega)]
              exact hbox
          case measure => simp [intOf]; omega
    · have hk2 : d.pon = k := by omega
      subst hk2
      have hvf : ∃ q c, v = .slice q d.pon c := by
        rcases hown.2 with ⟨h, h0⟩ | ⟨g, cp, cur, h, _⟩
        · exact ⟨none, 0, by rw [h, h0]⟩
        · exact ⟨_, _, h⟩
      obtain ⟨q3, c3, rfl⟩ := hvf
      have B4 : PtsA wr (Free (w.heap.size + 3) wr G (.slice none 0 0)) q3 d.pon ps := by
        refine ⟨by omega, ?_⟩
        by_cases h0 : d.pon = 0
        · exact .inl h0
        · refine .inr ?_
          obtain ⟨g, cp, hg, hge, hgl⟩ := hown.form (by omega)
          simp only [Value.slice.injEq] at hg
          obtain ⟨rfl, _, rfl⟩ := hg
          have hgG : g ≠ G := fun e => hne (by rw [← e]; rfl)
          refine ⟨g, 0, rfl, ⟨hge, hgl, hgG, by simp [Value.ownBlock]⟩, fun i => L.getD i default, fun i hi => ?_⟩
          have hiL : i < L.length := by omega
          have hgi : L[i]? = some (L.getD i default) := by simp [List.getD, hiL]
          have hc := owns_range (s := 4) (f := Va.cells) (fun _ => rfl) hown hgi
          exact ⟨⟨hc 0 _ rfl, hc 1 _ rfl, hc 2 _ rfl, hc 3 _ rfl⟩, (hLx i _ hgi).keep (Keeps.refl _ _) (fun b hb => ⟨hb.1, hb.2.1, hb.2.2.1, by simp [Value.ownBlock]⟩)⟩
      have B1 := hA1.keep (Keeps.refl _ _) (fun b (hb : Free (w.heap.size + 3) wr G (.slice q3 d.pon c3) b) => (⟨hb.1, hb.2.1, hb.2.2.1, by simp [Value.ownBlock]⟩ : Free (w.heap.size + 3) wr G (.slice none 0 0) b))
      have B2 := hA2.keep (Keeps.refl _ _) (fun b (hb : Free (w.heap.size + 3) wr G (.slice q3 d.pon c3) b) => (⟨hb.1, hb.2.1, hb.2.2.1, by simp [Value.ownBlock]⟩ : Free (w.heap.size + 3) wr G (.slice none 0 0) b))
      have B3 := hA3.keep (Keeps.refl _ _) (fun b (hb : Free (w.heap.size + 3) wr G (.slice q3 d.pon c3) b) => (⟨hb.1, hb.2.1, hb.2.2.1, by simp [Value.ownBlock]⟩ : Free (w.heap.size + 3) wr G (.slice none 0 0) b))
      have k19 : wr.cell? ⟨w.heap.size, 19, none⟩ = some (.slice d.arq d.arn d.arc) := by rw [cell_of_row _ _ _ _ _ _ hbox]; rfl
      have hblk0 : wr.heap[G]? = some (.cells #[.int .i64 d.s.ru, .string d.s.nm, .string d.s.ot, .bool d.s.g, .slice q1 d.an c1, .slice q2 d.cn c2, .int .i64 d.s.kk, .int .i64 d.s.nn, .int .i64 d.s.pr, .int .i64 e'.k, .int .i64 e'.f, .bool e'.neg, .slice e'.aq e'.an e'.ac, .slice e'.cq e'.cn e'.cc, .string e'.m, .slice e'.sq e'.sn e'.sc, .slice q3 d.pon c3, .string d.s.en, .int .i64 d.s.ve, .slice none 0 0, .slice none 0 0] 32 (0, 0)) := hblk
      have hWc := hbw
      have hG2 := hGr
      have hresc := hres
      have hboxc := hbox
      clear hA1 hA2 hA3 hA4 hLx hown hne hblk hbw hGr hres hbox hLk hi hz0 hz1 hz2 hPt hPeq hp
      go_wp2_with fail
      obtain ⟨i0, hi, hz0, hz1, hz2⟩ := info_parts (show (Tryz.prog.info? 65).map (fun i => (i.zero, i.size, i.bytes)) = some (some (.agg #[.string ⟨#[]⟩, .int .i64 0, .int .i64 0, .bool false, .slice none 0 0, .slice none 0 0, .string ⟨#[]⟩, .slice none 0 0]), 8, 128) by kernel_rfl)
      go_loopw [42] (fun i wr => ∃ k : Nat, k ≤ d.arn ∧ i = .int .i64 k ∧ ∃ (v : Value) (L : List Bi), L.length = k ∧ wr.heap[G]? = some (.cells #[.int .i64 d.s.ru, .string d.s.nm, .string d.s.ot, .bool d.s.g, .slice q1 d.an c1, .slice q2 d.cn c2, .int .i64 d.s.kk, .int .i64 d.s.nn, .int .i64 d.s.pr, .int .i64 e'.k, .int .i64 e'.f, .bool e'.neg, .slice e'.aq e'.an e'.ac, .slice e'.cq e'.cn e'.cc, .string e'.m, .slice e'.sq e'.sn e'.sc, .slice q3 d.pon c3, .string d.s.en, .int .i64 d.s.ve, v, .slice none 0 0] 32 (0, 0)) ∧ wr.ownsRow (w.heap.size + 3) 65 8 v k (L.flatMap Bi.cells) ∧ v.ownBlock ≠ some G ∧ (∀ i x, L[i]? = some x → BdA wr (Free (w.heap.size + 3) wr G v) (bs i) x) ∧ SlA wr (Free (w.heap.size + 3) wr G v) (.slice q1 d.an c1) nu ∧ SlA wr (Free (w.heap.size + 3) wr G v) (.slice q2 d.cn c2) de ∧ ExA wr (Free (w.heap.size + 3) wr G v) ex e' ∧ PtsA wr (Free (w.heap.size + 3) wr G v) q3 d.pon ps ∧ Below w.heap.size w wr ∧ G < wr.heap.size ∧ wr.heap[w.heap.size + 1]? = some (.cells #[.int .i64 0, .string ⟨#[]⟩, .string ⟨#[]⟩, .bool false, .slice none 0 0, .slice none 0 0, .int .i64 0, .int .i64 0, .int .i64 0, .int .i64 0, .int .i64 0, .bool false, .slice none 0 0, .slice none 0 0, .string ⟨#[]⟩, .slice none 0 0, .slice none 0 0, .string ⟨#[]⟩, .int .i64 0, .slice none 0 0, .slice none 0 0] 32 (0, 0)) ∧ wr.heap[w.heap.size]? = some (.cells #[.int .i64 d.s.ru, .string d.s.nm, .string d.s.ot, .bool d.s.g, .slice d.aq d.an d.ac, .slice d.cq d.cn d.cc, .int .i64 d.s.kk, .int .i64 d.s.nn, .int .i64 d.s.pr, .int .i64 d.e.k, .int .i64 d.e.f, .bool d.e.neg, .slice d.e.aq d.e.an d.e.ac, .slice d.e.cq d.e.cn d.e.cc, .string d.e.m, .slice d.e.sq d.e.sn d.e.sc, .slice d.poq d.pon d.poc, .string d.s.en, .int .i64 d.s.ve, .slice d.arq d.arn d.arc, .slice d.kiq d.kin d.kic] 32 (0, 0))) (fun i _ => d.arn - (intOf i).toNat)
      case atStart =>
        exact ⟨0, Nat.zero_le _, rfl, .slice none 0 0, [], rfl, hblk0, World.ownsRow_nil _ _ _ _, by simp [Value.ownBlock], fun i x h => by simp at h, B1, B2, B3, B4, hWc, hG2, hresc, hboxc⟩
      case round =>
        clear hblk0 hG2 hWc hresc hboxc B1 B2 B3 B4
        obtain ⟨k, hk, rfl, v, L, hLk, hblk, hown, hne, hLx, hA1, hA2, hA3, hA4, hbw, hGr, hres, hbox⟩ := hrel
        have hws := hbw.size
        by_cases hlt : k < d.arn
        · have hlt' : (k : Int) < (d.arn : Int) := by omega
          have hKk := hBd k hlt
          rcases hb.out with h0 | ⟨b, o, hq, hbb, hcx⟩
          · omega
          have hx := rangeAt_below (hcx k hlt) hbw hbb
          clear hcx
          generalize hX : ys k = X at *
          rw [hq] at hbox ⊢
          obtain ⟨de', hu', hd'⟩ := bi_row
          have hHu' : Hid (Tryz.prog.underlying 65 = some de') := hu'
          clear hu'
          go_wp2_with (first
            | (with_reducible refine wpList_load_mid ?_ 65 (.tmp 44) ?_ b (o + k * 8) ?_ [.string X.m, .int .i64 X.ek, .int .i64 X.ef, .bool X.eg, .slice X.eaq X.ean X.eac, .slice X.ecq X.ecn X.ecc, .string X.em, .slice X.esq X.esn X.esc] de' ?_ hHu'.out hd' ?_ ?_
               rotate_left 1
               · with_reducible rfl
               · rfl
               · exact hx
               · exact bi_size
               rotate_left 1
               · rfl)
            | (with_reducible refine wpList_store_new ?_ 65 (.tmp 7) (.tmp 45) ?_ #[.string X.m, .int .i64 X.ek, .int .i64 X.ef, .bool X.eg, .slice X.eaq X.ean X.eac, .slice X.ecq X.ecn X.ecc, .string X.em, .slice X.esq X.esn X.esc] wr.heap.size rfl ?_ ?_ ?_ ?_ ?_ ?_
               rotate_left 1
               · with_reducible rfl
               · rfl
               · rfl
               · rfl
               · exact bi_size
               · exact all_oneCell_toArray (one_bi X)
               rotate_left 1
               · rfl))
          simp only [Act.put]
          have hT : (fun z => z.cell? ⟨wr.heap.size, 0, none⟩ = some (.string X.m) ∧ z.cell? ⟨wr.heap.size, 1, none⟩ = some (.int .i64 X.ek) ∧ z.cell? ⟨wr.heap.size, 2, none⟩ = some (.int .i64 X.ef) ∧ z.cell? ⟨wr.heap.size, 3, none⟩ = some (.bool X.eg) ∧ z.cell? ⟨wr.heap.size, 4, none⟩ = some (.slice X.eaq X.ean X.eac) ∧ z.cell? ⟨wr.heap.size, 5, none⟩ = some (.slice X.ecq X.ecn X.ecc) ∧ z.cell? ⟨wr.heap.size, 6, none⟩ = some (.string X.em) ∧ z.cell? ⟨wr.heap.size, 7, none⟩ = some (.slice X.esq X.esn X.esc)) (wr.alloc (.cells #[.string X.m, .int .i64 X.ek, .int .i64 X.ef, .bool X.eg, .slice X.eaq X.ean X.eac, .slice X.ecq X.ecn X.ecc, .string X.em, .slice X.esq X.esn X.esc] 65)) := ⟨by simp, by simp, by simp, by simp, by simp, by simp, by simp, by simp⟩
          have hz : Below wr.heap.size wr (wr.alloc (.cells #[.string X.m, .int .i64 X.ek, .int .i64 X.ef, .bool X.eg, .slice X.eaq X.ean X.eac, .slice X.ecq X.ecn X.ecc, .string X.em, .slice X.esq X.esn X.esc] 65)).drew := (below_one _ _).drew
          have hzs : (wr.alloc (.cells #[.string X.m, .int .i64 X.ek, .int .i64 X.ef, .bool X.eg, .slice X.eaq X.ean X.eac, .slice X.ecq X.ecn X.ecc, .string X.em, .slice X.esq X.esn X.esc] 65)).drew.heap.size = wr.heap.size + 1 := by show (wr.heap.push _).size = _; simp
          have hbz : Below w.heap.size w (wr.alloc (.cells #[.string X.m, .int .i64 X.ek, .int .i64 X.ef, .bool X.eg, .slice X.eaq X.ean X.eac, .slice X.ecq X.ecn X.ecc, .string X.em, .slice X.esq X.esn X.esc] 65)).drew := hbw.trans (hz.mono hbw.size)
          have c6 : (wr.alloc (.cells #[.string X.m, .int .i64 X.ek, .int .i64 X.ef, .bool X.eg, .slice X.eaq X.ean X.eac, .slice X.ecq X.ecn X.ecc, .string X.em, .slice X.esq X.esn X.esc] 65)).cell? ⟨G, 19, none⟩ = some v := by rw [World.cell?_alloc_lt _ _ _ (by exact hGr), cell_of_row _ _ _ _ _ _ hblk]; rfl
          have hrl := hown.lt
          refine wp_region_held_drew (S := fun z => z.cell? ⟨wr.heap.size, 0, none⟩ = some (.string X.m) ∧ z.cell? ⟨wr.heap.size, 1, none⟩ = some (.int .i64 X.ek) ∧ z.cell? ⟨wr.heap.size, 2, none⟩ = some (.int .i64 X.ef) ∧ z.cell? ⟨wr.heap.size, 3, none⟩ = some (.bool X.eg) ∧ z.cell? ⟨wr.heap.size, 4, none⟩ = some (.slice X.eaq X.ean X.eac) ∧ z.cell? ⟨wr.heap.size, 5, none⟩ = some (.slice X.ecq X.ecn X.ecc) ∧ z.cell? ⟨wr.heap.size, 6, none⟩ = some (.string X.em) ∧ z.cell? ⟨wr.heap.size, 7, none⟩ = some (.slice X.esq X.esn X.esc)) (by kernel_rfl) hT (fun hHeld => ?_)
          refine wpAnyH_take (i := 0) (oi := ?op0x3) (v := .pointer (some ⟨G, 19, none⟩)) ?ta0x3 ?tb0x3 ?tc0x3 ?td0x3 ?tq0x3 ?ty0x3 hHeld ?_
          case ta0x3 => rfl
          case tb0x3 => kernel_rfl
          case tc0x3 => kernel_rfl
          case td0x3 => kernel_rfl
          case tq0x3 => exact fun _ _ _ h => h
          case ty0x3 => exact Or.inl ⟨by rfl, by intro z hSz; go_simp⟩
          simp only [Act.put, List.setIfInBounds_toArray]
          refine wpAnyH_take (i := 2) (oi := ?op2x4) (v := .pointer (some ⟨wr.heap.size, 0, none⟩)) ?ta2x4 ?tb2x4 ?tc2x4 ?td2x4 ?tq2x4 ?ty2x4 hHeld ?_
          case ta2x4 => rfl
          case tb2x4 => kernel_rfl
          case tc2x4 => kernel_rfl
          case td2x4 => kernel_rfl
          case tq2x4 => exact fun _ _ _ h => h
          case ty2x4 => exact Or.inl ⟨by rfl, by intro z hSz; go_simp⟩
          simp only [Act.put]
          refine wpAnyH_take (i := 3) (oi := ?op3x5) (v := .string X.m) ?ta3x5 ?tb3x5 ?tc3x5 ?td3x5 ?tq3x5 ?ty3x5 hHeld ?_
          case ta3x5 => rfl
          case tb3x5 => kernel_rfl
          case tc3x5 => kernel_rfl
          case td3x5 => kernel_rfl
          case tq3x5 => exact fun _ _ _ h => h
          case ty3x5 => exact Or.inl ⟨by rfl, by intro z hSz; go_simp⟩
          simp only [Act.put]
          refine wpAnyH_take (i := 4) (oi := ?op4x6) (v := .pointer (some ⟨wr.heap.size, 1, none⟩)) ?ta4x6 ?tb4x6 ?tc4x6 ?td4x6 ?tq4x6 ?ty4x6 hHeld ?_
          case ta4x6 => rfl
          case tb4x6 => kernel_rfl
          case tc4x6 => kernel_rfl
          case td4x6 => kernel_rfl
          case tq4x6 => exact fun _ _ _ h => h
          case ty4x6 => exact Or.inl ⟨by rfl, by intro z hSz; go_simp⟩
          simp only [Act.put]
          refine wpAnyH_take (i := 5) (oi := ?op5x7) (v := .agg #[.int .i64 X.ek, .int .i64 X.ef, .bool X.eg, .slice X.eaq X.ean X.eac, .slice X.ecq X.ecn X.ecc, .string X.em, .slice X.esq X.esn X.esc]) ?ta5x7 ?tb5x7 ?tc5x7 ?td5x7 ?tq5x7 ?ty5x7 hHeld ?_
          case ta5x7 => rfl
          case tb5x7 => kernel_rfl
          case tc5x7 => kernel_rfl
          case td5x7 => kernel_rfl
          case tq5x7 => exact fun _ _ _ h => h
          case ty5x7 => exact Or.inl ⟨by rfl, by intro z hSz; go_simp⟩
          simp only [Act.put]
          refine wpAnyH_ready (rs := [1, 6]) (by kernel_rfl) (by simp) ?_
          refine AllReadyH.cons rfl (fun K hKK => ?_) (AllReadyH.cons rfl (fun K hKK => ?_) AllReadyH.nil)
          · go_simp
            refine hKK.out _ _ hHeld (fun _ => ?_)
            clear hKK K
            refine wpAnyH_ready (rs := [6]) (by kernel_rfl) (by simp) ?_
            refine AllReadyH.cons rfl (fun K hKK => ?_) AllReadyH.nil
            go_simp
            refine (hKk _ hbz).mono ?_
            rintro e w5 ⟨f', rfl, hA51, hb5⟩
            have hs5 := hb5.size
            have hT5 : (fun z => z.cell? ⟨wr.heap.size, 0, none⟩ = some (.string X.m) ∧ z.cell? ⟨wr.heap.size, 1, none⟩ = some (.int .i64 X.ek) ∧ z.cell? ⟨wr.heap.size, 2, none⟩ = some (.int .i64 X.ef) ∧ z.cell? ⟨wr.heap.size, 3, none⟩ = some (.bool X.eg) ∧ z.cell? ⟨wr.heap.size, 4, none⟩ = some (.slice X.eaq X.ean X.eac) ∧ z.cell? ⟨wr.heap.size, 5, none⟩ = some (.slice X.ecq X.ecn X.ecc) ∧ z.cell? ⟨wr.heap.size, 6, none⟩ = some (.string X.em) ∧ z.cell? ⟨wr.heap.size, 7, none⟩ = some (.slice X.esq X.esn X.esc)) w5 := ⟨(hb5.cell (by show wr.heap.size < _; omega)).trans hT.1, (hb5.cell (by show wr.heap.size < _; omega)).trans hT.2.1, (hb5.cell (by show wr.heap.size < _; omega)).trans hT.2.2.1, (hb5.cell (by show wr.heap.size < _; omega)).trans hT.2.2.2.1, (hb5.cell (by show wr.heap.size < _; omega)).trans hT.2.2.2.2.1, (hb5.cell (by show wr.heap.size < _; omega)).trans hT.2.2.2.2.2.1, (hb5.cell (by show wr.heap.size < _; omega)).trans hT.2.2.2.2.2.2.1, (hb5.cell (by show wr.heap.size < _; omega)).trans hT.2.2.2.2.2.2.2⟩
            have c65 : w5.cell? ⟨G, 19, none⟩ = some v := (hb5.cell (by show G < _; omega)).trans c6
            have hown5 : w5.ownsRow (w.heap.size + 3) 65 8 v k (L.flatMap Bi.cells) := ((hown.alloc _).drew).kept (row := none) ⟨hb5.os, hb5.tape, hb5.output, hb5.size, fun b hb _ => hb5.block b hb⟩ (by cases hv : v.ownBlock with | none => exact .inl rfl | some _ => exact .inr (by simp))
            refine hKK.out _ _ hT5 (fun hHeld5 => ?_)
            clear hKK K
            refine wpAnyH_take (i := 7) (oi := ?op7x1) (v := .agg #[.string X.m, .int .i64 f'.k, .int .i64 f'.f, .bool f'.neg, .slice f'.aq f'.an f'.ac, .slice f'.cq f'.cn f'.cc, .string f'.m, .slice f'.sq f'.sn f'.sc]) ?ta7x1 ?tb7x1 ?tc7x1 ?td7x1 ?tq7x1 ?ty7x1 hHeld5 ?_
            case ta7x1 => rfl
            case tb7x1 => kernel_rfl
            case tc7x1 => kernel_rfl
            case td7x1 => kernel_rfl
            case tq7x1 => exact fun _ _ _ h => h
            case ty7x1 => exact Or.inl ⟨by rfl, by intro z hSz; go_simp⟩
            simp only [Act.put, List.setIfInBounds_toArray]
            refine wpAnyH_ready (rs := [8]) (by kernel_rfl) (by simp) ?_
            refine AllReadyH.cons rfl (fun K hKK => ?_) AllReadyH.nil
            go_simp
            have hT6 : (fun z => z.cell? ⟨wr.heap.size, 0, none⟩ = some (.string X.m) ∧ z.cell? ⟨wr.heap.size, 1, none⟩ = some (.int .i64 X.ek) ∧ z.cell? ⟨wr.heap.size, 2, none⟩ = some (.int .i64 X.ef) ∧ z.cell? ⟨wr.heap.size, 3, none⟩ = some (.bool X.eg) ∧ z.cell? ⟨wr.heap.size, 4, none⟩ = some (.slice X.eaq X.ean X.eac) ∧ z.cell? ⟨wr.heap.size, 5, none⟩ = some (.slice X.ecq X.ecn X.ecc) ∧ z.cell? ⟨wr.heap.size, 6, none⟩ = some (.string X.em) ∧ z.cell? ⟨wr.heap.size, 7, none⟩ = some (.slice X.esq X.esn X.esc)) (w5.alloc (.cells #[.string X.m, .int .i64 f'.k, .int .i64 f'.f, .bool f'.neg, .slice f'.aq f'.an f'.ac, .slice f'.cq f'.cn f'.cc, .string f'.m, .slice f'.sq f'.sn f'.sc] 65)) := ⟨(World.cell?_alloc_lt _ _ _ (by show wr.heap.size < _; omega)).trans hT5.1, (World.cell?_alloc_lt _ _ _ (by show wr.heap.size < _; omega)).trans hT5.2.1, (World.cell?_alloc_lt _ _ _ (by show wr.heap.size < _; omega)).trans hT5.2.2.1, (World.cell?_alloc_lt _ _ _ (by show wr.heap.size < _; omega)).trans hT5.2.2.2.1, (World.cell?_alloc_lt _ _ _ (by show wr.heap.size < _; omega)).trans hT5.2.2.2.2.1, (World.cell?_alloc_lt _ _ _ (by show wr.heap.size < _; omega)).trans hT5.2.2.2.2.2.1, (World.cell?_alloc_lt _ _ _ (by show wr.heap.size < _; omega)).trans hT5.2.2.2.2.2.2.1, (World.cell?_alloc_lt _ _ _ (by show wr.heap.size < _; omega)).trans hT5.2.2.2.2.2.2.2⟩
            have c66 : (w5.alloc (.cells #[.string X.m, .int .i64 f'.k, .int .i64 f'.f, .bool f'.neg, .slice f'.aq f'.an f'.ac, .slice f'.cq f'.cn f'.cc, .string f'.m, .slice f'.sq f'.sn f'.sc] 65)).cell? ⟨G, 19, none⟩ = some v := by rw [World.cell?_alloc_lt _ _ _ (by show G < _; omega)]; exact c65
            refine hKK.out _ _ hT6 (fun _ => ?_)
            clear hKK K
            refine wpAnyH_ready (rs := [9]) (by kernel_rfl) (by simp) ?_
            refine AllReadyH.cons rfl (fun K hKK => ?_) AllReadyH.nil
            refine step_append_lies _ rfl _ _ 29 rfl (w.heap.size + 3) 65 i0 (.agg #[.string ⟨#[]⟩, .int .i64 0, .int .i64 0, .bool false, .slice none 0 0, .slice none 0 0, .string ⟨#[]⟩, .slice none 0 0]) 8 128 Tryz.underlying29 hi hz0 hz1 hz2 rfl (by decide) v k (L.flatMap Bi.cells) rfl (hown5.alloc _) ⟨w5.heap.size, 0, none⟩ 1 1 (⟨X.m, f'.k, f'.f, f'.neg, f'.aq, f'.an, f'.ac, f'.cq, f'.cn, f'.cc, f'.m, f'.sq, f'.sn, f'.sc⟩ : Bi).cells rfl rfl (World.news_of_block (heap_alloc_last w5 (.cells (⟨X.m, f'.k, f'.f, f'.neg, f'.aq, f'.an, f'.ac, f'.cq, f'.cn, f'.cc, f'.m, f'.sq, f'.sn, f'.sc⟩ : Bi).cells.toArray 65))) (one_bi _) (by decide) (by unfold maxLen; omega) (by omega) (by simp; omega) _ rfl ?_
            intro g cap w7 hown7 hgrow7 hat7 hlt7
            have hTne : some wr.heap.size ≠ v.ownBlock := fun e => by have := (hrl _ e.symm).2; omega
            have hT7 : (fun z => z.cell? ⟨wr.heap.size, 0, none⟩ = some (.string X.m) ∧ z.cell? ⟨wr.heap.size, 1, none⟩ = some (.int .i64 X.ek) ∧ z.cell? ⟨wr.heap.size, 2, none⟩ = some (.int .i64 X.ef) ∧ z.cell? ⟨wr.heap.size, 3, none⟩ = some (.bool X.eg) ∧ z.cell? ⟨wr.heap.size, 4, none⟩ = some (.slice X.eaq X.ean X.eac) ∧ z.cell? ⟨wr.heap.size, 5, none⟩ = some (.slice X.ecq X.ecn X.ecc) ∧ z.cell? ⟨wr.heap.size, 6, none⟩ = some (.string X.em) ∧ z.cell? ⟨wr.heap.size, 7, none⟩ = some (.slice X.esq X.esn X.esc)) w7 := ⟨hgrow7.cell hT6.1 hTne, hgrow7.cell hT6.2.1 hTne, hgrow7.cell hT6.2.2.1 hTne, hgrow7.cell hT6.2.2.2.1 hTne, hgrow7.cell hT6.2.2.2.2.1 hTne, hgrow7.cell hT6.2.2.2.2.2.1 hTne, hgrow7.cell hT6.2.2.2.2.2.2.1 hTne, hgrow7.cell hT6.2.2.2.2.2.2.2 hTne⟩
            have c67 : w7.cell? ⟨G, 19, none⟩ = some v := hgrow7.cell c66 (fun e => hne e.symm)
            obtain ⟨m1, m2, m3, m4, m5, m6, m7, m8⟩ := grow_step (j := 19) (u := .slice (some ⟨g, 0, none⟩) (k + 1) cap) hGr (by omega : (w.heap.size + 3) ≤ wr.heap.size) hz hb5 hgrow7 hat7 hlt7 hrl hne rfl
            have f67 : ∀ j, w7.frozen? ⟨G, j, none⟩ = false := fun j => frozen_of_row _ _ _ _ _ (m5 _ _ _ hblk)
            refine hKK.out _ _ hT7 (fun hHeld7 => ?_)
            clear hKK K
            refine wpAnyH_take (i := 10) (oi := ?op10x2) (v := .pointer (some ⟨G, 19, none⟩)) ?ta10x2 ?tb10x2 ?tc10x2 ?td10x2 ?tq10x2 ?ty10x2 hHeld7 ?_
            case ta10x2 => rfl
            case tb10x2 => kernel_rfl
            case tc10x2 => kernel_rfl
            case td10x2 => kernel_rfl
            case tq10x2 => exact fun _ _ _ h => h
            case ty10x2 => exact Or.inl ⟨by rfl, by intro z hSz; go_simp⟩
            simp only [Act.put, List.setIfInBounds_toArray]
            refine wpAnyH_ready (rs := [11]) (by kernel_rfl) (by simp) ?_
            refine AllReadyH.cons rfl (fun K hKK => ?_) AllReadyH.nil
            go_simp
            refine hKK.out _ _ ⟨(World.cell?_setCell_far _ _ _ _ (by show G ≠ wr.heap.size; omega)).trans hT7.1, (World.cell?_setCell_far _ _ _ _ (by show G ≠ wr.heap.size; omega)).trans hT7.2.1, (World.cell?_setCell_far _ _ _ _ (by show G ≠ wr.heap.size; omega)).trans hT7.2.2.1, (World.cell?_setCell_far _ _ _ _ (by show G ≠ wr.heap.size; omega)).trans hT7.2.2.2.1, (World.cell?_setCell_far _ _ _ _ (by show G ≠ wr.heap.size; omega)).trans hT7.2.2.2.2.1, (World.cell?_setCell_far _ _ _ _ (by show G ≠ wr.heap.size; omega)).trans hT7.2.2.2.2.2.1, (World.cell?_setCell_far _ _ _ _ (by show G ≠ wr.heap.size; omega)).trans hT7.2.2.2.2.2.2.1, (World.cell?_setCell_far _ _ _ _ (by show G ≠ wr.heap.size; omega)).trans hT7.2.2.2.2.2.2.2⟩ (fun _ => ?_)
            clear hKK K
            refine wpAnyH_done (by kernel_rfl) ?_ _
            go_wp2_with fail
            go_roundw
            case rel =>
              refine ⟨k + 1, by omega, by go_num, .slice (some ⟨g, 0, none⟩) (k + 1) cap, L ++ [(⟨X.m, f'.k, f'.f, f'.neg, f'.aq, f'.an, f'.ac, f'.cq, f'.cn, f'.cc, f'.m, f'.sq, f'.sn, f'.sc⟩ : Bi)], by simp [hLk], heap_setCell_at (m5 _ _ _ hblk), ?_, m6, ?_, hA1.keep m1 m2, hA2.keep m1 m2, hA3.keep m1 m2, hA4.keep m1 m2, ?_, by omega, ?_, ?_⟩
              · rw [List.flatMap_append, List.flatMap_singleton]
                exact owns_setCell hown7 m6
              · intro i x hi
                by_cases hik : i < k
                · rw [List.getElem?_append_left (by omega)] at hi
                  exact (hLx i x hi).keep m1 m2
                · rw [List.getElem?_append_right (by omega)] at hi
                  have hi0 : i - L.length = 0 := by
                    rcases Nat.eq_zero_or_pos (i - L.length) with h | h
                    · exact h
                    · rw [List.getElem?_eq_none (by simp; omega)] at hi
                      cases hi
                  rw [hi0] at hi
                  simp only [List.getElem?_cons_zero, Option.some.injEq] at hi
                  subst hi
                  have : i = k := by omega
                  subst this
                  exact (by have h := hBeq i hlt; rw [hX] at h; exact ⟨h, hA51.keep m3 m4⟩)
              · refine Below.setCell ?_ (by show w.heap.size ≤ G; omega) _
                exact ((hbz.trans (hb5.mono hbz.size)).alloc (by omega) _).grown hgrow7 (by simp; omega) (fun b hb => by have := (hrl b hb).1; omega)
              · rw [m8 (w.heap.size + 1) (by omega) (by omega) (fun e => by have := (hrl _ e).1; omega)]
                exact hres
              · rw [m8 w.heap.size (by omega) (by omega) (fun e => by have := (hrl _ e).1; omega)]
                exact hbox
            case measure => simp [intOf]; omega
          · go_simp
            refine (hKk _ hbz).mono ?_
            rintro e w5 ⟨f', rfl, hA51, hb5⟩
            have hs5 := hb5.size
            have hT5 : (fun z => z.cell? ⟨wr.heap.size, 0, none⟩ = some (.string X.m) ∧ z.cell? ⟨wr.heap.size, 1, none⟩ = some (.int .i64 X.ek) ∧ z.cell? ⟨wr.heap.size, 2, none⟩ = some (.int .i64 X.ef) ∧ z.cell? ⟨wr.heap.size, 3, none⟩ = some (.bool X.eg) ∧ z.cell? ⟨wr.heap.size, 4, none⟩ = some (.slice X.eaq X.ean X.eac) ∧ z.cell? ⟨wr.heap.size, 5, none⟩ = some (.slice X.ecq X.ecn X.ecc) ∧ z.cell? ⟨wr.heap.size, 6, none⟩ = some (.string X.em) ∧ z.cell? ⟨wr.heap.size, 7, none⟩ = some (.slice X.esq X.esn X.esc)) w5 := ⟨(hb5.cell (by show wr.heap.size < _; omega)).trans hT.1, (hb5.cell (by show wr.heap.size < _; omega)).trans hT.2.1, (hb5.cell (by show wr.heap.size < _; omega)).trans hT.2.2.1, (hb5.cell (by show wr.heap.size < _; omega)).trans hT.2.2.2.1, (hb5.cell (by show wr.heap.size < _; omega)).trans hT.2.2.2.2.1, (hb5.cell (by show wr.heap.size < _; omega)).trans hT.2.2.2.2.2.1, (hb5.cell (by show wr.heap.size < _; omega)).trans hT.2.2.2.2.2.2.1, (hb5.cell (by show wr.heap.size < _; omega)).trans hT.2.2.2.2.2.2.2⟩
            have c65 : w5.cell? ⟨G, 19, none⟩ = some v := (hb5.cell (by show G < _; omega)).trans c6
            have hown5 : w5.ownsRow (w.heap.size + 3) 65 8 v k (L.flatMap Bi.cells) := ((hown.alloc _).drew).kept (row := none) ⟨hb5.os, hb5.tape, hb5.output, hb5.size, fun b hb _ => hb5.block b hb⟩ (by cases hv : v.ownBlock with | none => exact .inl rfl | some _ => exact .inr (by simp))
            refine hKK.out _ _ hT5 (fun hHeld5 => ?_)
            clear hKK K
            refine wpAnyH_take (i := 7) (oi := ?op7x1) (v := .agg #[.string X.m, .int .i64 f'.k, .int .i64 f'.f, .bool f'.neg, .slice f'.aq f'.an f'.ac, .slice f'.cq f'.cn f'.cc, .string f'.m, .slice f'.sq f'.sn f'.sc]) ?ta7x1 ?tb7x1 ?tc7x1 ?td7x1 ?tq7x1 ?ty7x1 hHeld5 ?_
            case ta7x1 => rfl
            case tb7x1 => kernel_rfl
            case tc7x1 => kernel_rfl
            case td7x1 => kernel_rfl
            case tq7x1 => exact fun _ _ _ h => h
            case ty7x1 => exact Or.inl ⟨by rfl, by intro z hSz; go_simp⟩
            simp only [Act.put, List.setIfInBounds_toArray]
            refine wpAnyH_ready (rs := [1, 8]) (by kernel_rfl) (by simp) ?_
            refine AllReadyH.cons rfl (fun K hKK => ?_) (AllReadyH.cons rfl (fun K hKK => ?_) AllReadyH.nil)
            · go_simp
              refine hKK.out _ _ hT5 (fun _ => ?_)
              clear hKK K
              refine wpAnyH_ready (rs := [8]) (by kernel_rfl) (by simp) ?_
              refine AllReadyH.cons rfl (fun K hKK => ?_) AllReadyH.nil
              go_simp
              have hT6 : (fun z => z.cell? ⟨wr.heap.size, 0, none⟩ = some (.string X.m) ∧ z.cell? ⟨wr.heap.size, 1, none⟩ = some (.int .i64 X.ek) ∧ z.cell? ⟨wr.heap.size, 2, none⟩ = some (.int .i64 X.ef) ∧ z.cell? ⟨wr.heap.size, 3, none⟩ = some (.bool X.eg) ∧ z.cell? ⟨wr.heap.size, 4, none⟩ = some (.slice X.eaq X.ean X.eac) ∧ z.cell? ⟨wr.heap.size, 5, none⟩ = some (.slice X.ecq X.ecn X.ecc) ∧ z.cell? ⟨wr.heap.size, 6, none⟩ = some (.string X.em) ∧ z.cell? ⟨wr.heap.size, 7, none⟩ = some (.slice X.esq X.esn X.esc)) (w5.alloc (.cells #[.string X.m, .int .i64 f'.k, .int .i64 f'.f, .bool f'.neg, .slice f'.aq f'.an f'.ac, .slice f'.cq f'.cn f'.cc, .string f'.m, .slice f'.sq f'.sn f'.sc] 65)) := ⟨(World.cell?_alloc_lt _ _ _ (by show wr.heap.size < _; omega)).trans hT5.1, (World.cell?_alloc_lt _ _ _ (by show wr.heap.size < _; omega)).trans hT5.2.1, (World.cell?_alloc_lt _ _ _ (by show wr.heap.size < _; omega)).trans hT5.2.2.1, (World.cell?_alloc_lt _ _ _ (by show wr.heap.size < _; omega)).trans hT5.2.2.2.1, (World.cell?_alloc_lt _ _ _ (by show wr.heap.size < _; omega)).trans hT5.2.2.2.2.1, (World.cell?_alloc_lt _ _ _ (by show wr.heap.size < _; omega)).trans hT5.2.2.2.2.2.1, (World.cell?_alloc_lt _ _ _ (by show wr.heap.size < _; omega)).trans hT5.2.2.2.2.2.2.1, (World.cell?_alloc_lt _ _ _ (by show wr.heap.size < _; omega)).trans hT5.2.2.2.2.2.2.2⟩
              have c66 : (w5.alloc (.cells #[.string X.m, .int .i64 f'.k, .int .i64 f'.f, .bool f'.neg, .slice f'.aq f'.an f'.ac, .slice f'.cq f'.cn f'.cc, .string f'.m, .slice f'.sq f'.sn f'.sc] 65)).cell? ⟨G, 19, none⟩ = some v := by rw [World.cell?_alloc_lt _ _ _ (by show G < _; omega)]; exact c65
              refine hKK.out _ _ hT6 (fun _ => ?_)
              clear hKK K
              refine wpAnyH_ready (rs := [9]) (by kernel_rfl) (by simp) ?_
              refine AllReadyH.cons rfl (fun K hKK => ?_) AllReadyH.nil
              refine step_append_lies _ rfl _ _ 29 rfl (w.heap.size + 3) 65 i0 (.agg #[.string ⟨#[]⟩, .int .i64 0, .int .i64 0, .bool false, .slice none 0 0, .slice none 0 0, .string ⟨#[]⟩, .slice none 0 0]) 8 128 Tryz.underlying29 hi hz0 hz1 hz2 rfl (by decide) v k (L.flatMap Bi.cells) rfl (hown5.alloc _) ⟨w5.heap.size, 0, none⟩ 1 1 (⟨X.m, f'.k, f'.f, f'.neg, f'.aq, f'.an, f'.ac, f'.cq, f'.cn, f'.cc, f'.m, f'.sq, f'.sn, f'.sc⟩ : Bi).cells rfl rfl (World.news_of_block (heap_alloc_last w5 (.cells (⟨X.m, f'.k, f'.f, f'.neg, f'.aq, f'.an, f'.ac, f'.cq, f'.cn, f'.cc, f'.m, f'.sq, f'.sn, f'.sc⟩ : Bi).cells.toArray 65))) (one_bi _) (by decide) (by unfold maxLen; omega) (by omega) (by simp; omega) _ rfl ?_
              intro g cap w7 hown7 hgrow7 hat7 hlt7
              have hTne : some wr.heap.size ≠ v.ownBlock := fun e => by have := (hrl _ e.symm).2; omega
              have hT7 : (fun z => z.cell? ⟨wr.heap.size, 0, none⟩ = some (.string X.m) ∧ z.cell? ⟨wr.heap.size, 1, none⟩ = some (.int .i64 X.ek) ∧ z.cell? ⟨wr.heap.size, 2, none⟩ = some (.int .i64 X.ef) ∧ z.cell? ⟨wr.heap.size, 3, none⟩ = some (.bool X.eg) ∧ z.cell? ⟨wr.heap.size, 4, none⟩ = some (.slice X.eaq X.ean X.eac) ∧ z.cell? ⟨wr.heap.size, 5, none⟩ = some (.slice X.ecq X.ecn X.ecc) ∧ z.cell? ⟨wr.heap.size, 6, none⟩ = some (.string X.em) ∧ z.cell? ⟨wr.heap.size, 7, none⟩ = some (.slice X.esq X.esn X.esc)) w7 := ⟨hgrow7.cell hT6.1 hTne, hgrow7.cell hT6.2.1 hTne, hgrow7.cell hT6.2.2.1 hTne, hgrow7.cell hT6.2.2.2.1 hTne, hgrow7.cell hT6.2.2.2.2.1 hTne, hgrow7.cell hT6.2.2.2.2.2.1 hTne, hgrow7.cell hT6.2.2.2.2.2.2.1 hTne, hgrow7.cell hT6.2.2.2.2.2.2.2 hTne⟩
              have c67 : w7.cell? ⟨G, 19, none⟩ = some v := hgrow7.cell c66 (fun e => hne e.symm)
              obtain ⟨m1, m2, m3, m4, m5, m6, m7, m8⟩ := grow_step (j := 19) (u := .slice (some ⟨g, 0, none⟩) (k + 1) cap) hGr (by omega : (w.heap.size + 3) ≤ wr.heap.size) hz hb5 hgrow7 hat7 hlt7 hrl hne rfl
              have f67 : ∀ j, w7.frozen? ⟨G, j, none⟩ = false := fun j => frozen_of_row _ _ _ _ _ (m5 _ _ _ hblk)
              refine hKK.out _ _ hT7 (fun hHeld7 => ?_)
              clear hKK K
              refine wpAnyH_take (i := 10) (oi := ?op10x2) (v := .pointer (some ⟨G, 19, none⟩)) ?ta10x2 ?tb10x2 ?tc10x2 ?td10x2 ?tq10x2 ?ty10x2 hHeld7 ?_
              case ta10x2 => rfl
              case tb10x2 => kernel_rfl
              case tc10x2 => kernel_rfl
              case td10x2 => kernel_rfl
              case tq10x2 => exact fun _ _ _ h => h
              case ty10x2 => exact Or.inl ⟨by rfl, by intro z hSz; go_simp⟩
              simp only [Act.put, List.setIfInBounds_toArray]
              refine wpAnyH_ready (rs := [11]) (by kernel_rfl) (by simp) ?_
              refine AllReadyH.cons rfl (fun K hKK => ?_) AllReadyH.nil
              go_simp
              refine hKK.out _ _ ⟨(World.cell?_setCell_far _ _ _ _ (by show G ≠ wr.heap.size; omega)).trans hT7.1, (World.cell?_setCell_far _ _ _ _ (by show G ≠ wr.heap.size; omega)).trans hT7.2.1, (World.cell?_setCell_far _ _ _ _ (by show G ≠ wr.heap.size; omega)).trans hT7.2.2.1, (World.cell?_setCell_far _ _ _ _ (by show G ≠ wr.heap.size; omega)).trans hT7.2.2.2.1, (World.cell?_setCell_far _ _ _ _ (by show G ≠ wr.heap.size; omega)).trans hT7.2.2.2.2.1, (World.cell?_setCell_far _ _ _ _ (by show G ≠ wr.heap.size; omega)).trans hT7.2.2.2.2.2.1, (World.cell?_setCell_far _ _ _ _ (by show G ≠ wr.heap.size; omega)).trans hT7.2.2.2.2.2.2.1, (World.cell?_setCell_far _ _ _ _ (by show G ≠ wr.heap.size; omega)).trans hT7.2.2.2.2.2.2.2⟩ (fun _ => ?_)
              clear hKK K
              refine wpAnyH_done (by kernel_rfl) ?_ _
              go_wp2_with fail
              go_roundw
              case rel =>
                refine ⟨k + 1, by omega, by go_num, .slice (some ⟨g, 0, none⟩) (k + 1) cap, L ++ [(⟨X.m, f'.k, f'.f, f'.neg, f'.aq, f'.an, f'.ac, f'.cq, f'.cn, f'.cc, f'.m, f'.sq, f'.sn, f'.sc⟩ : Bi)], by simp [hLk], heap_setCell_at (m5 _ _ _ hblk), ?_, m6, ?_, hA1.keep m1 m2, hA2.keep m1 m2, hA3.keep m1 m2, hA4.keep m1 m2, ?_, by omega, ?_, ?_⟩
                · rw [List.flatMap_append, List.flatMap_singleton]
                  exact owns_setCell hown7 m6
                · intro i x hi
                  by_cases hik : i < k
                  · rw [List.getElem?_append_left (by omega)] at hi
                    exact (hLx i x hi).keep m1 m2
                  · rw [List.getElem?_append_right (by omega)] at hi
                    have hi0 : i - L.length = 0 := by
                      rcases Nat.eq_zero_or_pos (i - L.length) with h | h
                      · exact h
                      · rw [List.getElem?_eq_none (by simp; omega)] at hi
                        cases hi
                    rw [hi0] at hi
                    simp only [List.getElem?_cons_zero, Option.some.injEq] at hi
                    subst hi
                    have : i = k := by omega
                    subst this
                    exact (by have h := hBeq i hlt; rw [hX] at h; exact ⟨h, hA51.keep m3 m4⟩)
                · refine Below.setCell ?_ (by show w.heap.size ≤ G; omega) _
                  exact ((hbz.trans (hb5.mono hbz.size)).alloc (by omega) _).grown hgrow7 (by simp; omega) (fun b hb => by have := (hrl b hb).1; omega)
                · rw [m8 (w.heap.size + 1) (by omega) (by omega) (fun e => by have := (hrl _ e).1; omega)]
                  exact hres
                · rw [m8 w.heap.size (by omega) (by omega) (fun e => by have := (hrl _ e).1; omega)]
                  exact hbox
              case measure => simp [intOf]; omega
            · go_simp
              have hT6 : (fun z => z.cell? ⟨wr.heap.size, 0, none⟩ = some (.string X.m) ∧ z.cell? ⟨wr.heap.size, 1, none⟩ = some (.int .i64 X.ek) ∧ z.cell? ⟨wr.heap.size, 2, none⟩ = some (.int .i64 X.ef) ∧ z.cell? ⟨wr.heap.size, 3, none⟩ = some (.bool X.eg) ∧ z.cell? ⟨wr.heap.size, 4, none⟩ = some (.slice X.eaq X.ean X.eac) ∧ z.cell? ⟨wr.heap.size, 5, none⟩ = some (.slice X.ecq X.ecn X.ecc) ∧ z.cell? ⟨wr.heap.size, 6, none⟩ = some (.string X.em) ∧ z.cell? ⟨wr.heap.size, 7, none⟩ = some (.slice X.esq X.esn X.esc)) (w5.alloc (.cells #[.string X.m, .int .i64 f'.k, .int .i64 f'.f, .bool f'.neg, .slice f'.aq f'.an f'.ac, .slice f'.cq f'.cn f'.cc, .string f'.m, .slice f'.sq f'.sn f'.sc] 65)) := ⟨(World.cell?_alloc_lt _ _ _ (by show wr.heap.size < _; omega)).trans hT5.1, (World.cell?_alloc_lt _ _ _ (by show wr.heap.size < _; omega)).trans hT5.2.1, (World.cell?_alloc_lt _ _ _ (by show wr.heap.size < _; omega)).trans hT5.2.2.1, (World.cell?_alloc_lt _ _ _ (by show wr.heap.size < _; omega)).trans hT5.2.2.2.1, (World.cell?_alloc_lt _ _ _ (by show wr.heap.size < _; omega)).trans hT5.2.2.2.2.1, (World.cell?_alloc_lt _ _ _ (by show wr.heap.size < _; omega)).trans hT5.2.2.2.2.2.1, (World.cell?_alloc_lt _ _ _ (by show wr.heap.size < _; omega)).trans hT5.2.2.2.2.2.2.1, (World.cell?_alloc_lt _ _ _ (by show wr.heap.size < _; omega)).trans hT5.2.2.2.2.2.2.2⟩
              have c66 : (w5.alloc (.cells #[.string X.m, .int .i64 f'.k, .int .i64 f'.f, .bool f'.neg, .slice f'.aq f'.an f'.ac, .slice f'.cq f'.cn f'.cc, .string f'.m, .slice f'.sq f'.sn f'.sc] 65)).cell? ⟨G, 19, none⟩ = some v := by rw [World.cell?_alloc_lt _ _ _ (by show G < _; omega)]; exact c65
              refine hKK.out _ _ hT6 (fun _ => ?_)
              clear hKK K
              refine wpAnyH_ready (rs := [1]) (by kernel_rfl) (by simp) ?_
              refine AllReadyH.cons rfl (fun K hKK => ?_) AllReadyH.nil
              go_simp
              refine hKK.out _ _ hT6 (fun _ => ?_)
              clear hKK K
              refine wpAnyH_ready (rs := [9]) (by kernel_rfl) (by simp) ?_
              refine AllReadyH.cons rfl (fun K hKK => ?_) AllReadyH.nil
              refine step_append_lies _ rfl _ _ 29 rfl (w.heap.size + 3) 65 i0 (.agg #[.string ⟨#[]⟩, .int .i64 0, .int .i64 0, .bool false, .slice none 0 0, .slice none 0 0, .string ⟨#[]⟩, .slice none 0 0]) 8 128 Tryz.underlying29 hi hz0 hz1 hz2 rfl (by decide) v k (L.flatMap Bi.cells) rfl (hown5.alloc _) ⟨w5.heap.size, 0, none⟩ 1 1 (⟨X.m, f'.k, f'.f, f'.neg, f'.aq, f'.an, f'.ac, f'.cq, f'.cn, f'.cc, f'.m, f'.sq, f'.sn, f'.sc⟩ : Bi).cells rfl rfl (World.news_of_block (heap_alloc_last w5 (.cells (⟨X.m, f'.k, f'.f, f'.neg, f'.aq, f'.an, f'.ac, f'.cq, f'.cn, f'.cc, f'.m, f'.sq, f'.sn, f'.sc⟩ : Bi).cells.toArray 65))) (one_bi _) (by decide) (by unfold maxLen; omega) (by omega) (by simp; omega) _ rfl ?_
              intro g cap w7 hown7 hgrow7 hat7 hlt7
              have hTne : some wr.heap.size ≠ v.ownBlock := fun e => by have := (hrl _ e.symm).2; omega
              have hT7 : (fun z => z.cell? ⟨wr.heap.size, 0, none⟩ = some (.string X.m) ∧ z.cell? ⟨wr.heap.size, 1, none⟩ = some (.int .i64 X.ek) ∧ z.cell? ⟨wr.heap.size, 2, none⟩ = some (.int .i64 X.ef) ∧ z.cell? ⟨wr.heap.size, 3, none⟩ = some (.bool X.eg) ∧ z.cell? ⟨wr.heap.size, 4, none⟩ = some (.slice X.eaq X.ean X.eac) ∧ z.cell? ⟨wr.heap.size, 5, none⟩ = some (.slice X.ecq X.ecn X.ecc) ∧ z.cell? ⟨wr.heap.size, 6, none⟩ = some (.string X.em) ∧ z.cell? ⟨wr.heap.size, 7, none⟩ = some (.slice X.esq X.esn X.esc)) w7 := ⟨hgrow7.cell hT6.1 hTne, hgrow7.cell hT6.2.1 hTne, hgrow7.cell hT6.2.2.1 hTne, hgrow7.cell hT6.2.2.2.1 hTne, hgrow7.cell hT6.2.2.2.2.1 hTne, hgrow7.cell hT6.2.2.2.2.2.1 hTne, hgrow7.cell hT6.2.2.2.2.2.2.1 hTne, hgrow7.cell hT6.2.2.2.2.2.2.2 hTne⟩
              have c67 : w7.cell? ⟨G, 19, none⟩ = some v := hgrow7.cell c66 (fun e => hne e.symm)
              obtain ⟨m1, m2, m3, m4, m5, m6, m7, m8⟩ := grow_step (j := 19) (u := .slice (some ⟨g, 0, none⟩) (k + 1) cap) hGr (by omega : (w.heap.size + 3) ≤ wr.heap.size) hz hb5 hgrow7 hat7 hlt7 hrl hne rfl
              have f67 : ∀ j, w7.frozen? ⟨G, j, none⟩ = false := fun j => frozen_of_row _ _ _ _ _ (m5 _ _ _ hblk)
              refine hKK.out _ _ hT7 (fun hHeld7 => ?_)
              clear hKK K
              refine wpAnyH_take (i := 10) (oi := ?op10x2) (v := .pointer (some ⟨G, 19, none⟩)) ?ta10x2 ?tb10x2 ?tc10x2 ?td10x2 ?tq10x2 ?ty10x2 hHeld7 ?_
              case ta10x2 => rfl
              case tb10x2 => kernel_rfl
              case tc10x2 => kernel_rfl
              case td10x2 => kernel_rfl
              case tq10x2 => exact fun _ _ _ h => h
              case ty10x2 => exact Or.inl ⟨by rfl, by intro z hSz; go_simp⟩
              simp only [Act.put, List.setIfInBounds_toArray]
              refine wpAnyH_ready (rs := [11]) (by kernel_rfl) (by simp) ?_
              refine AllReadyH.cons rfl (fun K hKK => ?_) AllReadyH.nil
              go_simp
              refine hKK.out _ _ ⟨(World.cell?_setCell_far _ _ _ _ (by show G ≠ wr.heap.size; omega)).trans hT7.1, (World.cell?_setCell_far _ _ _ _ (by show G ≠ wr.heap.size; omega)).trans hT7.2.1, (World.cell?_setCell_far _ _ _ _ (by show G ≠ wr.heap.size; omega)).trans hT7.2.2.1, (World.cell?_setCell_far _ _ _ _ (by show G ≠ wr.heap.size; omega)).trans hT7.2.2.2.1, (World.cell?_setCell_far _ _ _ _ (by show G ≠ wr.heap.size; omega)).trans hT7.2.2.2.2.1, (World.cell?_setCell_far _ _ _ _ (by show G ≠ wr.heap.size; omega)).trans hT7.2.2.2.2.2.1, (World.cell?_setCell_far _ _ _ _ (by show G ≠ wr.heap.size; omega)).trans hT7.2.2.2.2.2.2.1, (World.cell?_setCell_far _ _ _ _ (by show G ≠ wr.heap.size; omega)).trans hT7.2.2.2.2.2.2.2⟩ (fun _ => ?_)
              clear hKK K
              refine wpAnyH_done (by kernel_rfl) ?_ _
              go_wp2_with fail
              go_roundw
              case rel =>
                refine ⟨k + 1, by omega, by go_num, .slice (some ⟨g, 0, none⟩) (k + 1) cap, L ++ [(⟨X.m, f'.k, f'.f, f'.neg, f'.aq, f'.an, f'.ac, f'.cq, f'.cn, f'.cc, f'.m, f'.sq, f'.sn, f'.sc⟩ : Bi)], by simp [hLk], heap_setCell_at (m5 _ _ _ hblk), ?_, m6, ?_, hA1.keep m1 m2, hA2.keep m1 m2, hA3.keep m1 m2, hA4.keep m1 m2, ?_, by omega, ?_, ?_⟩
                · rw [List.flatMap_append, List.flatMap_singleton]
                  exact owns_setCell hown7 m6
                · intro i x hi
                  by_cases hik : i < k
                  · rw [List.getElem?_append_left (by omega)] at hi
                    exact (hLx i x hi).keep m1 m2
                  · rw [List.getElem?_append_right (by omega)] at hi
                    have hi0 : i - L.length = 0 := by
                      rcases Nat.eq_zero_or_pos (i - L.length) with h | h
                      · exact h
                      · rw [List.getElem?_eq_none (by simp; omega)] at hi
                        cases hi
                    rw [hi0] at hi
                    simp only [List.getElem?_cons_zero, Option.some.injEq] at hi
                    subst hi
                    have : i = k := by omega
                    subst this
                    exact (by have h := hBeq i hlt; rw [hX] at h; exact ⟨h, hA51.keep m3 m4⟩)
                · refine Below.setCell ?_ (by show w.heap.size ≤ G; omega) _
                  exact ((hbz.trans (hb5.mono hbz.size)).alloc (by omega) _).grown hgrow7 (by simp; omega) (fun b hb => by have := (hrl b hb).1; omega)
                · rw [m8 (w.heap.size + 1) (by omega) (by omega) (fun e => by have := (hrl _ e).1; omega)]
                  exact hres
                · rw [m8 w.heap.size (by omega) (by omega) (fun e => by have := (hrl _ e).1; omega)]
                  exact hbox
              case measure => simp [intOf]; omega
        · have hk2 : d.arn = k := by omega
          have hvf : ∃ q c, v = .slice q k c := by
            rcases hown.2 with ⟨h, h0⟩ | ⟨g, cp, cur, h, _⟩
            · exact ⟨none, 0, by rw [h, h0]⟩
            · exact ⟨_, _, h⟩
          obtain ⟨q4, c4, rfl⟩ := hvf
          have hr3' : Hid (wr.rangeAt G 0 [.int .i64 d.s.ru, .string d.s.nm, .string d.s.ot, .bool d.s.g, .slice q1 d.an c1, .slice q2 d.cn c2, .int .i64 d.s.kk, .int .i64 d.s.nn, .int .i64 d.s.pr, .int .i64 e'.k, .int .i64 e'.f, .bool e'.neg, .slice e'.aq e'.an e'.ac, .slice e'.cq e'.cn e'.cc, .string e'.m, .slice e'.sq e'.sn e'.sc, .slice q3 d.pon c3, .string d.s.en, .int .i64 d.s.ve, .slice q4 k c4, .slice none 0 0]) := by
            have h := World.rangeAt_of_block hblk 0 21
            have h' : wr.rangeAt G 0 [.int .i64 d.s.ru, .string d.s.nm, .string d.s.ot, .bool d.s.g, .slice q1 d.an c1, .slice q2 d.cn c2, .int .i64 d.s.kk, .int .i64 d.s.nn, .int .i64 d.s.pr, .int .i64 e'.k, .int .i64 e'.f, .bool e'.neg, .slice e'.aq e'.an e'.ac, .slice e'.cq e'.cn e'.cc, .string e'.m, .slice e'.sq e'.sn e'.sc, .slice q3 d.pon c3, .string d.s.en, .int .i64 d.s.ve, .slice q4 k c4, .slice none 0 0] := by simpa using h
            exact h'
          have hr2' : Hid (wr.there (w.heap.size + 1) 0 21) := there_of_block hres rfl
          go_wp2_with (first
            | (with_reducible refine wpList_load_mid ?_ 32 (.tmp 3) ?_ G 0 ?_ [.int .i64 d.s.ru, .string d.s.nm, .string d.s.ot, .bool d.s.g, .slice q1 d.an c1, .slice q2 d.cn c2, .int .i64 d.s.kk, .int .i64 d.s.nn, .int .i64 d.s.pr, .int .i64 e'.k, .int .i64 e'.f, .bool e'.neg, .slice e'.aq e'.an e'.ac, .slice e'.cq e'.cn e'.cc, .string e'.m, .slice e'.sq e'.sn e'.sc, .slice q3 d.pon c3, .string d.s.en, .int .i64 d.s.ve, .slice q4 k c4, .slice none 0 0] dd hr3'.out hHu.out hd ?_ ?_
               rotate_left 1
               · with_reducible rfl
               · rfl
               · exact st_size
               rotate_left 1
               · rfl)
            | (with_reducible refine wpList_store_mid ?_ 32 (.tmp 2) (.tmp 58) ?_ (w.heap.size + 1) 0 #[.int .i64 d.s.ru, .string d.s.nm, .string d.s.ot, .bool d.s.g, .slice q1 d.an c1, .slice q2 d.cn c2, .int .i64 d.s.kk, .int .i64 d.s.nn, .int .i64 d.s.pr, .int .i64 e'.k, .int .i64 e'.f, .bool e'.neg, .slice e'.aq e'.an e'.ac, .slice e'.cq e'.cn e'.cc, .string e'.m, .slice e'.sq e'.sn e'.sc, .slice q3 d.pon c3, .string d.s.en, .int .i64 d.s.ve, .slice q4 k c4, .slice none 0 0] ?_ ?_ ?_ ?_ ?_ ?_
               rotate_left 1
               · with_reducible rfl
               · rfl
               · rfl
               · exact hr2'.out
               · exact st_size
               · exact all_oneCell_toArray (one_sd ⟨d.s, q1, d.an, c1, q2, d.cn, c2, e', q3, d.pon, c3, q4, k, c4, none, 0, 0⟩)
               rotate_left 1
               · rfl))
          obtain ⟨hW8, hs8, hb8⟩ := setCells_facts w.heap.size (w.heap.size + 1) (by omega) [.int .i64 d.s.ru, .string d.s.nm, .string d.s.ot, .bool d.s.g, .slice q1 d.an c1, .slice q2 d.cn c2, .int .i64 d.s.kk, .int .i64 d.s.nn, .int .i64 d.s.pr, .int .i64 e'.k, .int .i64 e'.f, .bool e'.neg, .slice e'.aq e'.an e'.ac, .slice e'.cq e'.cn e'.cc, .string e'.m, .slice e'.sq e'.sn e'.sc, .slice q3 d.pon c3, .string d.s.en, .int .i64 d.s.ve, .slice q4 k c4, .slice none 0 0] 0 w wr hbw
          have hr8 := World.rangeAt_setCells_same wr (w.heap.size + 1) 0 [.int .i64 d.s.ru, .string d.s.nm, .string d.s.ot, .bool d.s.g, .slice q1 d.an c1, .slice q2 d.cn c2, .int .i64 d.s.kk, .int .i64 d.s.nn, .int .i64 d.s.pr, .int .i64 e'.k, .int .i64 e'.f, .bool e'.neg, .slice e'.aq e'.an e'.ac, .slice e'.cq e'.cn e'.cc, .string e'.m, .slice e'.sq e'.sn e'.sc, .slice q3 d.pon c3, .string d.s.en, .int .i64 d.s.ve, .slice q4 k c4, .slice none 0 0] hr2'.out
          change bodyPost _ _ _ _ _ (wr.setCells (w.heap.size + 1) 0 [.int .i64 d.s.ru, .string d.s.nm, .string d.s.ot, .bool d.s.g, .slice q1 d.an c1, .slice q2 d.cn c2, .int .i64 d.s.kk, .int .i64 d.s.nn, .int .i64 d.s.pr, .int .i64 e'.k, .int .i64 e'.f, .bool e'.neg, .slice e'.aq e'.an e'.ac, .slice e'.cq e'.cn e'.cc, .string e'.m, .slice e'.sq e'.sn e'.sc, .slice q3 d.pon c3, .string d.s.en, .int .i64 d.s.ve, .slice q4 k c4, .slice none 0 0])
          generalize wr.setCells (w.heap.size + 1) 0 [.int .i64 d.s.ru, .string d.s.nm, .string d.s.ot, .bool d.s.g, .slice q1 d.an c1, .slice q2 d.cn c2, .int .i64 d.s.kk, .int .i64 d.s.nn, .int .i64 d.s.pr, .int .i64 e'.k, .int .i64 e'.f, .bool e'.neg, .slice e'.aq e'.an e'.ac, .slice e'.cq e'.cn e'.cc, .string e'.m, .slice e'.sq e'.sn e'.sc, .slice q3 d.pon c3, .string d.s.en, .int .i64 d.s.ve, .slice q4 k c4, .slice none 0 0] = w8 at *
          have hk8 : Keeps (Free (w.heap.size + 3) wr G (.slice q4 k c4)) wr w8 := fun b hb => hb8 b (by have := hb.1; omega)
          have ha8 : ∀ b, Free (w.heap.size + 3) wr G (.slice q4 k c4) b → Fresh w w8 b := fun b hb => ⟨by have := hb.1; omega, by have := hb.2.1; omega⟩
          refine bodyPost_ret (results_cell_mid rfl _ _ (w.heap.size + 1) _ dd rfl hr8 hHu.out hd st_size) rfl ?_
          refine ⟨q1, c1, q2, c2, e', q3, c3, q4, c4, by rw [hk2], hA1.keep hk8 ha8, hA2.keep hk8 ha8, hA3.keep hk8 ha8, hA4.keep hk8 ha8, ⟨by omega, ?_⟩, hW8⟩
          by_cases h0 : d.arn = 0
          · exact .inl h0
          · refine .inr ?_
            obtain ⟨g, cp, hg, hge, hgl⟩ := hown.form (by omega)
            simp only [Value.slice.injEq] at hg
            obtain ⟨rfl, _, rfl⟩ := hg
            refine ⟨g, 0, rfl, ⟨by omega, by omega⟩, fun i => L.getD i default, fun i hi => ?_⟩
            have hiL : i < L.length := by omega
            have hgi : L[i]? = some (L.getD i default) := by simp [List.getD, hiL]
            have hc := owns_range (s := 8) (f := Bi.cells) (fun _ => rfl) hown hgi
            have hc8 : w8.rangeAt g (0 + i * 8) (L.getD i default).cells := fun j u hu => (World.cell?_of_block (hb8 g (by omega))).trans (hc j u hu)
            exact ⟨⟨hc8 0 _ rfl, hc8 1 _ rfl, hc8 2 _ rfl, hc8 3 _ rfl, hc8 4 _ rfl, hc8 5 _ rfl, hc8 6 _ rfl, hc8 7 _ rfl⟩, (hLx i _ hgi).keep hk8 ha8⟩
end Go.Proofs.YtlmifjdbjhcceaaGreatDoor
