/-
  A library's data, opened.
-/
import Derived.Test.YtfhjhnofkaiceaaGreatDoorLbA
import Derived.Test.YtfhjhnofkaiceaaGreatDoorDvU
namespace Go.Proofs.YtfhjhnofkaiceaaGreatDoor
open Go Go.RowKit

theorem c55 : Tryz.prog.cellsOf 55 = 33 := by kernel_rfl
theorem c48 : Tryz.prog.cellsOf 48 = 10 := by kernel_rfl
theorem c45 : Tryz.prog.cellsOf 45 = 1 := by kernel_rfl
theorem c46 : Tryz.prog.cellsOf 46 = 1 := by kernel_rfl

/-- The keys of a proof that the reader reads are keys that it reads. -/
theorem keys_wf {H : Type} {enc : TypeId × Value → H} {w : World} {spare : Nat → Bool} {held : Bool} : ∀ (X : St) (d : Sd) (fuel : Nat) (x : DataW H × List MemPlace), StOk w X d → DataW.trod enc Tryz.prog w 0 spare held fuel 53 d.cells = some x → ∀ k ∈ X.keys, KyOk k := by
  intro X
  induction X with
  | non => exact fun d fuel x h => h.elim
  | mk s nu de ex pn ps bn bs n ki ih =>
    intro d fuel x hX h
    unfold StOk at hX
    obtain ⟨⟨rfl, rfl, rfl, rfl⟩, _, _, _, _, _, _, _, _, h10⟩ := hX
    unfold Sd.cells at h
    obtain ⟨xs, n, hn, rfl, hl, hxl0, hf⟩ := DataW.trod_struct Tryz.underlying53 h
    have hxl : xs.length = 13 := hxl0
    clear hxl0
    obtain ⟨y0, xs0r, rfl, hx0⟩ := list_cons (n := 12) hxl
    obtain ⟨y1, xs1r, rfl, hx1⟩ := list_cons (n := 11) hx0
    obtain ⟨y2, xs2r, rfl, hx2⟩ := list_cons (n := 10) hx1
    obtain ⟨y3, xs3r, rfl, hx3⟩ := list_cons (n := 9) hx2
    obtain ⟨y4, xs4r, rfl, hx4⟩ := list_cons (n := 8) hx3
    obtain ⟨y5, xs5r, rfl, hx5⟩ := list_cons (n := 7) hx4
    obtain ⟨y6, xs6r, rfl, hx6⟩ := list_cons (n := 6) hx5
    obtain ⟨y7, xs7r, rfl, hx7⟩ := list_cons (n := 5) hx6
    obtain ⟨y8, xs8r, rfl, hx8⟩ := list_cons (n := 4) hx7
    obtain ⟨y9, xs9r, rfl, hx9⟩ := list_cons (n := 3) hx8
    obtain ⟨y10, xs10r, rfl, hx10⟩ := list_cons (n := 2) hx9
    obtain ⟨y11, xs11r, rfl, hx11⟩ := list_cons (n := 1) hx10
    obtain ⟨y12, xs12r, rfl, hx12⟩ := list_cons (n := 0) hx11
    obtain rfl := List.length_eq_zero_iff.1 hx12
    have g9 : DataW.trod enc Tryz.prog w 0 spare held n 9 [.string d.s.en] = some y9 := by have := hf 9 _ rfl; simpa [c9] using this
    have g10 : DataW.trod enc Tryz.prog w 0 spare held n 3 [.int .i64 d.s.ve] = some y10 := by have := hf 10 _ rfl; simpa [c3] using this
    have h12 : DataW.trod enc Tryz.prog w 0 spare held n 51 [.slice d.kiq d.kin d.kic] = some y12 := by have := hf 12 _ rfl; simpa [c30] using this
    obtain ⟨s1, f1, _, f2⟩ := DataW.trod_string Tryz.underlying9 g9
    obtain ⟨s2, f3, _, f4⟩ := DataW.trod_int Tryz.underlying3 g10
    simp only [List.cons.injEq, Value.string.injEq, Value.int.injEq, and_true, true_and] at f1 f3
    subst f1 f3
    intro k hk
    unfold St.keys at hk
    rcases List.mem_append.1 hk with hk | hk
    · split at hk
      · simp only [List.mem_singleton] at hk
        exact hk ▸ ⟨f2, f4⟩
      · cases hk
    · obtain ⟨i, hi, hk⟩ := List.mem_flatMap.1 hk
      have hi := List.mem_range.1 hi
      rcases DataW.trod_slice Tryz.underlying51 h12 with ⟨e, _⟩ | ⟨a, len, cap, elems, rest, m, rfl, e, rfl, _, _, _, hel, hget, _⟩
      · simp only [List.cons.injEq, Value.slice.injEq, and_true] at e
        omega
      · simp only [List.cons.injEq, Value.slice.injEq, and_true] at e
        obtain ⟨e1, e2, _⟩ := e
        have hil : i < elems.length := by omega
        have hg := hget i (by omega)
        rw [c32, List.getElem?_eq_getElem hil, Option.bind_eq_some_iff] at hg
        obtain ⟨ces, g1, g2⟩ := hg
        rcases h10 with h0 | ⟨b, o, e3, _, ds, hds⟩
        · omega
        rw [e1] at e3
        cases e3
        obtain ⟨_, _, gl, gr⟩ := range_of_cells g1 (by decide)
        rw [show (⟨b, o, none⟩ : Addr).add (i * 21) = ⟨b, o + i * 21, none⟩ from Addr.add_mid _ _ _] at gr
        obtain ⟨k1, k2⟩ := hds i hi
        have hc : ces = (ds i).cells := by
          apply List.ext_getElem?
          intro j
          by_cases hj : j < 21
          · have a1 := gr j _ (List.getElem?_eq_getElem (by omega))
            have a2 := k1 j _ (List.getElem?_eq_getElem (by rw [Sd.len]; exact hj))
            rw [a1] at a2
            rw [List.getElem?_eq_getElem (by omega), List.getElem?_eq_getElem (by rw [Sd.len]; exact hj)]
            exact a2
          · rw [List.getElem?_eq_none (by omega), List.getElem?_eq_none (by rw [Sd.len]; omega)]
        rw [hc] at g2
        exact ih i (ds i) m _ k2 g2 k hk

section
variable {H : Type} {enc : TypeId × Value → H} {w : World} {spare : Nat → Bool} {held : Bool} {B : DataW H → Nat}

theorem slice_form {t e fuel : Nat} {cs : List Value} {x : DataW H × List MemPlace} (ht : Tryz.prog.underlying t = some (.slice e)) (h : DataW.trod enc Tryz.prog w 0 spare held fuel t cs = some x) : ∃ q n c, cs = [.slice q n c] := by
  rcases DataW.trod_slice ht h with ⟨rfl, _⟩ | ⟨a, len, cap, elems, rest, n, rfl, rfl, _⟩
  · exact ⟨_, _, _, rfl⟩
  · exact ⟨_, _, _, rfl⟩

/-- A key, opened. -/
theorem open_key {fuel : Nat} {cs : List Value} {x : DataW H × List MemPlace} (h : DataW.trod enc Tryz.prog w 0 spare held fuel 24 cs = some x) : ∃ k : ByteArray × Int, cs = kcells k ∧ KyOk k := by
  obtain ⟨xs, n, hn, rfl, hl, hxl0, hf⟩ := DataW.trod_struct Tryz.underlying24 h
  have hxl : xs.length = 2 := hxl0
  clear hxl0
  have hl : cs.length = 2 := by rw [hl]; kernel_rfl
  obtain ⟨a0, cs0r, rfl, hl0⟩ := list_cons (n := 1) hl
  obtain ⟨a1, cs1r, rfl, hl1⟩ := list_cons (n := 0) hl0
  obtain rfl := List.length_eq_zero_iff.1 hl1
  obtain ⟨y0, xs0r, rfl, hxl'0⟩ := list_cons (n := 1) hxl
  obtain ⟨y1, xs1r, rfl, hxl'1⟩ := list_cons (n := 0) hxl'0
  obtain rfl := List.length_eq_zero_iff.1 hxl'1
  have h0 : DataW.trod enc Tryz.prog w 0 spare held n 9 [a0] = some y0 := by have := hf 0 _ rfl; simpa [c9] using this
  have h1 : DataW.trod enc Tryz.prog w 0 spare held n 3 [a1] = some y1 := by have := hf 1 _ rfl; simpa [c3] using this
  obtain ⟨s, e0, _, w0⟩ := DataW.trod_string Tryz.underlying9 h0
  obtain ⟨v, e1, _, w1⟩ := DataW.trod_int Tryz.underlying3 h1
  simp only [List.cons.injEq, and_true] at e0 e1
  subst e0 e1
  exact ⟨(s, v), rfl, w0, w1⟩

set_option maxRecDepth 100000 in
theorem agg22 {W : World} {base : Nat} {cs : Array Value} (hv : Value.okWide Tryz.prog W .any base 22 (.agg cs)) : False := by
  simp [Value.okWide, Cell.okWide, Cell.ok] at hv
set_option maxRecDepth 100000 in
theorem agg9 {W : World} {base : Nat} {cs : Array Value} (hv : Value.okWide Tryz.prog W .any base 9 (.agg cs)) : False := by
  simp [Value.okWide, Cell.okWide, Cell.ok] at hv
set_option maxRecDepth 100000 in
theorem cells_slice {base : Nat} {v : Value} {q : Option Addr} {n c : Nat} (hv : Value.okWide Tryz.prog w .any base 22 v) (h : v.cells.toList = [.slice q n c]) : v = .slice q n c := by
  cases v with
  | agg cs => exact (agg22 hv).elim
  | _ => clear hv; simp_all [Value.cells]
set_option maxRecDepth 100000 in
theorem cells_string {base : Nat} {v : Value} {s : ByteArray} (hv : Value.okWide Tryz.prog w .any base 9 v) (h : v.cells.toList = [.string s]) : v = .string s := by
  cases v with
  | agg cs => exact (agg9 hv).elim
  | _ => clear hv; simp_all [Value.cells]
set_option maxRecDepth 100000 in
theorem cells_key {v : Value} {k : ByteArray × Int} (h : v.cells.toList = kcells k) : v = .agg #[.string k.1, .int .i64 k.2] := by
  cases v with
  | agg cs =>
    simp only [Value.cells] at h
    rw [show cs = #[.string k.1, .int .i64 k.2] from Array.toList_inj.1 h]
  | _ => simp [Value.cells, kcells] at h

/-- A claim's cells: each is one cell. -/
theorem open_claim (hB : Bk B) {fuel : Nat} {cs : List Value} {x : DataW H × List MemPlace} (hx : B x.1 ≤ 1048576) (h : DataW.trod enc Tryz.prog w 0 spare held fuel 48 cs = some x) : cs.length = 10 ∧ ∀ u ∈ cs, u.oneCell' = true := by
  obtain ⟨xs, n, hn, rfl, hl, hxl, hf⟩ := DataW.trod_struct Tryz.underlying48 h
  rw [c48] at hl
  have hxl' : xs.length = 4 := hxl
  clear hxl
  refine ⟨hl, ?_⟩
  obtain ⟨a0, cs0r, rfl, hl0⟩ := list_cons (n := 9) hl
  obtain ⟨a1, cs1r, rfl, hl1⟩ := list_cons (n := 8) hl0
  obtain ⟨a2, cs2r, rfl, hl2⟩ := list_cons (n := 7) hl1
  obtain ⟨a3, cs3r, rfl, hl3⟩ := list_cons (n := 6) hl2
  obtain ⟨a4, cs4r, rfl, hl4⟩ := list_cons (n := 5) hl3
  obtain ⟨a5, cs5r, rfl, hl5⟩ := list_cons (n := 4) hl4
  obtain ⟨a6, cs6r, rfl, hl6⟩ := list_cons (n := 3) hl5
  obtain ⟨a7, cs7r, rfl, hl7⟩ := list_cons (n := 2) hl6
  obtain ⟨a8, cs8r, rfl, hl8⟩ := list_cons (n := 1) hl7
  obtain ⟨a9, cs9r, rfl, hl9⟩ := list_cons (n := 0) hl8
  obtain rfl := List.length_eq_zero_iff.1 hl9
  obtain ⟨y0, xs0r, rfl, hxl'0⟩ := list_cons (n := 3) hxl'
  obtain ⟨y1, xs1r, rfl, hxl'1⟩ := list_cons (n := 2) hxl'0
  obtain ⟨y2, xs2r, rfl, hxl'2⟩ := list_cons (n := 1) hxl'1
  obtain ⟨y3, xs3r, rfl, hxl'3⟩ := list_cons (n := 0) hxl'2
  obtain rfl := List.length_eq_zero_iff.1 hxl'3
  have h0 : DataW.trod enc Tryz.prog w 0 spare held n 44 [a0, a1, a2, a3, a4, a5, a6] = some y0 := by have := hf 0 _ rfl; simpa [c27] using this
  have h1 : DataW.trod enc Tryz.prog w 0 spare held n 4 [a7] = some y1 := by have := hf 1 _ rfl; simpa [c4] using this
  have h2 : DataW.trod enc Tryz.prog w 0 spare held n 45 [a8] = some y2 := by have := hf 2 _ rfl; simpa [c45] using this
  have h3 : DataW.trod enc Tryz.prog w 0 spare held n 46 [a9] = some y3 := by have := hf 3 _ rfl; simpa [c46] using this
  have b0 : B y0.1 ≤ 1048576 := Nat.le_trans (hB.ag _ _ (by simp)) hx
  obtain ⟨X, d, e0, _⟩ := open_expr hB n _ y0 b0 h0
  obtain ⟨g, e1, _⟩ := DataW.trod_bool Tryz.underlying4 h1
  obtain ⟨q2, n2, c2, e2⟩ := slice_form Tryz.underlying45 h2
  obtain ⟨q3, n3, c3, e3⟩ := slice_form Tryz.underlying46 h3
  simp only [List.cons.injEq, and_true] at e0 e1 e2 e3
  obtain ⟨f1, f2, f3, f4, f5, f6, f7⟩ := e0
  subst f1 f2 f3 f4 f5 f6 f7 e1 e2 e3
  intro u hu
  simp only [List.mem_cons, List.not_mem_nil, or_false] at hu
  rcases hu with rfl | rfl | rfl | rfl | rfl | rfl | rfl | rfl | rfl | rfl <;> rfl

/-- An entry's proof: where its cells stand, and what they say. -/
def EnPf (w : World) (e : En) (X : St) : Prop := ∃ cl d, cl.length = 10 ∧ e.r = cl ++ Sd.cells d ∧ StOk w X d ∧ ∀ k ∈ X.keys, KyOk k

/-- An entry, opened. -/
theorem open_entry (hB : Bk B) (hBs : Bs B) {fuel : Nat} {cs : List Value} {x : DataW H × List MemPlace} (hx : B x.1 ≤ 1048576) (h : DataW.trod enc Tryz.prog w 0 spare held fuel 55 cs = some x) :
    ∃ (e : En) (X : St), cs = e.cells ∧ e.Ok ∧ EnPf w e X ∧ X.keys.length ≤ B x.1 := by
  obtain ⟨xs, n, hn, rfl, hl, hxl, hf⟩ := DataW.trod_struct Tryz.underlying55 h
  rw [c55] at hl
  have hxl' : xs.length = 4 := hxl
  clear hxl
  obtain ⟨a0, cs0r, rfl, hl0⟩ := list_cons (n := 32) hl
  obtain ⟨a1, r, rfl, hr⟩ := list_cons (n := 31) hl0
  obtain ⟨y0, xs0r, rfl, hxl'0⟩ := list_cons (n := 3) hxl'
  obtain ⟨y1, xs1r, rfl, hxl'1⟩ := list_cons (n := 2) hxl'0
  obtain ⟨y2, xs2r, rfl, hxl'2⟩ := list_cons (n := 1) hxl'1
  obtain ⟨y3, xs3r, rfl, hxl'3⟩ := list_cons (n := 0) hxl'2
  obtain rfl := List.length_eq_zero_iff.1 hxl'3
  have h0 : DataW.trod enc Tryz.prog w 0 spare held n 9 [a0] = some y0 := by have := hf 0 _ rfl; simpa [c9] using this
  have h1 : DataW.trod enc Tryz.prog w 0 spare held n 3 [a1] = some y1 := by have := hf 1 _ rfl; simpa [c3] using this
  have h2 : DataW.trod enc Tryz.prog w 0 spare held n 48 (r.take 10) = some y2 := by have := hf 2 _ rfl; simpa [c48] using this
  have h3 : DataW.trod enc Tryz.prog w 0 spare held n 53 (r.drop 10) = some y3 := by
    have h : DataW.trod enc Tryz.prog w 0 spare held n 53 ((r.drop 10).take (Tryz.prog.cellsOf 53)) = some y3 := hf 3 _ rfl
    rwa [List.take_of_length_le (by rw [c32, List.length_drop]; omega)] at h
  have b2 : B y2.1 ≤ 1048576 := Nat.le_trans (hB.ag _ _ (by simp)) hx
  have b3 : B y3.1 ≤ 1048576 := Nat.le_trans (hB.ag _ _ (by simp)) hx
  obtain ⟨s, e0, _, w0⟩ := DataW.trod_string Tryz.underlying9 h0
  obtain ⟨v, e1, _, w1⟩ := DataW.trod_int Tryz.underlying3 h1
  simp only [List.cons.injEq, and_true] at e0 e1
  subst e0 e1
  obtain ⟨l2, o2⟩ := open_claim hB b2 h2
  obtain ⟨X, d, e3, hX⟩ := open_step hB n _ y3 b3 h3
  have hkw := keys_wf X d n y3 hX (e3 ▸ h3)
  have hkl := keys_le hBs X d n y3 hX (e3 ▸ h3)
  refine ⟨⟨(s, v), r⟩, X, rfl, ⟨hr, fun u hu => ?_, ⟨w0, w1⟩⟩, ⟨r.take 10, d, l2, by rw [← e3]; exact (List.take_append_drop 10 r).symm, hX, hkw⟩, Nat.le_trans hkl (hB.ag _ _ (by simp))⟩
  have hu' : u ∈ r.take 10 ++ r.drop 10 := by rw [List.take_append_drop]; exact hu
  rcases List.mem_append.1 hu' with hu' | hu'
  · exact o2 u hu'
  · rw [e3] at hu'
    have h1 := d.one
    rw [List.all_toArray, List.all_eq_true] at h1
    exact h1 u hu'

/-- What a library's proofs use. -/
def LibU (w : World) (L : List En) (U : Lb) : Prop :=
  U.length = L.length ∧ (U.map (·.2.length)).sum ≤ 1048576 ∧ ∀ (i : Nat) (e : En), L[i]? = some e → ∃ X, EnPf w e X ∧ X.keys.length ≤ 1048576 ∧ U[i]? = some (e.k, foldK [] X.keys)

instance : Inhabited En := ⟨⟨(⟨#[]⟩, 0), []⟩⟩

/-- A library, opened. -/
theorem open_lib (hB : Bk B) (hBs : Bs B) {fuel : Nat} {cs : List Value} {x : DataW H × List MemPlace} (hx : B x.1 ≤ 1048576) (h : DataW.trod enc Tryz.prog w 0 spare held fuel 22 cs = some x) :
    ∃ q n c L U, cs = [.slice q n c] ∧ LibOk w q n L ∧ LibU w L U := by
  rcases DataW.trod_slice Tryz.underlying22 h with ⟨rfl, rfl⟩ | ⟨a, len, cap, elems, rest, m, rfl, rfl, rfl, _, hlc, _, hel, hget, _, _⟩
  · exact ⟨none, 0, 0, [], [], rfl, ⟨rfl, by omega, by simp, .inl rfl⟩, ⟨rfl, by simp, by simp⟩⟩
  · have hlen : len ≤ 1048576 := by
      have := Nat.le_trans (hB.len (elems.map (·.1)) (rest.map (·.1))) hx
      simp only [List.length_map] at this
      omega
    by_cases hz : len = 0
    · subst hz
      exact ⟨some a, 0, cap, [], [], rfl, ⟨rfl, by omega, by simp, .inl rfl⟩, ⟨rfl, by simp, by simp⟩⟩
    · have hone : ∀ i, i < len → ∃ p : En × St, w.rangeAt a.block (a.off + i * 33) p.1.cells ∧ p.1.Ok ∧ EnPf w p.1 p.2 ∧ (i = 0 → a = ⟨a.block, a.off, none⟩) ∧ a.block < w.heap.size ∧ ∃ y, elems[i]? = some y ∧ p.2.keys.length ≤ B y.1 ∧ p.2.keys.length ≤ 1048576 := by
        intro i hi
        have hg := hget i hi
        have hi' : i < elems.length := by omega
        rw [c55, List.getElem?_eq_getElem hi', Option.bind_eq_some_iff] at hg
        obtain ⟨ces, g1, g2⟩ := hg
        have hmem : (elems[i]).1 ∈ elems.map (·.1) := List.mem_map_of_mem (List.getElem_mem hi')
        have hb := Nat.le_trans (hB.el (elems.map (·.1)) (rest.map (·.1)) _ hmem) hx
        obtain ⟨e, X, rfl, hok, hpf, hkl⟩ := open_entry hB hBs hb g2
        obtain ⟨ga, gb, gl, gr⟩ := range_of_cells g1 (by decide)
        have e1 : (a.add (i * 33)).block = a.block := by unfold Addr.add; split <;> rfl
        have e2 : (a.add (i * 33)).off = a.off + i * 33 := by
          unfold Addr.add
          split
          · rename_i hz0
            rw [hz0]; rfl
          · rfl
        have hspot : i = 0 → a = ⟨a.block, a.off, none⟩ := by
          intro hi0
          rw [hi0, show a.add (0 * 33) = a by unfold Addr.add; simp] at ga
          cases a; simp_all
        rw [e1] at gb
        rw [e1, e2] at gr
        exact ⟨(e, X), gr, hok, hpf, hspot, gb, elems[i], List.getElem?_eq_getElem hi', hkl, Nat.le_trans hkl hb⟩
      obtain ⟨F, hF⟩ := pick hone
      obtain ⟨_, _, _, ha, hb, _⟩ := hF 0 (by omega)
      refine ⟨some a, len, cap, (List.range len).map fun i => (F i).1, (List.range len).map fun i => ((F i).1.k, foldK [] (F i).2.keys), rfl, ⟨by simp, hlen, ?_, .inr ⟨a.block, a.off, by rw [← ha rfl], hb, ?_⟩⟩, ⟨by simp, ?_, ?_⟩⟩
      · intro e he
        obtain ⟨i, hi, rfl⟩ := List.mem_map.1 he
        exact (hF i (List.mem_range.1 hi)).2.1
      · intro i e he
        rw [List.getElem?_map, Option.map_eq_some_iff] at he
        obtain ⟨j, hj, rfl⟩ := he
        obtain ⟨hi, rfl⟩ := List.getElem?_eq_some_iff.1 hj
        simp only [List.getElem_range]
        exact (hF i (by simpa using hi)).1
      · have h1 := sum_le len (fun i => (foldK [] (F i).2.keys).length) (elems.map fun y => B y.1) (by simp [hel]) (fun i v hv => by
          rw [List.getElem?_map, Option.map_eq_some_iff] at hv
          obtain ⟨y, hy, rfl⟩ := hv
          have hi : i < len := by rw [← hel]; exact (List.getElem?_eq_some_iff.1 hy).1
          obtain ⟨_, _, _, _, _, y', hy', hk, _⟩ := hF i hi
          rw [hy] at hy'
          cases hy'
          have := foldK_len (F i).2.keys []
          simp only [List.length_nil, Nat.zero_add] at this
          exact Nat.le_trans this hk)
        have h2 := hBs.sl (elems.map (·.1)) (rest.map (·.1))
        rw [List.map_map] at h2 ⊢
        refine Nat.le_trans h1 (Nat.le_trans h2 hx)
      · intro i e he
        rw [List.getElem?_map, Option.map_eq_some_iff] at he
        obtain ⟨j, hj, rfl⟩ := he
        obtain ⟨hi, rfl⟩ := List.getElem?_eq_some_iff.1 hj
        simp only [List.getElem_range] at *
        obtain ⟨_, _, hpf, _, _, _, _, _, hk⟩ := hF i (by simpa using hi)
        refine ⟨(F i).2, hpf, hk, ?_⟩
        rw [List.getElem?_map, List.getElem?_eq_getElem (by simpa using hi)]
        simp
end
end Go.Proofs.YtfhjhnofkaiceaaGreatDoor
