import Derived.ChangeArms
import Derived.DataReads
import Derived.Sort.Walk0
import Derived.Sort.Statements
import Derived.Deep.RegionHeld3
import Derived.Test.YtaonejnicgbifaaGreatDoorPk01
namespace Go.Proofs.YtaonejnicgbifaaGreatDoor
open Go Go.RowKit

/-- What is asked of a measure of data: parts are no greater, a list's length is no greater. -/
structure Bk {H : Type} (B : DataW H → Nat) : Prop where
  el : ∀ es rest e, e ∈ es → B e ≤ B (.slice es rest)
  len : ∀ es rest, es.length ≤ B (.slice es rest)
  ag : ∀ ps p, p ∈ ps → B p ≤ B (.agg ps)

theorem pick {α : Type} [Inhabited α] {n : Nat} {p : Nat → α → Prop} (h : ∀ i, i < n → ∃ x, p i x) : ∃ f : Nat → α, ∀ i, i < n → p i (f i) :=
  ⟨fun i => if hi : i < n then (h i hi).choose else default, fun i hi => by dsimp only; rw [dif_pos hi]; exact (h i hi).choose_spec⟩

section
variable {H : Type} {enc : TypeId × Value → H} {w : World} {spare : Nat → Bool} {held : Bool}

theorem range_of_cells {a : Addr} {n : Nat} {cs : List Value} (h : w.cells? 0 a n = some cs) (hn : 0 < n) : a = ⟨a.block, a.off, none⟩ ∧ a.block < w.heap.size ∧ cs.length = n ∧ w.rangeAt a.block a.off cs := by
  obtain ⟨_, hl, hc⟩ := World.cells?_some h
  have h0 := hc 0 hn
  have hv : ∃ v, w.cell? a = some v := by
    rw [show a.add 0 = a from rfl] at h0
    rw [h0]
    exact ⟨cs[0]'(by omega), by rw [List.getElem?_eq_getElem]⟩
  obtain ⟨v, hv⟩ := hv
  have hspot : a.spot = none := by
    unfold World.cell? at hv
    split at hv
    · cases hs : a.spot with
      | none => rfl
      | some s => simp [hs] at hv
    · cases hv
  refine ⟨?_, World.block_lt_of_cell? w _ hv, hl, fun j u hu => ?_⟩
  · cases a; simp_all
  · have hj : j < n := by
      rw [← hl]
      rw [List.getElem?_eq_some_iff] at hu
      exact hu.1
    have := hc j hj
    rw [hu] at this
    rw [← this]
    congr 1
    unfold Addr.add
    split
    · rename_i hj0
      subst hj0
      cases a; simp_all
    · rfl

/-- A slice, opened. -/
theorem open_slice {t e : TypeId} {sz fuel : Nat} {cs : List Value} {x : DataW H × List MemPlace} (ht : Tryz.prog.underlying t = some (.slice e)) (hsz : Tryz.prog.cellsOf e = sz) (h0 : 0 < sz)
    (h : DataW.trod enc Tryz.prog w 0 spare held fuel t cs = some x) : ∃ q n c, cs = [.slice q n c] ∧ n ≤ c ∧ (∀ B : DataW H → Nat, Bk B → n ≤ B x.1) ∧
      (n = 0 ∨ ∃ b o, q = some ⟨b, o, none⟩ ∧ b < w.heap.size ∧ ∀ i, i < n → ∃ ces y m, m < fuel ∧ w.rangeAt b (o + i * sz) ces ∧ ces.length = sz ∧ DataW.trod enc Tryz.prog w 0 spare held m e ces = some y ∧ ∀ B : DataW H → Nat, Bk B → B y.1 ≤ B x.1) := by
  rcases DataW.trod_slice ht h with ⟨rfl, rfl⟩ | ⟨a, len, cap, elems, rest, n, rfl, rfl, rfl, _, hlc, _, hel, hget, _, _⟩
  · exact ⟨none, 0, 0, rfl, Nat.le_refl _, fun B _ => Nat.zero_le _, .inl rfl⟩
  · refine ⟨some a, len, cap, rfl, hlc, fun B hB => by have := hB.len (elems.map (·.1)) (rest.map (·.1)); simpa [hel] using this, ?_⟩
    by_cases hz : len = 0
    · exact .inl hz
    · refine .inr ?_
      have hfst := hget 0 (by omega)
      have hsome : ∀ i, i < len → ∃ ces y, w.cells? 0 (a.add (i * sz)) sz = some ces ∧ DataW.trod enc Tryz.prog w 0 spare held n e ces = some y ∧ elems[i]? = some y := by
        intro i hi
        have hg := hget i hi
        rw [hsz] at hg
        have hi' : i < elems.length := by omega
        rw [List.getElem?_eq_getElem hi', Option.bind_eq_some_iff] at hg
        obtain ⟨ces, h1, h2⟩ := hg
        exact ⟨ces, _, h1, h2, List.getElem?_eq_getElem hi'⟩
      obtain ⟨c0, y0, k0, _, _⟩ := hsome 0 (by omega)
      rw [Nat.zero_mul, show a.add 0 = a from rfl] at k0
      obtain ⟨ha, hb, _, _⟩ := range_of_cells k0 h0
      refine ⟨a.block, a.off, by rw [← ha], hb, fun i hi => ?_⟩
      obtain ⟨ces, y, k1, k2, k3⟩ := hsome i hi
      obtain ⟨_, _, hl, hr⟩ := range_of_cells k1 h0
      have e1 : (a.add (i * sz)).block = a.block := by unfold Addr.add; split <;> rfl
      have e2 : (a.add (i * sz)).off = a.off + i * sz := by
        unfold Addr.add
        split
        · rename_i hz0
          rw [hz0]; rfl
        · rfl
      rw [e1, e2] at hr
      refine ⟨ces, y, n, Nat.lt_succ_self n, hr, hl, k2, fun B hB => hB.el _ _ _ ?_⟩
      exact List.mem_map_of_mem (List.mem_of_getElem? k3)

theorem c96 : Tryz.prog.cellsOf 150 = 1 := by kernel_rfl
theorem c22 : Tryz.prog.cellsOf 25 = 1 := by kernel_rfl
theorem c3 : Tryz.prog.cellsOf 3 = 1 := by kernel_rfl
theorem c4 : Tryz.prog.cellsOf 4 = 1 := by kernel_rfl
theorem c9 : Tryz.prog.cellsOf 9 = 1 := by kernel_rfl
theorem c24 : Tryz.prog.cellsOf 27 = 3 := by kernel_rfl
theorem c25 : Tryz.prog.cellsOf 28 = 1 := by kernel_rfl
theorem c27 : Tryz.prog.cellsOf 30 = 7 := by kernel_rfl
theorem c28 : Tryz.prog.cellsOf 42 = 1 := by kernel_rfl
theorem c29 : Tryz.prog.cellsOf 43 = 1 := by kernel_rfl
theorem c30 : Tryz.prog.cellsOf 44 = 1 := by kernel_rfl
theorem c32 : Tryz.prog.cellsOf 46 = 21 := by kernel_rfl
theorem c62 : Tryz.prog.cellsOf 215 = 4 := by kernel_rfl
theorem c65 : Tryz.prog.cellsOf 217 = 8 := by kernel_rfl

/-- A slice of words, opened. -/
theorem open_words {fuel : Nat} {cs : List Value} {x : DataW H × List MemPlace} {B : DataW H → Nat} (hB : Bk B) (hx : B x.1 ≤ 1048576) (h : DataW.trod enc Tryz.prog w 0 spare held fuel 25 cs = some x) :
    ∃ q n c xs, cs = [.slice q n c] ∧ Sl w (.slice q n c) xs ∧ xs.length ≤ 1048576 := by
  obtain ⟨q, n, c, rfl, hnc, hb, hel⟩ := open_slice Tryz.underlying25 c96 (by decide) h
  have hn := hb B hB
  rcases hel with rfl | ⟨b, o, rfl, hlt, hel⟩
  · exact ⟨q, 0, c, [], rfl, ⟨fun j => by simp, by simp, q, c, rfl, by simp, .inl rfl⟩, by simp⟩
  · have hp : ∀ i, i < n → ∃ z : Int, w.cell? ⟨b, o + i, none⟩ = some (.int .u32 z) ∧ 0 ≤ z ∧ z ≤ 4294967295 := by
      intro i hi
      obtain ⟨ces, y, m, _, hr, hl, ht, _⟩ := hel i hi
      obtain ⟨z, rfl, _, hw⟩ := DataW.trod_int Tryz.underlying150 ht
      have := hr 0 _ rfl
      simp only [Lit.wf, Bool.and_eq_true, decide_eq_true_eq] at hw
      refine ⟨z, by simpa using this, ?_⟩
      exact hw
    obtain ⟨f, hf⟩ := pick hp
    have hlen : ((List.range n).map f).length = n := by simp
    have hget : ∀ i, i < n → ((List.range n).map f).getD i 0 = f i := by
      intro i hi
      simp [List.getD, hi]
    refine ⟨some ⟨b, o, none⟩, n, c, (List.range n).map f, rfl, ⟨fun j => ?_, by rw [hlen]; omega, some ⟨b, o, none⟩, c, by rw [hlen], by rw [hlen]; exact hnc, .inr ⟨b, o, rfl, hlt, fun i hi => ?_⟩⟩, by rw [hlen]; omega⟩
    · by_cases hj : j < n
      · rw [hget j hj]
        exact ⟨(hf j hj).2.1, (hf j hj).2.2⟩
      · rw [List.getD, List.getElem?_eq_none (by rw [hlen]; omega)]
        decide
    · rw [hlen] at hi
      rw [hget i hi]
      exact (hf i hi).1
end
end Go.Proofs.YtaonejnicgbifaaGreatDoor
namespace Go.Proofs.YtaonejnicgbifaaGreatDoor
open Go Go.RowKit

instance : Inhabited Ex := ⟨.non⟩
instance : Inhabited Nd := ⟨⟨0, 0, false, none, 0, 0, none, 0, 0, ⟨#[]⟩, none, 0, 0⟩⟩
instance : Inhabited Pt := ⟨⟨⟨#[]⟩, false, [], []⟩⟩
instance : Inhabited Va := ⟨⟨⟨#[]⟩, false, none, 0, 0, none, 0, 0⟩⟩
instance : Inhabited Bd := ⟨⟨⟨#[]⟩, .non⟩⟩
instance : Inhabited Bi := ⟨⟨⟨#[]⟩, 0, 0, false, none, 0, 0, none, 0, 0, ⟨#[]⟩, none, 0, 0⟩⟩
instance : Inhabited St := ⟨.non⟩
instance : Inhabited Sd := ⟨⟨⟨0, ⟨#[]⟩, ⟨#[]⟩, false, 0, 0, 0, ⟨#[]⟩, 0⟩, none, 0, 0, none, 0, 0, default, none, 0, 0, none, 0, 0, none, 0, 0⟩⟩

theorem list_cons {α : Type} {n : Nat} : ∀ {l : List α}, l.length = n + 1 → ∃ a t, l = a :: t ∧ t.length = n
  | [], h => by simp at h
  | a :: t, h => ⟨a, t, rfl, by simpa using h⟩

section
variable {H : Type} {enc : TypeId × Value → H} {w : World} {spare : Nat → Bool} {held : Bool} {B : DataW H → Nat}

/-- A rational number, opened. -/
theorem open_rat (hB : Bk B) {fuel : Nat} {cs : List Value} {x : DataW H × List MemPlace} (hx : B x.1 ≤ 1048576) (h : DataW.trod enc Tryz.prog w 0 spare held fuel 27 cs = some x) :
    ∃ g q n c q' n' c' nu de, cs = [.bool g, .slice q n c, .slice q' n' c'] ∧ Sl w (.slice q n c) nu ∧ Sl w (.slice q' n' c') de ∧ nu.length ≤ 1048576 ∧ de.length ≤ 1048576 := by
  obtain ⟨xs, n, _, rfl, hl, hxl, hf⟩ := DataW.trod_struct Tryz.underlying27 h
  rw [c24] at hl
  have hxl' : xs.length = 3 := hxl
  clear hxl
  obtain ⟨a0, cs0r, rfl, hl0⟩ := list_cons (n := 2) hl
  obtain ⟨a1, cs1r, rfl, hl1⟩ := list_cons (n := 1) hl0
  obtain ⟨a2, cs2r, rfl, hl2⟩ := list_cons (n := 0) hl1
  obtain rfl := List.length_eq_zero_iff.1 hl2
  obtain ⟨y0, xs0r, rfl, hxl'0⟩ := list_cons (n := 2) hxl'
  obtain ⟨y1, xs1r, rfl, hxl'1⟩ := list_cons (n := 1) hxl'0
  obtain ⟨y2, xs2r, rfl, hxl'2⟩ := list_cons (n := 0) hxl'1
  obtain rfl := List.length_eq_zero_iff.1 hxl'2
  have h0 : DataW.trod enc Tryz.prog w 0 spare held n 4 [a0] = some y0 := by have := hf 0 _ rfl; simpa [c4] using this
  have h1 : DataW.trod enc Tryz.prog w 0 spare held n 25 [a1] = some y1 := by have := hf 1 _ rfl; simpa [c22] using this
  have h2 : DataW.trod enc Tryz.prog w 0 spare held n 25 [a2] = some y2 := by have := hf 2 _ rfl; simpa [c22] using this
  have b1 : B y1.1 ≤ 1048576 := Nat.le_trans (hB.ag _ _ (by simp)) hx
  have b2 : B y2.1 ≤ 1048576 := Nat.le_trans (hB.ag _ _ (by simp)) hx
  obtain ⟨g, e0, _⟩ := DataW.trod_bool Tryz.underlying4 h0
  obtain ⟨q, m, c, nu, e1, s1, l1⟩ := open_words hB b1 h1
  obtain ⟨q', m', c', de, e2, s2, l2⟩ := open_words hB b2 h2
  simp only [List.cons.injEq, and_true] at e0 e1 e2
  subst e0 e1 e2
  exact ⟨g, q, m, c, q', m', c', nu, de, rfl, s1, s2, l1, l2⟩

/-- An expression, opened. -/
theorem open_expr (hB : Bk B) : ∀ (fuel : Nat) (cs : List Value) (x : DataW H × List MemPlace), B x.1 ≤ 1048576 → DataW.trod enc Tryz.prog w 0 spare held fuel 30 cs = some x →
    ∃ (X : Ex) (d : Nd), cs = [.int .i64 d.k, .int .i64 d.f, .bool d.neg, .slice d.aq d.an d.ac, .slice d.cq d.cn d.cc, .string d.m, .slice d.sq d.sn d.sc] ∧ ExOk w X d := by
  intro fuel
  induction fuel using Nat.strongRecOn with
  | _ fuel ih =>
  intro cs x hx h
  obtain ⟨xs, n, hn, rfl, hl, hxl, hf⟩ := DataW.trod_struct Tryz.underlying30 h
  rw [c27] at hl
  have hxl' : xs.length = 5 := hxl
  clear hxl
  obtain ⟨a0, cs0r, rfl, hl0⟩ := list_cons (n := 6) hl
  obtain ⟨a1, cs1r, rfl, hl1⟩ := list_cons (n := 5) hl0
  obtain ⟨a2, cs2r, rfl, hl2⟩ := list_cons (n := 4) hl1
  obtain ⟨a3, cs3r, rfl, hl3⟩ := list_cons (n := 3) hl2
  obtain ⟨a4, cs4r, rfl, hl4⟩ := list_cons (n := 2) hl3
  obtain ⟨a5, cs5r, rfl, hl5⟩ := list_cons (n := 1) hl4
  obtain ⟨a6, cs6r, rfl, hl6⟩ := list_cons (n := 0) hl5
  obtain rfl := List.length_eq_zero_iff.1 hl6
  obtain ⟨y0, xs0r, rfl, hxl'0⟩ := list_cons (n := 4) hxl'
  obtain ⟨y1, xs1r, rfl, hxl'1⟩ := list_cons (n := 3) hxl'0
  obtain ⟨y2, xs2r, rfl, hxl'2⟩ := list_cons (n := 2) hxl'1
  obtain ⟨y3, xs3r, rfl, hxl'3⟩ := list_cons (n := 1) hxl'2
  obtain ⟨y4, xs4r, rfl, hxl'4⟩ := list_cons (n := 0) hxl'3
  obtain rfl := List.length_eq_zero_iff.1 hxl'4
  have h0 : DataW.trod enc Tryz.prog w 0 spare held n 3 [a0] = some y0 := by have := hf 0 _ rfl; simpa [c3] using this
  have h1 : DataW.trod enc Tryz.prog w 0 spare held n 3 [a1] = some y1 := by have := hf 1 _ rfl; simpa [c3] using this
  have h2 : DataW.trod enc Tryz.prog w 0 spare held n 27 [a2, a3, a4] = some y2 := by have := hf 2 _ rfl; simpa [c24] using this
  have h3 : DataW.trod enc Tryz.prog w 0 spare held n 9 [a5] = some y3 := by have := hf 3 _ rfl; simpa [c9] using this
  have h4 : DataW.trod enc Tryz.prog w 0 spare held n 28 [a6] = some y4 := by have := hf 4 _ rfl; simpa [c25] using this
  have b2 : B y2.1 ≤ 1048576 := Nat.le_trans (hB.ag _ _ (by simp)) hx
  have b4 : B y4.1 ≤ 1048576 := Nat.le_trans (hB.ag _ _ (by simp)) hx
  obtain ⟨k, e0, _⟩ := DataW.trod_int Tryz.underlying3 h0
  obtain ⟨f, e1, _⟩ := DataW.trod_int Tryz.underlying3 h1
  obtain ⟨g, q, m, c, q', m', c', nu, de, e2, s1, s2, l1, l2⟩ := open_rat hB b2 h2
  obtain ⟨s, e3, _⟩ := DataW.trod_string Tryz.underlying9 h3
  obtain ⟨sq, sn, sc, e4, _, hbn, hel⟩ := open_slice Tryz.underlying28 c27 (by decide) h4
  simp only [List.cons.injEq, and_true] at e0 e1 e2 e3 e4
  obtain ⟨e2, e5, e6⟩ := e2
  subst e0 e1 e2 e3 e4 e5 e6
  have hsn : sn ≤ 1048576 := Nat.le_trans (hbn B hB) b4
  rcases hel with rfl | ⟨b, o, rfl, hlt, hel⟩
  · exact ⟨.mk k f g nu de s 0 (fun _ => .non), ⟨k, f, g, q, m, c, q', m', c', s, sq, 0, sc⟩, rfl, ⟨rfl, rfl, rfl, rfl, rfl⟩, s1, s2, l1, l2, by omega, .inl rfl⟩
  · have hp : ∀ i, i < sn → ∃ p : Ex × Nd, NdAt w b (o + i * 7) p.2 ∧ ExOk w p.1 p.2 := by
      intro i hi
      obtain ⟨ces, y, m1, hm1, hr, _, ht, hby⟩ := hel i hi
      obtain ⟨X, d, rfl, hok⟩ := ih m1 (by omega) ces y (Nat.le_trans (hby B hB) b4) ht
      exact ⟨(X, d), ⟨hr 0 _ rfl, hr 1 _ rfl, hr 2 _ rfl, hr 3 _ rfl, hr 4 _ rfl, hr 5 _ rfl, hr 6 _ rfl⟩, hok⟩
    obtain ⟨F, hF⟩ := pick hp
    exact ⟨.mk k f g nu de s sn (fun i => (F i).1), ⟨k, f, g, q, m, c, q', m', c', s, some ⟨b, o, none⟩, sn, sc⟩, rfl, ⟨rfl, rfl, rfl, rfl, rfl⟩, s1, s2, l1, l2, by omega, .inr ⟨b, o, rfl, hlt, fun i => (F i).2, fun i hi => hF i hi⟩⟩

/-- A list of points, opened. -/
theorem open_points (hB : Bk B) {fuel : Nat} {cs : List Value} {x : DataW H × List MemPlace} (hx : B x.1 ≤ 1048576) (h : DataW.trod enc Tryz.prog w 0 spare held fuel 42 cs = some x) :
    ∃ q n c ps, cs = [.slice q n c] ∧ PtsOk w q n ps := by
  obtain ⟨q, n, c, rfl, _, hbn, hel⟩ := open_slice Tryz.underlying42 c62 (by decide) h
  have hn : n ≤ 1048576 := Nat.le_trans (hbn B hB) hx
  rcases hel with rfl | ⟨b, o, rfl, hlt, hel⟩
  · exact ⟨q, 0, c, default, rfl, by omega, .inl rfl⟩
  · have hp : ∀ i, i < n → ∃ p : Pt × Va, VaAt w b (o + i * 4) p.2 ∧ PtOk w p.1 p.2 := by
      intro i hi
      obtain ⟨ces, y, m1, hm1, hr, hlc, ht, hby⟩ := hel i hi
      have hy := Nat.le_trans (hby B hB) hx
      obtain ⟨xs, n1, _, rfl, hl, hxl, hf⟩ := DataW.trod_struct Tryz.underlying215 ht
      have hxl' : xs.length = 2 := hxl
      clear hxl
      obtain ⟨a0, ces0r, rfl, hlc0⟩ := list_cons (n := 3) hlc
      obtain ⟨a1, ces1r, rfl, hlc1⟩ := list_cons (n := 2) hlc0
      obtain ⟨a2, ces2r, rfl, hlc2⟩ := list_cons (n := 1) hlc1
      obtain ⟨a3, ces3r, rfl, hlc3⟩ := list_cons (n := 0) hlc2
      obtain rfl := List.length_eq_zero_iff.1 hlc3
      obtain ⟨y0, xs0r, rfl, hxl'0⟩ := list_cons (n := 1) hxl'
      obtain ⟨y1, xs1r, rfl, hxl'1⟩ := list_cons (n := 0) hxl'0
      obtain rfl := List.length_eq_zero_iff.1 hxl'1
      have h0 : DataW.trod enc Tryz.prog w 0 spare held n1 9 [a0] = some y0 := by have := hf 0 _ rfl; simpa [c9] using this
      have h1 : DataW.trod enc Tryz.prog w 0 spare held n1 27 [a1, a2, a3] = some y1 := by have := hf 1 _ rfl; simpa [c24] using this
      have b1 : B y1.1 ≤ 1048576 := Nat.le_trans (hB.ag _ _ (by simp)) hy
      obtain ⟨s, e0, _⟩ := DataW.trod_string Tryz.underlying9 h0
      obtain ⟨g, q, m, c, q', m', c', nu, de, e2, s1, s2, l1, l2⟩ := open_rat hB b1 h1
      simp only [List.cons.injEq, and_true] at e0 e2
      obtain ⟨e2, e5, e6⟩ := e2
      subst e0 e2 e5 e6
      exact ⟨(⟨s, g, nu, de⟩, ⟨s, g, q, m, c, q', m', c'⟩), ⟨hr 0 _ rfl, hr 1 _ rfl, hr 2 _ rfl, hr 3 _ rfl⟩, rfl, rfl, s1, s2, l1, l2⟩
    obtain ⟨F, hF⟩ := pick hp
    exact ⟨_, n, c, fun i => (F i).1, rfl, by omega, .inr ⟨b, o, rfl, hlt, fun i => (F i).2, fun i hi => hF i hi⟩⟩

/-- A list of binds, opened. -/
theorem open_binds (hB : Bk B) {fuel : Nat} {cs : List Value} {x : DataW H × List MemPlace} (hx : B x.1 ≤ 1048576) (h : DataW.trod enc Tryz.prog w 0 spare held fuel 43 cs = some x) :
    ∃ q n c ps, cs = [.slice q n c] ∧ BdsOk w q n ps := by
  obtain ⟨q, n, c, rfl, _, hbn, hel⟩ := open_slice Tryz.underlying43 c65 (by decide) h
  have hn : n ≤ 1048576 := Nat.le_trans (hbn B hB) hx
  rcases hel with rfl | ⟨b, o, rfl, hlt, hel⟩
  · exact ⟨q, 0, c, default, rfl, by omega, .inl rfl⟩
  · have hp : ∀ i, i < n → ∃ p : Bd × Bi, BiAt w b (o + i * 8) p.2 ∧ BdOk w p.1 p.2 := by
      intro i hi
      obtain ⟨ces, y, m1, hm1, hr, hlc, ht, hby⟩ := hel i hi
      have hy := Nat.le_trans (hby B hB) hx
      obtain ⟨xs, n1, _, rfl, hl, hxl, hf⟩ := DataW.trod_struct Tryz.underlying217 ht
      have hxl' : xs.length = 2 := hxl
      clear hxl
      obtain ⟨a0, ces0r, rfl, hlc0⟩ := list_cons (n := 7) hlc
      obtain ⟨a1, ces1r, rfl, hlc1⟩ := list_cons (n := 6) hlc0
      obtain ⟨a2, ces2r, rfl, hlc2⟩ := list_cons (n := 5) hlc1
      obtain ⟨a3, ces3r, rfl, hlc3⟩ := list_cons (n := 4) hlc2
      obtain ⟨a4, ces4r, rfl, hlc4⟩ := list_cons (n := 3) hlc3
      obtain ⟨a5, ces5r, rfl, hlc5⟩ := list_cons (n := 2) hlc4
      obtain ⟨a6, ces6r, rfl, hlc6⟩ := list_cons (n := 1) hlc5
      obtain ⟨a7, ces7r, rfl, hlc7⟩ := list_cons (n := 0) hlc6
      obtain rfl := List.length_eq_zero_iff.1 hlc7
      obtain ⟨y0, xs0r, rfl, hxl'0⟩ := list_cons (n := 1) hxl'
      obtain ⟨y1, xs1r, rfl, hxl'1⟩ := list_cons (n := 0) hxl'0
      obtain rfl := List.length_eq_zero_iff.1 hxl'1
      have h0 : DataW.trod enc Tryz.prog w 0 spare held n1 9 [a0] = some y0 := by have := hf 0 _ rfl; simpa [c9] using this
      have h1 : DataW.trod enc Tryz.prog w 0 spare held n1 30 [a1, a2, a3, a4, a5, a6, a7] = some y1 := by have := hf 1 _ rfl; simpa [c27] using this
      have b1 : B y1.1 ≤ 1048576 := Nat.le_trans (hB.ag _ _ (by simp)) hy
      obtain ⟨s, e0, _⟩ := DataW.trod_string Tryz.underlying9 h0
      obtain ⟨X, d, e1, hok⟩ := open_expr hB n1 _ y1 b1 h1
      simp only [List.cons.injEq, and_true] at e0 e1
      obtain ⟨e1, e2, e3, e4, e5, e6, e7⟩ := e1
      subst e0 e1 e2 e3 e4 e5 e6 e7
      exact ⟨(⟨s, X⟩, ⟨s, d.k, d.f, d.neg, d.aq, d.an, d.ac, d.cq, d.cn, d.cc, d.m, d.sq, d.sn, d.sc⟩), ⟨hr 0 _ rfl, hr 1 _ rfl, hr 2 _ rfl, hr 3 _ rfl, hr 4 _ rfl, hr 5 _ rfl, hr 6 _ rfl, hr 7 _ rfl⟩, rfl, hok⟩
    obtain ⟨F, hF⟩ := pick hp
    exact ⟨_, n, c, fun i => (F i).1, rfl, by omega, .inr ⟨b, o, rfl, hlt, fun i => (F i).2, fun i hi => hF i hi⟩⟩

/-- A step, opened. -/
theorem open_step (hB : Bk B) : ∀ (fuel : Nat) (cs : List Value) (x : DataW H × List MemPlace), B x.1 ≤ 1048576 → DataW.trod enc Tryz.prog w 0 spare held fuel 46 cs = some x →
    ∃ (X : St) (d : Sd), cs = d.cells ∧ StOk w X d := by
  intro fuel
  induction fuel using Nat.strongRecOn with
  | _ fuel ih =>
  intro cs x hx h
  obtain ⟨xs, n, hn, rfl, hl, hxl, hf⟩ := DataW.trod_struct Tryz.underlying46 h
  rw [c32] at hl
  have hxl' : xs.length = 13 := hxl
  clear hxl
  obtain ⟨a0, cs0r, rfl, hl0⟩ := list_cons (n := 20) hl
  obtain ⟨a1, cs1r, rfl, hl1⟩ := list_cons (n := 19) hl0
  obtain ⟨a2, cs2r, rfl, hl2⟩ := list_cons (n := 18) hl1
  obtain ⟨a3, cs3r, rfl, hl3⟩ := list_cons (n := 17) hl2
  obtain ⟨a4, cs4r, rfl, hl4⟩ := list_cons (n := 16) hl3
  obtain ⟨a5, cs5r, rfl, hl5⟩ := list_cons (n := 15) hl4
  obtain ⟨a6, cs6r, rfl, hl6⟩ := list_cons (n := 14) hl5
  obtain ⟨a7, cs7r, rfl, hl7⟩ := list_cons (n := 13) hl6
  obtain ⟨a8, cs8r, rfl, hl8⟩ := list_cons (n := 12) hl7
  obtain ⟨a9, cs9r, rfl, hl9⟩ := list_cons (n := 11) hl8
  obtain ⟨a10, cs10r, rfl, hl10⟩ := list_cons (n := 10) hl9
  obtain ⟨a11, cs11r, rfl, hl11⟩ := list_cons (n := 9) hl10
  obtain ⟨a12, cs12r, rfl, hl12⟩ := list_cons (n := 8) hl11
  obtain ⟨a13, cs13r, rfl, hl13⟩ := list_cons (n := 7) hl12
  obtain ⟨a14, cs14r, rfl, hl14⟩ := list_cons (n := 6) hl13
  obtain ⟨a15, cs15r, rfl, hl15⟩ := list_cons (n := 5) hl14
  obtain ⟨a16, cs16r, rfl, hl16⟩ := list_cons (n := 4) hl15
  obtain ⟨a17, cs17r, rfl, hl17⟩ := list_cons (n := 3) hl16
  obtain ⟨a18, cs18r, rfl, hl18⟩ := list_cons (n := 2) hl17
  obtain ⟨a19, cs19r, rfl, hl19⟩ := list_cons (n := 1) hl18
  obtain ⟨a20, cs20r, rfl, hl20⟩ := list_cons (n := 0) hl19
  obtain rfl := List.length_eq_zero_iff.1 hl20
  obtain ⟨y0, xs0r, rfl, hxl'0⟩ := list_cons (n := 12) hxl'
  obtain ⟨y1, xs1r, rfl, hxl'1⟩ := list_cons (n := 11) hxl'0
  obtain ⟨y2, xs2r, rfl, hxl'2⟩ := list_cons (n := 10) hxl'1
  obtain ⟨y3, xs3r, rfl, hxl'3⟩ := list_cons (n := 9) hxl'2
  obtain ⟨y4, xs4r, rfl, hxl'4⟩ := list_cons (n := 8) hxl'3
  obtain ⟨y5, xs5r, rfl, hxl'5⟩ := list_cons (n := 7) hxl'4
  obtain ⟨y6, xs6r, rfl, hxl'6⟩ := list_cons (n := 6) hxl'5
  obtain ⟨y7, xs7r, rfl, hxl'7⟩ := list_cons (n := 5) hxl'6
  obtain ⟨y8, xs8r, rfl, hxl'8⟩ := list_cons (n := 4) hxl'7
  obtain ⟨y9, xs9r, rfl, hxl'9⟩ := list_cons (n := 3) hxl'8
  obtain ⟨y10, xs10r, rfl, hxl'10⟩ := list_cons (n := 2) hxl'9
  obtain ⟨y11, xs11r, rfl, hxl'11⟩ := list_cons (n := 1) hxl'10
  obtain ⟨y12, xs12r, rfl, hxl'12⟩ := list_cons (n := 0) hxl'11
  obtain rfl := List.length_eq_zero_iff.1 hxl'12
  have h0 : DataW.trod enc Tryz.prog w 0 spare held n 3 [a0] = some y0 := by have := hf 0 _ rfl; simpa [c3] using this
  have h1 : DataW.trod enc Tryz.prog w 0 spare held n 9 [a1] = some y1 := by have := hf 1 _ rfl; simpa [c9] using this
  have h2 : DataW.trod enc Tryz.prog w 0 spare held n 9 [a2] = some y2 := by have := hf 2 _ rfl; simpa [c9] using this
  have h3 : DataW.trod enc Tryz.prog w 0 spare held n 27 [a3, a4, a5] = some y3 := by have := hf 3 _ rfl; simpa [c24] using this
  have h4 : DataW.trod enc Tryz.prog w 0 spare held n 3 [a6] = some y4 := by have := hf 4 _ rfl; simpa [c3] using this
  have h5 : DataW.trod enc Tryz.prog w 0 spare held n 3 [a7] = some y5 := by have := hf 5 _ rfl; simpa [c3] using this
  have h6 : DataW.trod enc Tryz.prog w 0 spare held n 3 [a8] = some y6 := by have := hf 6 _ rfl; simpa [c3] using this
  have h7 : DataW.trod enc Tryz.prog w 0 spare held n 30 [a9, a10, a11, a12, a13, a14, a15] = some y7 := by have := hf 7 _ rfl; simpa [c27] using this
  have h8 : DataW.trod enc Tryz.prog w 0 spare held n 42 [a16] = some y8 := by have := hf 8 _ rfl; simpa [c28] using this
  have h9 : DataW.trod enc Tryz.prog w 0 spare held n 9 [a17] = some y9 := by have := hf 9 _ rfl; simpa [c9] using this
  have h10 : DataW.trod enc Tryz.prog w 0 spare held n 3 [a18] = some y10 := by have := hf 10 _ rfl; simpa [c3] using this
  have h11 : DataW.trod enc Tryz.prog w 0 spare held n 43 [a19] = some y11 := by have := hf 11 _ rfl; simpa [c29] using this
  have h12 : DataW.trod enc Tryz.prog w 0 spare held n 44 [a20] = some y12 := by have := hf 12 _ rfl; simpa [c30] using this
  have b3 : B y3.1 ≤ 1048576 := Nat.le_trans (hB.ag _ _ (by simp)) hx
  have b7 : B y7.1 ≤ 1048576 := Nat.le_trans (hB.ag _ _ (by simp)) hx
  have b8 : B y8.1 ≤ 1048576 := Nat.le_trans (hB.ag _ _ (by simp)) hx
  have b11 : B y11.1 ≤ 1048576 := Nat.le_trans (hB.ag _ _ (by simp)) hx
  have b12 : B y12.1 ≤ 1048576 := Nat.le_trans (hB.ag _ _ (by simp)) hx
  obtain ⟨ru, e0, _⟩ := DataW.trod_int Tryz.underlying3 h0
  obtain ⟨nm, e1, _⟩ := DataW.trod_string Tryz.underlying9 h1
  obtain ⟨ot, e2, _⟩ := DataW.trod_string Tryz.underlying9 h2
  obtain ⟨g, aq, an, ac, cq, cn, cc, nu, de, e3, s1, s2, l1, l2⟩ := open_rat hB b3 h3
  obtain ⟨kk, e4, _⟩ := DataW.trod_int Tryz.underlying3 h4
  obtain ⟨nn, e5, _⟩ := DataW.trod_int Tryz.underlying3 h5
  obtain ⟨pr, e6, _⟩ := DataW.trod_int Tryz.underlying3 h6
  obtain ⟨X, d, e7, hX⟩ := open_expr hB n _ y7 b7 h7
  obtain ⟨pq, pn, pc, ps, e8, hP⟩ := open_points hB b8 h8
  obtain ⟨en, e9, _⟩ := DataW.trod_string Tryz.underlying9 h9
  obtain ⟨ve, e10, _⟩ := DataW.trod_int Tryz.underlying3 h10
  obtain ⟨bq, bn, bc, bs, e11, hD⟩ := open_binds hB b11 h11
  obtain ⟨kq, kn, kc, e12, _, hbn, hel⟩ := open_slice Tryz.underlying44 c32 (by decide) h12
  simp only [List.cons.injEq, and_true] at e0 e1 e2 e3 e4 e5 e6 e7 e8 e9 e10 e11 e12
  obtain ⟨e3, e3b, e3c⟩ := e3
  obtain ⟨f1, f2, f3, f4, f5, f6, f7⟩ := e7
  subst e0 e1 e2 e3 e3b e3c e4 e5 e6 f1 f2 f3 f4 f5 f6 f7 e8 e9 e10 e11 e12
  have hkn : kn ≤ 1048576 := Nat.le_trans (hbn B hB) b12
  rcases hel with rfl | ⟨b, o, rfl, hlt, hel⟩
  · exact ⟨.mk ⟨ru, nm, ot, g, kk, nn, pr, en, ve⟩ nu de X pn ps bn bs 0 (fun _ => .non), ⟨⟨ru, nm, ot, g, kk, nn, pr, en, ve⟩, aq, an, ac, cq, cn, cc, d, pq, pn, pc, bq, bn, bc, kq, 0, kc⟩, rfl,
      ⟨rfl, rfl, rfl, rfl⟩, s1, s2, l1, l2, hX, hP, hD, by omega, .inl rfl⟩
  · have hp : ∀ i, i < kn → ∃ p : St × Sd, w.rangeAt b (o + i * 21) p.2.cells ∧ StOk w p.1 p.2 := by
      intro i hi
      obtain ⟨ces, y, m1, hm1, hr, _, ht, hby⟩ := hel i hi
      obtain ⟨Y, D, rfl, hok⟩ := ih m1 (by omega) ces y (Nat.le_trans (hby B hB) b12) ht
      exact ⟨(Y, D), hr, hok⟩
    obtain ⟨F, hF⟩ := pick hp
    exact ⟨.mk ⟨ru, nm, ot, g, kk, nn, pr, en, ve⟩ nu de X pn ps bn bs kn (fun i => (F i).1), ⟨⟨ru, nm, ot, g, kk, nn, pr, en, ve⟩, aq, an, ac, cq, cn, cc, d, pq, pn, pc, bq, bn, bc, some ⟨b, o, none⟩, kn, kc⟩, rfl,
      ⟨rfl, rfl, rfl, rfl⟩, s1, s2, l1, l2, hX, hP, hD, by omega, .inr ⟨b, o, rfl, hlt, fun i => (F i).2, fun i hi => hF i hi⟩⟩
end
end Go.Proofs.YtaonejnicgbifaaGreatDoor
namespace Go.Proofs.YtaonejnicgbifaaGreatDoor
open Go Go.RowKit

/-- A key: a name and a version. -/
abbrev Ky := ByteArray × Int

theorem name_inj {a b : ByteArray} (h : a.toList = b.toList) : a = b := by
  rw [ByteArray.toList_eq, ByteArray.toList_eq] at h
  cases a; cases b
  simp only [ByteArray.mk.injEq]
  exact Array.toList_inj.1 h

/-- The order of keys. -/
def ltK (a b : Ky) : Prop := a.1.toList < b.1.toList ∨ a.1.toList = b.1.toList ∧ a.2 < b.2
instance (a b : Ky) : Decidable (ltK a b) := by unfold ltK; infer_instance

end Go.Proofs.YtaonejnicgbifaaGreatDoor
namespace Go.Proofs.YtaonejnicgbifaaGreatDoor
open Go Go.RowKit

instance : LawfulBEq ByteArray where
  eq_of_beq {a b} h := by
    rw [beq_toListBytes] at h
    exact name_inj (by simpa using h)
  rfl {a} := by rw [beq_toListBytes]; simp
theorem below_one (w : World) (o : Obj) : Below w.heap.size w (w.alloc o) := (Below.refl _ _).alloc (Nat.le_refl _) o
/-- A key's two cells. -/
def kcells (k : Ky) : List Value := [.string k.1, .int .i64 k.2]
/-- A key that the reader reads. -/
def KyOk (k : Ky) : Prop := k.1.size ≤ maxLen ∧ (Lit.int .i64 k.2).wf = true
/-- The place of the first entry with a key. -/
def ixK (L : List Ky) (k : Ky) : Option Nat := L.findIdx? fun a => decide (a = k)
theorem ixK_some {L : List Ky} {k : Ky} {i : Nat} (h : L[i]? = some k) (hb : ∀ (j : Nat) (a : Ky), j < i → L[j]? = some a → ¬ a = k) : ixK L k = some i := by
  unfold ixK
  rw [List.findIdx?_eq_some_iff_getElem]
  obtain ⟨hi, he⟩ := List.getElem?_eq_some_iff.1 h
  refine ⟨hi, by simp [he], fun j hj => ?_⟩
  have := hb j (L[j]'(by omega)) hj (List.getElem?_eq_getElem _)
  simpa using this
theorem ixK_none {L : List Ky} {k : Ky} (hb : ∀ (j : Nat) (a : Ky), L[j]? = some a → ¬ a = k) : ixK L k = none := by
  unfold ixK
  rw [List.findIdx?_eq_none_iff]
  intro x hx
  obtain ⟨j, hj⟩ := List.getElem?_of_mem hx
  simpa using hb j x hj
theorem ixK_get {L : List Ky} {k : Ky} {i : Nat} (h : ixK L k = some i) : L[i]? = some k := by
  unfold ixK at h
  obtain ⟨hi, he, _⟩ := List.findIdx?_eq_some_iff_getElem.1 h
  rw [List.getElem?_eq_getElem hi]
  simpa using he
/-- What index returns. -/
def ixI (L : List Ky) (k : Ky) : Int := match ixK L k with | some i => i | none => -1
end Go.Proofs.YtaonejnicgbifaaGreatDoor
namespace Go.Proofs.YtaonejnicgbifaaGreatDoor
open Go Go.RowKit

/-- A result that lies in a cell of its own. -/
theorem results_cell_mid {P : Program} {fn : Func} {p : Tmp} {ty : TypeId} (h : fn.results = #[.cell p ty]) (tmps : Array Value) (w : World) (b : Nat) (cs : List Value) (d : TypeDesc)
    (hp : tmps.getD p undef = .pointer (some ⟨b, 0, none⟩)) (hc : w.rangeAt b 0 cs) (hu : P.underlying ty = some d) (hd : d.isRow = true) (hi : (P.info? ty).map (·.size) = some cs.length) :
    (results fn tmps).run P w = .ok (.agg cs.toArray) w := by
  have hp' : tmps[p]?.getD undef = .pointer (some ⟨b, 0, none⟩) := by simpa using hp
  simp [results, h, hp', asAddr, run_loadVar_mid w b 0 ty cs d hc hu hd hi]
end Go.Proofs.YtaonejnicgbifaaGreatDoor
namespace Go.Proofs.YtaonejnicgbifaaGreatDoor
open Go Go.RowKit

theorem dig_snoc16 {l : List Int} (h : Dig16 l) {d : Int} (hd : 0 ≤ d ∧ d ≤ 65535) : Dig16 (l ++ [d]) := fun j => by
  by_cases hj : j < l.length
  · have := h j
    rwa [show (l ++ [d]).getD j 0 = l.getD j 0 by simp [List.getD, List.getElem?_append_left hj]]
  · by_cases hj2 : j = l.length
    · subst hj2
      simpa [List.getD] using hd
    · have : (l ++ [d]).getD j 0 = 0 := by
        simp only [List.getD]
        rw [List.getElem?_eq_none (by simp; omega)]
        rfl
      rw [this]
      omega
theorem val_snoc16 (l : List Int) (d : Int) : val16 (l ++ [d]) = val16 l + d * 65536 ^ l.length := by
  rw [val_append16]
  have : val16 [d] = d := by simp [val16]
  rw [this, Int.mul_comm]
end Go.Proofs.YtaonejnicgbifaaGreatDoor
