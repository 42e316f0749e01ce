import Derived.Test.YtaonejnicgbifaaGreatDoorPk29
namespace Go.Proofs.YtaonejnicgbifaaGreatDoor
open Go Go.RowKit

section
variable {H : Type} {enc : TypeId × Value → H} {w : World} {spare : Nat → Bool} {held : Bool} {B : DataW H → Nat}

/-- A key, opened. -/
theorem open_key {fuel : Nat} {cs : List Value} {x : DataW H × List MemPlace} (h : DataW.trod enc Tryz.prog w 0 spare held fuel 24 cs = some x) : ∃ k : ByteArray × Int, cs = kcells k ∧ KyOk k := by
  obtain ⟨xs, n, hn, rfl, hl, hxl0, hf⟩ := DataW.trod_struct Tryz.underlying24 h
  have hxl : xs.length = 2 := hxl0
  clear hxl0
  have hl : cs.length = 2 := by rw [hl]; kernel_rfl
  obtain ⟨a0, cs0r, rfl, hl0⟩ := list_cons (n := 1) hl
  obtain ⟨a1, cs1r, rfl, hl1⟩ := list_cons (n := 0) hl0
  obtain rfl := List.length_eq_zero_iff.1 hl1
  obtain ⟨y0, xs0r, rfl, hxl'0⟩ := list_cons (n := 1) hxl
  obtain ⟨y1, xs1r, rfl, hxl'1⟩ := list_cons (n := 0) hxl'0
  obtain rfl := List.length_eq_zero_iff.1 hxl'1
  have h0 : DataW.trod enc Tryz.prog w 0 spare held n 9 [a0] = some y0 := by have := hf 0 _ rfl; simpa [c9] using this
  have h1 : DataW.trod enc Tryz.prog w 0 spare held n 3 [a1] = some y1 := by have := hf 1 _ rfl; simpa [c3] using this
  obtain ⟨s, e0, _, w0⟩ := DataW.trod_string Tryz.underlying9 h0
  obtain ⟨v, e1, _, w1⟩ := DataW.trod_int Tryz.underlying3 h1
  simp only [List.cons.injEq, and_true] at e0 e1
  subst e0 e1
  exact ⟨(s, v), rfl, w0, w1⟩

set_option maxRecDepth 100000 in
theorem agg22 {W : World} {base : Nat} {cs : Array Value} (hv : Value.okWide Tryz.prog W .any base 22 (.agg cs)) : False := by
  simp [Value.okWide, Cell.okWide, Cell.ok] at hv
set_option maxRecDepth 100000 in
theorem cells_slice {base : Nat} {v : Value} {q : Option Addr} {n c : Nat} (hv : Value.okWide Tryz.prog w .any base 22 v) (h : v.cells.toList = [.slice q n c]) : v = .slice q n c := by
  cases v with
  | agg cs => exact (agg22 hv).elim
  | _ => clear hv; simp_all [Value.cells]
set_option maxRecDepth 100000 in
theorem cells_key {v : Value} {k : ByteArray × Int} (h : v.cells.toList = kcells k) : v = .agg #[.string k.1, .int .i64 k.2] := by
  cases v with
  | agg cs =>
    simp only [Value.cells] at h
    rw [show cs = #[.string k.1, .int .i64 k.2] from Array.toList_inj.1 h]
  | _ => simp [Value.cells, kcells] at h
theorem cells_claim {v : Value} {C : Cl} {D : Cd} (h : v.cells.toList = C.cells D) : v = .agg (C.cells D).toArray := by
  cases v with
  | agg cs =>
    simp only [Value.cells] at h
    rw [← h]
  | _ => simp [Value.cells, Cl.cells, Nd.cells] at h
set_option maxRecDepth 100000 in
/-- The three arguments, opened. -/
theorem args_of (hB : Bk B) {base : Nat} {v0 v1 v2 : Value} {x0 x1 x2 : DataW H × List MemPlace} (hv : Value.okWide Tryz.prog w .any base 22 v0) (b0 : B x0.1 ≤ 1048576) (b2 : B x2.1 ≤ 1048576)
    (h0 : DataW.Trod enc Tryz.prog w 0 spare held 22 v0 x0.1 x0.2) (h1 : DataW.Trod enc Tryz.prog w 0 spare held 24 v1 x1.1 x1.2) (h2 : DataW.Trod enc Tryz.prog w 0 spare held 34 v2 x2.1 x2.2) :
    ∃ q n c L Cs, ∃ k : Ky, ∃ C D, #[v0, v1, v2] = #[.slice q n c, .agg #[.string k.1, .int .i64 k.2], .agg (Cl.cells C D).toArray] ∧ LibOk w q n L ∧ LibCl w L Cs ∧ ClOk w C D := by
  obtain ⟨f0, hf0⟩ := h0
  obtain ⟨f1, hf1⟩ := h1
  obtain ⟨f2, hf2⟩ := h2
  obtain ⟨q, n, c, L, Cs, e0, hL, hC⟩ := open_lib hB b0 hf0
  obtain ⟨k, e1, _⟩ := open_key hf1
  obtain ⟨C, D, e2, hD⟩ := open_claimS hB b2 hf2
  obtain rfl := cells_slice hv e0
  clear hv
  obtain rfl := cells_key e1
  obtain rfl := cells_claim e2
  exact ⟨q, n, c, L, Cs, k, C, D, rfl, hL, hC, hD⟩
end
end Go.Proofs.YtaonejnicgbifaaGreatDoor
namespace Go.Proofs.YtaonejnicgbifaaGreatDoor
open Go Go.RowKit

theorem bytesLess_irr : ∀ x : List UInt8, Op.bytesLess x x = false
  | [] => rfl
  | a :: x => by
    unfold Op.bytesLess
    rw [bytesLess_irr x]
    simp [UInt8.lt_irrefl]
theorem bytesLess_tr : ∀ (x y z : List UInt8), Op.bytesLess x y = true → Op.bytesLess y z = true → Op.bytesLess x z = true := by
  intro x
  induction x with
  | nil =>
    intro y z h1 h2
    cases z with
    | nil => cases y <;> simp [Op.bytesLess] at h2
    | cons c z => simp [Op.bytesLess]
  | cons a x ih =>
    intro y z h1 h2
    cases y with
    | nil => simp [Op.bytesLess] at h1
    | cons b y =>
      cases z with
      | nil => simp [Op.bytesLess] at h2
      | cons c z =>
        simp only [Op.bytesLess, Bool.or_eq_true, decide_eq_true_eq, Bool.and_eq_true, beq_iff_eq] at h1 h2 ⊢
        rcases h1 with h1 | ⟨rfl, h1⟩
        · rcases h2 with h2 | ⟨rfl, h2⟩
          · exact .inl (UInt8.lt_trans h1 h2)
          · exact .inl h1
        · rcases h2 with h2 | ⟨rfl, h2⟩
          · exact .inl h2
          · exact .inr ⟨rfl, ih _ _ h1 h2⟩
/-- The sides' names of a valid box ascend. -/
theorem box_asc {n : Nat} {bs : Nat → Si} (h : bxOk n bs = true) : ∀ j i, i < j → j < n → Op.bytesLess (bs i).m.toList (bs j).m.toList = true := by
  unfold bxOk at h
  simp only [Bool.and_eq_true] at h
  have hs := all_get h.2
  have h1 : ∀ j, j + 1 < n → Op.bytesLess (bs j).m.toList (bs (j + 1)).m.toList = true := fun j hj => by
    have := hs (j + 1) hj
    unfold sdOk at this
    simp only [Bool.and_eq_true, Bool.or_eq_true, decide_eq_true_eq, Nat.add_sub_cancel] at this
    exact this.2.1.resolve_left (by omega)
  intro j
  induction j with
  | zero => exact fun i hi => by omega
  | succ j ih =>
    intro i hi hj
    rcases Nat.lt_or_ge i j with h | h
    · exact bytesLess_tr _ _ _ (ih i h (by omega)) (h1 j hj)
    · obtain rfl : i = j := by omega
      exact h1 i hj
/-- A side of a valid box is found by its name. -/
theorem sdIx_self {n : Nat} {bs : Nat → Si} (h : bxOk n bs = true) {i : Nat} (hi : i < n) : sdIx n bs (bs i).m = some i :=
  sdIx_some hi rfl fun j hj e => by
    have := box_asc h i j hj hi
    rw [e, bytesLess_irr] at this
    cases this
theorem qS_self (a : Bool × Int × Int) : qS a a = 0 := by
  unfold qS
  rw [Int.sub_self]
  rfl
/-- An expression is the same as itself. -/
theorem Ex.sm_refl : ∀ x : Ex, x.sm x = true := by
  intro x
  induction x with
  | non => rfl
  | mk k f ng nu de m n ar ih =>
    unfold Ex.sm
    have : ((List.range n).all fun i => (ar i).sm (ar i)) = true := List.all_eq_true.2 fun i _ => ih i
    rw [this]
    unfold qz
    rw [qS_self]
    simp
theorem IvC.ins_refl {c : IvC} (hn : c.Nn) (h : c.vd = false) : c.ins c = true := by
  unfold IvC.ins
  rw [fcS_lohi hn.n1 hn.d1 hn.n1 hn.d1, fcS_lohi hn.n2 hn.d2 hn.n2 hn.d2, qS_self, qS_self, h]
  cases c.li <;> cases c.hh <;> rfl
/-- A valid claim covers itself. -/
theorem covS_refl {w : World} {M : Cl} {D : Cd} (hM : ClOk w M D) (h : M.vld = true) : covS M M = true := by
  have p := Cl.parts h
  have hb : bxOk M.nb M.bs = true := by
    unfold Cl.vld at h
    simp only [Bool.and_eq_true] at h
    exact h.1
  obtain ⟨_, _, _, m4, _⟩ := hM
  have sM : ∀ i, i < M.nb → (M.bs i).c.Nn := fun i hi => by
    rcases m4 with h | ⟨_, _, _, _, ds, h⟩
    · omega
    · exact (h i hi).2.nn
  unfold covS
  rw [Ex.sm_refl]
  have h1 : ((List.range M.nb).all fun i => sdCv M (M.bs i)) = true := List.all_eq_true.2 fun i hi => by
    have hi := List.mem_range.1 hi
    unfold sdCv
    rw [sdIx_self hb hi]
    exact IvC.ins_refl (sM i hi) (p.vd i hi)
  have h2 : ((List.range M.nc).all fun i => (List.range M.nc).any fun j => coSv (M.cs j) (M.cs i)) = true := List.all_eq_true.2 fun i hi => by
    refine List.any_eq_true.2 ⟨i, hi, ?_⟩
    unfold coSv
    rw [Ex.sm_refl]
    cases (M.cs i).st <;> rfl
  rw [h1, h2]
  cases M.st <;> rfl

/-- The claim with its goal as one more condition, not strict. -/
def Cl.plus (C : Cl) : Cl := ⟨C.goal, false, C.nb, C.bs, C.nc + 1, fun i => if i < C.nc then C.cs i else ⟨C.goal, false⟩⟩
theorem Cl.plus_vld {C : Cl} (h : C.vld = true) (hn : C.nc < 12) : C.plus.vld = true := by
  unfold Cl.vld at h ⊢
  simp only [Bool.and_eq_true, decide_eq_true_eq] at h
  obtain ⟨h1, h2, h3, h4⟩ := h
  show (bxOk C.nb C.bs && (decide (C.nc + 1 ≤ 12) && (coOk C.nb C.bs C.goal && (List.range (C.nc + 1)).all fun i => coOk C.nb C.bs (C.plus.cs i).x))) = true
  rw [h1, h3, decide_eq_true (show C.nc + 1 ≤ 12 by omega)]
  simp only [Bool.true_and]
  refine List.all_eq_true.2 fun i hi => ?_
  have hi := List.mem_range.1 hi
  unfold Cl.plus
  simp only
  split
  · rename_i hlt
    exact all_get h4 i hlt
  · exact h3
theorem Cl.plus_cov {M C : Cl} (h : covS M C = true) : covS M C.plus = true := by
  unfold covS at h ⊢
  simp only [Bool.and_eq_true] at h
  obtain ⟨h1, _, h3, h4⟩ := h
  have e1 : ∀ s, sdCv C.plus s = sdCv C s := fun s => rfl
  simp only [e1]
  rw [show C.plus.goal = C.goal from rfl, h1, h3]
  have h4 : ((List.range M.nc).all fun i => (List.range C.plus.nc).any fun j => coSv (C.plus.cs j) (M.cs i)) = true := List.all_eq_true.2 fun i hi => by
    obtain ⟨j, hj, hc⟩ := List.any_eq_true.1 (List.all_eq_true.1 h4 i hi)
    have hj := List.mem_range.1 hj
    refine List.any_eq_true.2 ⟨j, List.mem_range.2 (show j < C.nc + 1 by omega), ?_⟩
    unfold Cl.plus
    simp only
    rw [if_pos hj]
    exact hc
  rw [h4]
  rfl
end Go.Proofs.YtaonejnicgbifaaGreatDoor
namespace Go.Proofs.YtaonejnicgbifaaGreatDoor
open Go Go.RowKit

set_option maxRecDepth 100000 in
theorem run_append_zero {w : World} (base : Nat) (t ty e : TypeId) (i : TypeInfo) (size c : Nat) (ht : Tryz.prog.underlying t = some (.slice e)) (hi : Tryz.prog.info? e = some i)
    (v : Value) (n : Nat) (xs : List Value) (q : Option Addr) (hown : w.ownsRow base e size v n xs) :
    (Builtin.append_ #[t, t] ty #[v, .slice q 0 c]).run Tryz.prog w = .ok v w := by
  cases q with
  | none =>
    rcases hown.2 with ⟨rfl, rfl⟩ | ⟨g, cap, cur, rfl, _, _, hnc, _⟩
    · simp [Builtin.append_, run_underlying ht, sizeOf, typeInfo, hi, Builtin.lenOf, Builtin.firstCells]
    · simp [Builtin.append_, run_underlying ht, sizeOf, typeInfo, hi, Builtin.lenOf, Builtin.firstCells, hnc, storeCells]
  | some a =>
    rcases hown.2 with ⟨rfl, rfl⟩ | ⟨g, cap, cur, rfl, _, _, hnc, _⟩
    · simp [Builtin.append_, run_underlying ht, sizeOf, typeInfo, hi, Builtin.lenOf, Builtin.firstCells, loadCells, loadCellsFrom]
    · simp [Builtin.append_, run_underlying ht, sizeOf, typeInfo, hi, Builtin.lenOf, Builtin.firstCells, hnc, storeCells, loadCells, loadCellsFrom]

theorem cond_info : (Tryz.prog.info? 50).map (fun i => (i.zero, i.size, i.bytes)) = some (some (.agg #[.int .i64 0, .int .i64 0, .bool false, .slice none 0 0, .slice none 0 0, .string ⟨#[]⟩, .slice none 0 0, .bool false]), 8, 120) := by kernel_rfl

set_option maxRecDepth 100000 in
/-- append of conditions to a row of the call's own, in a region that draws its order. -/
theorem step_conds {w : World} {ops : Array Oper} {o : Oper} {a : Act} {K : Act → World → Prop} {Q : Exit → Act → World → Prop} {E : Prop} (hgd : o.guard = none) (s x : Operand)
    (ho : o.op = .call { callee := .builtin .append, args := #[s, x], argTypes := #[32, 32] })
    (base : Nat) (v : Value) (n : Nat) (xs : List Value) (hs : a.eval s = v) (hown : w.ownsRow base 50 8 v n xs) (q : Option Addr) (m c : Nat) (news : List Value) (hx : a.eval x = .slice q m c) (hl : news.length = m * 8)
    (hnews : m = 0 ∨ ∃ ad, q = some ad ∧ ∀ j u, news[j]? = some u → w.cell? (ad.add j) = some u) (h1 : ∀ u ∈ news, u.oneCell' = true) (hb : n + m ≤ 1048580) (hbase : base ≤ w.heap.size)
    (h : ∀ q' c' w', w'.ownsRow base 50 8 (.slice q' (n + m) c') (n + m) (xs ++ news) → w.grownBy w' v.ownBlock → K (a.put o.dst (.slice q' (n + m) c')) w') :
    if Region.wanted o (yielded ops a.tmps) = true then Oper.wp Tryz.prog o a w K Q else E := by
  obtain ⟨i0, hi, hz0, hz1, hz2⟩ := info_parts cond_info
  rcases Nat.eq_zero_or_pos m with h0 | h0
  · subst h0
    have hw : Region.wanted o (yielded ops a.tmps) = true := by simp [Region.wanted, hgd]
    rw [if_pos hw]
    obtain rfl : news = [] := List.eq_nil_of_length_eq_zero (by omega)
    have hrun := run_append_zero base 32 o.type 50 i0 8 c Tryz.underlying32 hi v n xs q hown
    have hv : ∃ q' c', v = .slice q' (n + 0) c' := by
      rcases hown.2 with ⟨e, e2⟩ | ⟨g, cap, cur, e, _⟩
      · subst e2; exact ⟨_, _, e⟩
      · exact ⟨_, _, e⟩
    obtain ⟨q', c', rfl⟩ := hv
    simp only [Nat.add_zero, List.append_nil] at hrun h hs hown
    unfold Oper.wp
    simp [execOp, ho, resolve, invoke, builtin, hs, hx, hrun, Result.andThen]
    exact h q' c' w hown ⟨rfl, rfl, rfl, Nat.le_refl _, fun _ _ _ => rfl⟩
  · obtain ⟨ad, rfl, hn⟩ := hnews.resolve_left (by omega)
    exact step_append_lies w hgd s x 32 ho base 50 i0 _ 8 120 Tryz.underlying32 hi hz0 hz1 hz2 rfl (by decide) v n xs hs hown ad m c news hx hl hn h1 h0 (by unfold maxLen; omega) (by omega) hbase _ rfl
      fun g cap w' h2 h3 _ _ => h _ _ w' h2 h3
end Go.Proofs.YtaonejnicgbifaaGreatDoor
namespace Go.Proofs.YtaonejnicgbifaaGreatDoor
open Go Go.RowKit

theorem flat8_len {f : Nat → List Value} (hf : ∀ i, (f i).length = 8) : ∀ n, ((List.range n).flatMap f).length = n * 8
  | 0 => rfl
  | n + 1 => by
    rw [List.range_succ, List.flatMap_append, List.length_append, flat8_len hf n, List.flatMap_singleton, hf]
    omega
theorem flat8_eq {f : Nat → List Value} (hf : ∀ i, (f i).length = 8) {i r : Nat} (hr : r < 8) : ∀ n, i < n → ((List.range n).flatMap f)[i * 8 + r]? = (f i)[r]?
  | 0, h => by omega
  | n + 1, h => by
    rw [List.range_succ, List.flatMap_append, List.flatMap_singleton]
    rcases Nat.lt_or_ge i n with h1 | h1
    · rw [List.getElem?_append_left (by rw [flat8_len hf]; omega)]
      exact flat8_eq hf hr n h1
    · obtain rfl : i = n := by omega
      rw [List.getElem?_append_right (by rw [flat8_len hf]; omega), flat8_len hf, Nat.add_sub_cancel_left]
theorem flat8_of {f : Nat → List Value} (hf : ∀ i, (f i).length = 8) {n j : Nat} {u : Value} (h : ((List.range n).flatMap f)[j]? = some u) : j / 8 < n ∧ (f (j / 8))[j % 8]? = some u := by
  have hl := (List.getElem?_eq_some_iff.1 h).1
  rw [flat8_len hf] at hl
  have h1 : j / 8 < n := by omega
  refine ⟨h1, ?_⟩
  rw [← flat8_eq hf (by omega) n h1, show j / 8 * 8 + j % 8 = j by omega]
  exact h

/-- The cells of a list of conditions. -/
def coC (n : Nat) (cs : Nat → Co) (ds : Nat → Nd) : List Value := (List.range n).flatMap fun i => (cs i).cells (ds i)
theorem coC_len (n : Nat) (cs : Nat → Co) (ds : Nat → Nd) : (coC n cs ds).length = n * 8 := flat8_len (fun i => Co.len (cs i) (ds i)) n
theorem coC_one (n : Nat) (cs : Nat → Co) (ds : Nat → Nd) : ∀ u ∈ coC n cs ds, u.oneCell' = true := by
  intro u hu
  obtain ⟨i, _, h⟩ := List.mem_flatMap.1 hu
  exact Co.one _ _ u h
/-- A list's conditions lie one behind the other. -/
theorem coC_at {w : World} {b o n : Nat} {cs : Nat → Co} {ds : Nat → Nd} (h : ∀ i, i < n → w.rangeAt b (o + i * 8) ((cs i).cells (ds i))) : ∀ j u, (coC n cs ds)[j]? = some u → w.cell? ((⟨b, o, none⟩ : Addr).add j) = some u := by
  intro j u hu
  obtain ⟨h1, h2⟩ := flat8_of (fun i => Co.len (cs i) (ds i)) hu
  have h3 := h _ h1 _ _ h2
  rw [Addr.add_mid]
  rwa [show o + j / 8 * 8 + j % 8 = o + j by omega] at h3
/-- What the row of the call's own holds behind both appends is a list of conditions. -/
theorem plus_cos {w : World} {base : Nat} {q : Option Addr} {c : Nat} {C : Cl} {d : Nd} {ds : Nat → Nd} (h : w.ownsRow base 50 8 (.slice q (C.nc + 1) c) (C.nc + 1) (coC C.nc C.cs ds ++ (d.cells ++ [.bool false])))
    (hx : ∀ i, i < C.nc → ExOk w (C.cs i).x (ds i)) (hg : ExOk w C.goal d) : CosOk w q (C.nc + 1) C.plus.cs := by
  have h' := h
  obtain ⟨hl, h0 | ⟨g, cap, cur, e, hb, hgg, hrest⟩⟩ := h
  · exact absurd h0.2 (by omega)
  · simp only [Value.slice.injEq, true_and] at e
    obtain ⟨rfl, rfl⟩ := e
    refine .inr ⟨g, 0, rfl, (Array.getElem?_eq_some_iff.1 hgg).1, fun i => if i < C.nc then ds i else d, fun i hi => ?_⟩
    have hc := World.ownsRow.cells h' (g := g) rfl
    unfold Cl.plus
    simp only
    by_cases hlt : i < C.nc
    · rw [if_pos hlt, if_pos hlt]
      refine ⟨fun j u hu => ?_, hx i hlt⟩
      have hj : j < 8 := by have := (List.getElem?_eq_some_iff.1 hu).1; rw [Co.len] at this; exact this
      have := hc (i * 8 + j) u (by rw [List.getElem?_append_left (by rw [coC_len]; omega)]; exact (flat8_eq (fun i => Co.len (C.cs i) (ds i)) hj _ hlt).trans hu)
      rw [Addr.add_mid] at this
      rw [Nat.add_assoc]
      exact this
    · obtain rfl : i = C.nc := by omega
      rw [if_neg hlt, if_neg hlt]
      refine ⟨fun j u hu => ?_, hg⟩
      have := hc (C.nc * 8 + j) u (by rw [List.getElem?_append_right (by rw [coC_len]; omega), coC_len, Nat.add_sub_cancel_left]; exact hu)
      rw [Addr.add_mid] at this
      rw [Nat.add_assoc]
      exact this

/-- What holds while the claim with one more condition is made. -/
def RgS (w : World) (P : Nat) (kn : ByteArray) (kv : Int) (CL DL : Array Value) (z : World) : Prop :=
  BlkI z w.heap.size 24 #[.string kn, .int .i64 kv] ∧ BlkI z (w.heap.size + 1) 34 CL ∧ BlkI z P 34 DL ∧ Below w.heap.size w z ∧ w.heap.size + 1 < P
theorem BlkI.grown {w w' : World} {N : Nat} {t : TypeId} {cs : Array Value} {row : Option Nat} (h : BlkI w N t cs) (hg : w.grownBy w' row) (hn : some N ≠ row) : BlkI w' N t cs := (hg.block N h.lt hn).trans h
section
variable {w z z' : World} {P : Nat} {kn : ByteArray} {kv : Int} {CL DL : Array Value}
theorem RgS.drew (h : RgS w P kn kv CL DL z) : RgS w P kn kv CL DL z.drew := ⟨h.1, h.2.1, h.2.2.1, h.2.2.2.1.drew, h.2.2.2.2⟩
theorem RgS.grown {row : Option Nat} (h : RgS w P kn kv CL DL z) (hg : z.grownBy z' row) (hr : ∀ k, row = some k → P < k) : RgS w P kn kv CL DL z' := by
  obtain ⟨h1, h2, h3, h4, h5⟩ := h
  exact ⟨h1.grown hg fun e => by have := hr _ e.symm; omega, h2.grown hg fun e => by have := hr _ e.symm; omega, h3.grown hg fun e => by have := hr _ e.symm; omega, h4.grown hg h4.size fun k e => by have := hr k e; omega, h5⟩
theorem RgS.alloc (h : RgS w P kn kv CL DL z) (o : Obj) : RgS w P kn kv CL DL (z.alloc o) := h.grown (row := none) (World.grownBy_alloc z o none) (by simp)
theorem RgS.lt (h : RgS w P kn kv CL DL z) : P < z.heap.size := h.2.2.1.lt
theorem own0 (hb : P + 1 ≤ z.heap.size) : (z.alloc (.cells #[] 50)).ownsRow (P + 1) 50 8 (.slice (some ⟨z.heap.size, 0, none⟩) 0 0) 0 [] := by
  obtain ⟨h1, h2 | ⟨g, cap, cur, e, h3, h4⟩⟩ := World.ownsRow_made z (e := 50) (size := 8) #[] 0 (Nat.le_refl _) (by decide) rfl
  · simp at h2
  · refine ⟨h1, .inr ⟨g, cap, cur, e, by omega, h4⟩⟩
theorem own_ge {base n : Nat} {v : Value} {xs : List Value} (h : z.ownsRow base 50 8 v n xs) : ∀ k, v.ownBlock = some k → base ≤ k := by
  intro k hk
  rcases h.2 with ⟨rfl, _⟩ | ⟨g, cap, cur, rfl, hb, _⟩
  · cases hk
  · cases hk
    exact hb
theorem own_store {n : Nat} {v u : Value} {xs : List Value} {j : Nat} (h : z.ownsRow (P + 1) 50 8 v n xs) : (z.setCell ⟨P, j, none⟩ u).ownsRow (P + 1) 50 8 v n xs :=
  h.kept (row := some P) ⟨rfl, rfl, rfl, by simp, fun k _ hk => Below.heap_setCell _ _ _ _ (fun e => hk (by rw [e]))⟩ (by
    cases hv : v.ownBlock with
    | none => exact .inl rfl
    | some k => exact .inr fun e => by have := own_ge h k hv; cases e; omega)
end
end Go.Proofs.YtaonejnicgbifaaGreatDoor
