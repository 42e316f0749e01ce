import Derived.Test.YtaonejnicgbifaaGreatDoorPk28
namespace Go.Proofs.YtaonejnicgbifaaGreatDoor
open Go Go.RowKit

/-- A side of the covering claim is met. -/
def sdCv (C : Cl) (s : Si) : Bool := match sdIx C.nb C.bs s.m with | some j => (C.bs j).c.ins s.c | none => false
/-- What Covers reports of two valid claims. -/
def covS (M C : Cl) : Bool := M.goal.sm C.goal && ((!C.st || M.st) && (((List.range M.nb).all fun i => sdCv C (M.bs i)) && (List.range M.nc).all fun i => (List.range C.nc).any fun j => coSv (C.cs j) (M.cs i)))
theorem all_get {n : Nat} {P : Nat → Bool} (h : (List.range n).all P = true) : ∀ i, i < n → P i = true := fun i hi => List.all_eq_true.1 h i (List.mem_range.2 hi)
/-- The parts of a valid claim. -/
structure Cl.Parts (C : Cl) : Prop where
  n6 : C.nb ≤ 6
  lg : ∀ i, i < C.nb → (C.bs i).c.lg = false
  vd : ∀ i, i < C.nb → (C.bs i).c.vd = false
  n12 : C.nc ≤ 12
  goal : exV C.goal = true
  co : ∀ i, i < C.nc → exV (C.cs i).x = true
theorem Cl.parts {C : Cl} (h : C.vld = true) : C.Parts := by
  unfold Cl.vld coOk bxOk at h
  simp only [Bool.and_eq_true, decide_eq_true_eq] at h
  obtain ⟨⟨h1, h2⟩, h3, ⟨h4, _⟩, h5⟩ := h
  have h2 := all_get h2
  have h5 := all_get h5
  refine ⟨h1, fun i hi => ?_, fun i hi => ?_, h3, h4, fun i hi => ?_⟩
  · have := h2 i hi
    unfold sdOk at this
    simp only [Bool.and_eq_true, Bool.not_eq_true'] at this
    exact this.2.2.1
  · have := h2 i hi
    unfold sdOk at this
    simp only [Bool.and_eq_true, Bool.not_eq_true'] at this
    exact this.2.2.2
  · have := h5 i hi
    simp only [Bool.and_eq_true] at this
    exact this.1

/-- library.covers of two valid claims. -/
theorem covers_ok {w : World} {M C : Cl} {DM DC : Cd} (hM : ClOk w M DM) (hC : ClOk w C DC) (hT : Tb w) (vM : M.vld = true) (vC : C.vld = true) :
    Calls Tryz.prog 11 #[.agg (M.cells DM).toArray, .agg (C.cells DC).toArray] w fun e w' => e = .returned (.bool (covS M C)) ∧ Below w.heap.size w w' := by
  have pM := Cl.parts vM
  have pC := Cl.parts vC
  obtain ⟨m1, m2, m3, m4, m5⟩ := hM
  obtain ⟨c1, c2, c3, c4, c5⟩ := hC
  obtain ⟨md, hmd⟩ : ∃ md : Nat → Sv, M.nb = 0 ∨ ∃ b o, DM.bq = some ⟨b, o, none⟩ ∧ b < w.heap.size ∧ ∀ i, i < M.nb → w.rangeAt b (o + i * 9) ((M.bs i).cells (md i)) ∧ SiOk w (M.bs i) (md i) := by
    rcases m4 with h | ⟨b, o, e, hb, ds, hds⟩
    · exact ⟨default, .inl h⟩
    · exact ⟨ds, .inr ⟨b, o, e, hb, hds⟩⟩
  obtain ⟨cd, hcd⟩ : ∃ cd : Nat → Sv, C.nb = 0 ∨ ∃ b o, DC.bq = some ⟨b, o, none⟩ ∧ b < w.heap.size ∧ ∀ i, i < C.nb → w.rangeAt b (o + i * 9) ((C.bs i).cells (cd i)) ∧ SiOk w (C.bs i) (cd i) := by
    rcases c4 with h | ⟨b, o, e, hb, ds, hds⟩
    · exact ⟨default, .inl h⟩
    · exact ⟨ds, .inr ⟨b, o, e, hb, hds⟩⟩
  obtain ⟨me, hme⟩ : ∃ me : Nat → Nd, M.nc = 0 ∨ ∃ b o, DM.cq = some ⟨b, o, none⟩ ∧ b < w.heap.size ∧ ∀ i, i < M.nc → w.rangeAt b (o + i * 8) ((M.cs i).cells (me i)) ∧ ExOk w (M.cs i).x (me i) := by
    rcases m5 with h | ⟨b, o, e, hb, ds, hds⟩
    · exact ⟨default, .inl h⟩
    · exact ⟨ds, .inr ⟨b, o, e, hb, hds⟩⟩
  have sM : ∀ i, i < M.nb → SiOk w (M.bs i) (md i) := fun i hi => by
    obtain ⟨_, _, _, _, h⟩ := hmd.resolve_left (by omega)
    exact (h i hi).2
  have sC : ∀ i, i < C.nb → SiOk w (C.bs i) (cd i) := fun i hi => by
    obtain ⟨_, _, _, _, h⟩ := hcd.resolve_left (by omega)
    exact (h i hi).2
  have eM : ∀ i, i < M.nc → ExOk w (M.cs i).x (me i) := fun i hi => by
    obtain ⟨_, _, _, _, h⟩ := hme.resolve_left (by omega)
    exact (h i hi).2
  exact covers_walk (km := DM.d.k) (fm := DM.d.f) (gm := DM.d.neg) (stm := M.st) (am := DM.d.aq) (dm := DM.d.cq) (qm := DM.d.sq) (bxm := DM.bq) (cxm := DM.cq) (anm := DM.d.an) (acm := DM.d.ac) (dnm := DM.d.cn) (dcm := DM.d.cc) (qnm := DM.d.sn) (qcm := DM.d.sc) (nbm := M.nb) (bcm := DM.bc) (ncm := M.nc) (ccm := DM.cc) (nm := DM.d.m)
    (kc := DC.d.k) (fc := DC.d.f) (gc := DC.d.neg) (stc := C.st) (ac := DC.d.aq) (dc := DC.d.cq) (qc := DC.d.sq) (bxc := DC.bq) (cxc := DC.cq) (anc := DC.d.an) (acc := DC.d.ac) (dnc := DC.d.cn) (dcc := DC.d.cc) (qnc := DC.d.sn) (qcc := DC.d.sc) (nbc := C.nb) (bcc := DC.bc) (ncc := C.nc) (ccc := DC.cc) (nc := DC.d.m)
    (ms := M.bs) (cs := C.bs) (md := md) (cd := cd) (mk := M.cs) (me := me) (E := M.goal.sm C.goal) (O := fun i => sdIx C.nb C.bs (M.bs i).m) (N := fun i j => (C.bs j).c.ins (M.bs i).c) (H := fun i => (List.range C.nc).any fun j => coSv (C.cs j) (M.cs i))
    (fun z hz => equal28_ok (m1.below hz) (c1.below hz) (hT.below hz) pM.goal pC.goal)
    (fun i hi z hz B hB hc => idx30_ok DC.bc (c4.below hz) c2 _ B hB hc)
    (fun i j hi hj z hz => by
      have hjn := (sdIx_get hj).1
      have s1 := sC j hjn
      have s2 := sM i hi
      have h := inside_c (w := z) (g1s := (C.bs j).g1) (g2s := (C.bs j).g2) (lis := (C.bs j).li) (hhs := (C.bs j).hh) (g1t := (M.bs i).g1) (g2t := (M.bs i).g2) (lit := (M.bs i).li) (hht := (M.bs i).hh) (s1.1.below hz) (s1.2.1.below hz) (s1.2.2.1.below hz) (s1.2.2.2.1.below hz) (by have := s1.2.2.2.2.1; omega) (by have := s1.2.2.2.2.2.1; omega) (by have := s1.2.2.2.2.2.2.1; omega) (by have := s1.2.2.2.2.2.2.2; omega) (s2.1.below hz) (s2.2.1.below hz) (s2.2.2.1.below hz) (s2.2.2.2.1.below hz) (by have := s2.2.2.2.2.1; omega) (by have := s2.2.2.2.2.2.1; omega) (by have := s2.2.2.2.2.2.2.1; omega) (by have := s2.2.2.2.2.2.2.2; omega) (hT.below hz)
      have l1 : (IvC.mk (C.bs j).g1 (val (C.bs j).nu1) (val (C.bs j).de1) (C.bs j).g2 (val (C.bs j).nu2) (val (C.bs j).de2) (C.bs j).li (C.bs j).hh).lg = false := pC.lg j hjn
      have l2 : (IvC.mk (M.bs i).g1 (val (M.bs i).nu1) (val (M.bs i).de1) (M.bs i).g2 (val (M.bs i).nu2) (val (M.bs i).de2) (M.bs i).li (M.bs i).hh).lg = false := pM.lg i hi
      rw [l1, l2] at h
      exact h)
    (fun i hi z hz B hB hk => has33_ok DC.cc (c5.below hz) c3 pC.co (M.cs i) (me i) B hB hk ((eM i hi).below hz) (pM.co i hi) (hT.below hz))
    (hmd.imp id fun ⟨b, o, e, hb, h⟩ => ⟨b, o, e, hb, fun i hi => (h i hi).1⟩) (hcd.imp id fun ⟨b, o, e, hb, h⟩ => ⟨b, o, e, hb, fun i hi => (h i hi).1⟩) (hme.imp id fun ⟨b, o, e, hb, h⟩ => ⟨b, o, e, hb, fun i hi => (h i hi).1⟩)
    (fun i j hj => (sdIx_get hj).1) m2 c2 m3
end Go.Proofs.YtaonejnicgbifaaGreatDoor
namespace Go.Proofs.YtaonejnicgbifaaGreatDoor
open Go Go.RowKit

/-- What Covers reports. -/
def cvV (L : List Ky) (Cs : Nat → Cl) (k : Ky) (C : Cl) : Value :=
  match ixK L k with
  | none => .tuple #[.bool false, .int .i64 90]
  | some i => if C.vld && (Cs i).vld then .tuple #[.bool (covS (Cs i) C), .int .i64 0] else .tuple #[.bool false, .int .i64 60]
theorem En.claim_cells {w : World} {e : En} {C : Cl} {D : Cd} (h : EnCl w e C D) {b o : Nat} (hr : w.rangeAt b o e.cells) : ∀ (j : Nat) (v : Value), (C.cells D)[j]? = some v → w.cell? ⟨b, o + 2 + j, none⟩ = some v := by
  obtain ⟨pr, h1, h2, _⟩ := h
  intro j v hv
  have := hr (2 + j) v (by
    unfold En.cells
    rw [show 2 + j = (j + 1) + 1 from by omega, List.getElem?_cons_succ, List.getElem?_cons_succ, h2, List.getElem?_append_left (List.getElem?_eq_some_iff.1 hv).1]
    exact hv)
  rwa [← Nat.add_assoc] at this

set_option maxRecDepth 100000 in
set_option maxHeartbeats 8000000 in
/-- library.Covers. -/
theorem covers5_ok {w : World} {q : Option Addr} {n : Nat} (c : Nat) {L : List En} {Cs : Nat → Cl} (hL : LibOk w q n L) (hCl : LibCl w L Cs) (k : Ky) {C : Cl} {DC : Cd} (hC : ClOk w C DC) (hT : Tb w) :
    Calls Tryz.prog 5 #[.slice q n c, .agg #[.string k.1, .int .i64 k.2], .agg (C.cells DC).toArray] w fun e w' => e = .returned (cvV (L.map (·.k)) Cs k C) ∧ Below w.heap.size w w' := by
  have hb0 : Below w.heap.size w ((w.alloc (.cells #[.string k.1, .int .i64 k.2] 24)).alloc (.cells #[.int .i64 DC.d.k, .int .i64 DC.d.f, .bool DC.d.neg, .slice DC.d.aq DC.d.an DC.d.ac, .slice DC.d.cq DC.d.cn DC.d.cc, .string DC.d.m, .slice DC.d.sq DC.d.sn DC.d.sc, .bool C.st, .slice DC.bq C.nb DC.bc, .slice DC.cq C.nc DC.cc] 34)) := below_two w _ _
  have hix := index_ok c (hL.below hb0) k
  have l0 : w.heap.size + 1 < ((w.alloc (.cells #[.string k.1, .int .i64 k.2] 24)).alloc (.cells #[.int .i64 DC.d.k, .int .i64 DC.d.f, .bool DC.d.neg, .slice DC.d.aq DC.d.an DC.d.ac, .slice DC.d.cq DC.d.cn DC.d.cc, .string DC.d.m, .slice DC.d.sq DC.d.sn DC.d.sc, .bool C.st, .slice DC.bq C.nb DC.bc, .slice DC.cq C.nc DC.cc] 34)).heap.size := by simp
  have hb0 : Hid (Below w.heap.size w ((w.alloc (.cells #[.string k.1, .int .i64 k.2] 24)).alloc (.cells #[.int .i64 DC.d.k, .int .i64 DC.d.f, .bool DC.d.neg, .slice DC.d.aq DC.d.an DC.d.ac, .slice DC.d.cq DC.d.cn DC.d.cc, .string DC.d.m, .slice DC.d.sq DC.d.sn DC.d.sc, .bool C.st, .slice DC.bq C.nb DC.bc, .slice DC.cq C.nc DC.cc] 34))) := hb0
  have hL' : Hid (LibOk w q n L) := hL
  have hCl' : Hid (LibCl w L Cs) := hCl
  have hv1 : Hid (∀ z, Below w.heap.size w z → Calls Tryz.prog 10 #[.agg #[.int .i64 DC.d.k, .int .i64 DC.d.f, .bool DC.d.neg, .slice DC.d.aq DC.d.an DC.d.ac, .slice DC.d.cq DC.d.cn DC.d.cc, .string DC.d.m, .slice DC.d.sq DC.d.sn DC.d.sc, .bool C.st, .slice DC.bq C.nb DC.bc, .slice DC.cq C.nc DC.cc]] z fun e w' => e = .returned (.bool C.vld) ∧ Below z.heap.size z w') := fun z hz => clValid_ok (hC.below hz) (hT.below hz)
  have hC' : Hid (ClOk w C DC) := hC
  have hT' : Hid (Tb w) := hT
  have J0 : Hid (BlkI ((w.alloc (.cells #[.string k.1, .int .i64 k.2] 24)).alloc (.cells #[.int .i64 DC.d.k, .int .i64 DC.d.f, .bool DC.d.neg, .slice DC.d.aq DC.d.an DC.d.ac, .slice DC.d.cq DC.d.cn DC.d.cc, .string DC.d.m, .slice DC.d.sq DC.d.sn DC.d.sc, .bool C.st, .slice DC.bq C.nb DC.bc, .slice DC.cq C.nc DC.cc] 34)) (w.heap.size + 1) 34 #[.int .i64 DC.d.k, .int .i64 DC.d.f, .bool DC.d.neg, .slice DC.d.aq DC.d.an DC.d.ac, .slice DC.d.cq DC.d.cn DC.d.cc, .string DC.d.m, .slice DC.d.sq DC.d.sn DC.d.sc, .bool C.st, .slice DC.bq C.nb DC.bc, .slice DC.cq C.nc DC.cc]) := by
    have h : BlkI ((w.alloc (.cells #[.string k.1, .int .i64 k.2] 24)).alloc (.cells #[.int .i64 DC.d.k, .int .i64 DC.d.f, .bool DC.d.neg, .slice DC.d.aq DC.d.an DC.d.ac, .slice DC.d.cq DC.d.cn DC.d.cc, .string DC.d.m, .slice DC.d.sq DC.d.sn DC.d.sc, .bool C.st, .slice DC.bq C.nb DC.bc, .slice DC.cq C.nc DC.cc] 34)) (w.alloc (.cells #[.string k.1, .int .i64 k.2] 24)).heap.size 34 #[.int .i64 DC.d.k, .int .i64 DC.d.f, .bool DC.d.neg, .slice DC.d.aq DC.d.an DC.d.ac, .slice DC.d.cq DC.d.cn DC.d.cc, .string DC.d.m, .slice DC.d.sq DC.d.sn DC.d.sc, .bool C.st, .slice DC.bq C.nb DC.bc, .slice DC.cq C.nc DC.cc] := heap_alloc_new _ _
    rwa [show (w.alloc (.cells #[.string k.1, .int .i64 k.2] 24)).heap.size = w.heap.size + 1 by simp] at h
  obtain ⟨Z, hZ⟩ : ∃ Z, Hid (cvV (L.map (·.k)) Cs k C = Z) := ⟨_, rfl⟩
  rw [hZ.out]
  show Calls _ _ #[.slice q n c, .agg #[.string k.1, .int .i64 k.2], .agg #[.int .i64 DC.d.k, .int .i64 DC.d.f, .bool DC.d.neg, .slice DC.d.aq DC.d.an DC.d.ac, .slice DC.d.cq DC.d.cn DC.d.cc, .string DC.d.m, .slice DC.d.sq DC.d.sn DC.d.sc, .bool C.st, .slice DC.bq C.nb DC.bc, .slice DC.cq C.nc DC.cc]] _ _
  clear hL hCl hC hT
  cases hi : ixK (L.map (·.k)) k with
  | none =>
    have hneg : (-1 : Int) < 0 := by decide
    have hr : ixI (L.map (·.k)) k = -1 := by unfold ixI; rw [hi]
    rw [hr] at hix
    have hZ2 : Hid (Z = .tuple #[.bool false, .int .i64 90]) := by show Z = _; rw [← hZ.out]; unfold cvV; rw [hi]
    clear hi hr hZ
    go_enter Tryz.func5, Tryz.ntmps5
    go_wp2_with (go_at_call 9; with_reducible refine hix.mono ?_; rintro r w3 ⟨rfl, hb3⟩)
    go_ret2
    exact ⟨by rw [hZ2.out]; rfl, hb0.out.trans (hb3.mono hb0.out.size)⟩
  | some i =>
    have hr : ixI (L.map (·.k)) k = (i : Int) := by unfold ixI; rw [hi]
    rw [hr] at hix
    have hget := ixK_get hi
    obtain ⟨e, he, hek⟩ : ∃ e, L[i]? = some e ∧ e.k = k := by
      rw [List.getElem?_map, Option.map_eq_some_iff] at hget
      exact hget
    have hZ2 : Hid (Z = if C.vld && (Cs i).vld then .tuple #[.bool (covS (Cs i) C), .int .i64 0] else .tuple #[.bool false, .int .i64 60]) := by show Z = _; rw [← hZ.out]; unfold cvV; rw [hi]
    obtain ⟨g1, g2, g3, g4⟩ := hL'.out
    have hin : i < n := by rw [← g1]; exact (List.getElem?_eq_some_iff.1 he).1
    obtain ⟨b, o, rfl, hbl, hr33⟩ := g4.resolve_left (by omega)
    have hr33 := hr33 i e he
    obtain ⟨Ds, hDs⟩ := hCl'.out
    have hEn := hDs i e he
    obtain ⟨M, hM⟩ : ∃ M, Cs i = M := ⟨_, rfl⟩
    obtain ⟨DM, hDM⟩ : ∃ D, Ds i = D := ⟨_, rfl⟩
    rw [hM, hDM] at hEn
    rw [hM] at hZ2
    have hcl : Hid (∀ z, Below w.heap.size w z → ∀ j v, (M.cells DM)[j]? = some v → z.cell? ⟨b, o + i * 33 + 2 + j, none⟩ = some v) := fun z hz => En.claim_cells (hEn.below hz) (rangeAt_below hr33 hz hbl)
    have hMo : Hid (ClOk w M DM) := by obtain ⟨_, _, _, h⟩ := hEn; exact h
    have hv2 : Hid (∀ z, Below w.heap.size w z → Calls Tryz.prog 10 #[.agg #[.int .i64 DM.d.k, .int .i64 DM.d.f, .bool DM.d.neg, .slice DM.d.aq DM.d.an DM.d.ac, .slice DM.d.cq DM.d.cn DM.d.cc, .string DM.d.m, .slice DM.d.sq DM.d.sn DM.d.sc, .bool M.st, .slice DM.bq M.nb DM.bc, .slice DM.cq M.nc DM.cc]] z fun e w' => e = .returned (.bool M.vld) ∧ Below z.heap.size z w') := fun z hz => clValid_ok (hMo.out.below hz) (hT'.out.below hz)
    have hcv : Hid (M.vld = true → C.vld = true → ∀ z, Below w.heap.size w z → Calls Tryz.prog 11 #[.agg #[.int .i64 DM.d.k, .int .i64 DM.d.f, .bool DM.d.neg, .slice DM.d.aq DM.d.an DM.d.ac, .slice DM.d.cq DM.d.cn DM.d.cc, .string DM.d.m, .slice DM.d.sq DM.d.sn DM.d.sc, .bool M.st, .slice DM.bq M.nb DM.bc, .slice DM.cq M.nc DM.cc], .agg #[.int .i64 DC.d.k, .int .i64 DC.d.f, .bool DC.d.neg, .slice DC.d.aq DC.d.an DC.d.ac, .slice DC.d.cq DC.d.cn DC.d.cc, .string DC.d.m, .slice DC.d.sq DC.d.sn DC.d.sc, .bool C.st, .slice DC.bq C.nb DC.bc, .slice DC.cq C.nc DC.cc]] z fun e w' => e = .returned (.bool (covS M C)) ∧ Below z.heap.size z w') := fun v1 v2 z hz => covers_ok (hMo.out.below hz) (hC'.out.below hz) (hT'.out.below hz) v1 v2
    have hin' : (i : Int) < (n : Int) := by omega
    have hni : ¬ n ≤ i := by omega
    have hi0 : ¬ (i : Int) < 0 := by omega
    generalize C.vld = VC at *
    generalize M.vld = VM at *
    generalize covS M C = R at *
    clear hr hget he hek hZ g1 g2 g3 g4 hr33 hDs hEn hM hDM hL' hCl' hi hMo hC' hT'
    go_enter Tryz.func5, Tryz.ntmps5
    go_upto_region 4 with (go_at_call 9; with_reducible refine hix.mono ?_; rintro r w3 ⟨rfl, hb3⟩)
    have B3 : Hid (Below w.heap.size w w3) := hb0.out.trans (hb3.mono hb0.out.size)
    have J3 : Hid (BlkI w3 (w.heap.size + 1) 34 #[.int .i64 DC.d.k, .int .i64 DC.d.f, .bool DC.d.neg, .slice DC.d.aq DC.d.an DC.d.ac, .slice DC.d.cq DC.d.cn DC.d.cc, .string DC.d.m, .slice DC.d.sq DC.d.sn DC.d.sc, .bool C.st, .slice DC.bq C.nb DC.bc, .slice DC.cq C.nc DC.cc]) := J0.out.below hb3
    have x0 : w3.cell? ⟨b, o + i * 33 + 2, none⟩ = some (.int .i64 DM.d.k) := hcl.out w3 B3.out 0 _ rfl
    have x1 : w3.cell? ⟨b, o + i * 33 + 3, none⟩ = some (.int .i64 DM.d.f) := hcl.out w3 B3.out 1 _ rfl
    have x2 : w3.cell? ⟨b, o + i * 33 + 4, none⟩ = some (.bool DM.d.neg) := hcl.out w3 B3.out 2 _ rfl
    have x3 : w3.cell? ⟨b, o + i * 33 + 5, none⟩ = some (.slice DM.d.aq DM.d.an DM.d.ac) := hcl.out w3 B3.out 3 _ rfl
    have x4 : w3.cell? ⟨b, o + i * 33 + 6, none⟩ = some (.slice DM.d.cq DM.d.cn DM.d.cc) := hcl.out w3 B3.out 4 _ rfl
    have x5 : w3.cell? ⟨b, o + i * 33 + 7, none⟩ = some (.string DM.d.m) := hcl.out w3 B3.out 5 _ rfl
    have x6 : w3.cell? ⟨b, o + i * 33 + 8, none⟩ = some (.slice DM.d.sq DM.d.sn DM.d.sc) := hcl.out w3 B3.out 6 _ rfl
    have x7 : w3.cell? ⟨b, o + i * 33 + 9, none⟩ = some (.bool M.st) := hcl.out w3 B3.out 7 _ rfl
    have x8 : w3.cell? ⟨b, o + i * 33 + 10, none⟩ = some (.slice DM.bq M.nb DM.bc) := hcl.out w3 B3.out 8 _ rfl
    have x9 : w3.cell? ⟨b, o + i * 33 + 11, none⟩ = some (.slice DM.cq M.nc DM.cc) := hcl.out w3 B3.out 9 _ rfl
    have hb4 : Below w3.heap.size w3 (w3.alloc (.cells #[.int .i64 DM.d.k, .int .i64 DM.d.f, .bool DM.d.neg, .slice DM.d.aq DM.d.an DM.d.ac, .slice DM.d.cq DM.d.cn DM.d.cc, .string DM.d.m, .slice DM.d.sq DM.d.sn DM.d.sc, .bool M.st, .slice DM.bq M.nb DM.bc, .slice DM.cq M.nc DM.cc] 34)) := below_alloc w3 _
    have B4 : Hid (Below w.heap.size w (w3.alloc (.cells #[.int .i64 DM.d.k, .int .i64 DM.d.f, .bool DM.d.neg, .slice DM.d.aq DM.d.an DM.d.ac, .slice DM.d.cq DM.d.cn DM.d.cc, .string DM.d.m, .slice DM.d.sq DM.d.sn DM.d.sc, .bool M.st, .slice DM.bq M.nb DM.bc, .slice DM.cq M.nc DM.cc] 34))) := B3.out.trans (hb4.mono B3.out.size)
    have J4 : Hid (BlkI (w3.alloc (.cells #[.int .i64 DM.d.k, .int .i64 DM.d.f, .bool DM.d.neg, .slice DM.d.aq DM.d.an DM.d.ac, .slice DM.d.cq DM.d.cn DM.d.cc, .string DM.d.m, .slice DM.d.sq DM.d.sn DM.d.sc, .bool M.st, .slice DM.bq M.nb DM.bc, .slice DM.cq M.nc DM.cc] 34)) (w.heap.size + 1) 34 #[.int .i64 DC.d.k, .int .i64 DC.d.f, .bool DC.d.neg, .slice DC.d.aq DC.d.an DC.d.ac, .slice DC.d.cq DC.d.cn DC.d.cc, .string DC.d.m, .slice DC.d.sq DC.d.sn DC.d.sc, .bool C.st, .slice DC.bq C.nb DC.bc, .slice DC.cq C.nc DC.cc]) := J3.out.below hb4
    have P4 : Hid (BlkI (w3.alloc (.cells #[.int .i64 DM.d.k, .int .i64 DM.d.f, .bool DM.d.neg, .slice DM.d.aq DM.d.an DM.d.ac, .slice DM.d.cq DM.d.cn DM.d.cc, .string DM.d.m, .slice DM.d.sq DM.d.sn DM.d.sc, .bool M.st, .slice DM.bq M.nb DM.bc, .slice DM.cq M.nc DM.cc] 34)) w3.heap.size 34 #[.int .i64 DM.d.k, .int .i64 DM.d.f, .bool DM.d.neg, .slice DM.d.aq DM.d.an DM.d.ac, .slice DM.d.cq DM.d.cn DM.d.cc, .string DM.d.m, .slice DM.d.sq DM.d.sn DM.d.sc, .bool M.st, .slice DM.bq M.nb DM.bc, .slice DM.cq M.nc DM.cc]) := heap_alloc_new _ _
    go_upto_region 5 with fail
    clear x0 x1 x2 x3 x4 x5 x6 x7 x8 x9 hb3 hb4 B3 J3 J0 hb0
    generalize (w3.alloc (.cells #[.int .i64 DM.d.k, .int .i64 DM.d.f, .bool DM.d.neg, .slice DM.d.aq DM.d.an DM.d.ac, .slice DM.d.cq DM.d.cn DM.d.cc, .string DM.d.m, .slice DM.d.sq DM.d.sn DM.d.sc, .bool M.st, .slice DM.bq M.nb DM.bc, .slice DM.cq M.nc DM.cc] 34)) = W4 at *
    have y0 : W4.cell? ⟨w.heap.size + 1, 0, none⟩ = some (.int .i64 DC.d.k) := J4.out.cell 0
    have y1 : W4.cell? ⟨w.heap.size + 1, 1, none⟩ = some (.int .i64 DC.d.f) := J4.out.cell 1
    have y2 : W4.cell? ⟨w.heap.size + 1, 2, none⟩ = some (.bool DC.d.neg) := J4.out.cell 2
    have y3 : W4.cell? ⟨w.heap.size + 1, 3, none⟩ = some (.slice DC.d.aq DC.d.an DC.d.ac) := J4.out.cell 3
    have y4 : W4.cell? ⟨w.heap.size + 1, 4, none⟩ = some (.slice DC.d.cq DC.d.cn DC.d.cc) := J4.out.cell 4
    have y5 : W4.cell? ⟨w.heap.size + 1, 5, none⟩ = some (.string DC.d.m) := J4.out.cell 5
    have y6 : W4.cell? ⟨w.heap.size + 1, 6, none⟩ = some (.slice DC.d.sq DC.d.sn DC.d.sc) := J4.out.cell 6
    have y7 : W4.cell? ⟨w.heap.size + 1, 7, none⟩ = some (.bool C.st) := J4.out.cell 7
    have y8 : W4.cell? ⟨w.heap.size + 1, 8, none⟩ = some (.slice DC.bq C.nb DC.bc) := J4.out.cell 8
    have y9 : W4.cell? ⟨w.heap.size + 1, 9, none⟩ = some (.slice DC.cq C.nc DC.cc) := J4.out.cell 9
    have h1 := hv1.out W4 B4.out
    cases VC with
    | false =>
      go_wp2_with (go_at_call 10; with_reducible refine h1.mono ?_; rintro r w5 ⟨rfl, hb5⟩)
      go_ret2
      exact ⟨by rw [hZ2.out]; rfl, B4.out.trans (hb5.mono B4.out.size)⟩
    | true =>
      cases VM with
      | false =>
        go_wp2_with (first
          | (go_at_call 10; with_reducible refine h1.mono ?_; clear h1; rintro r w5 ⟨rfl, hb5⟩
             have B5 : Hid (Below w.heap.size w w5) := B4.out.trans (hb5.mono B4.out.size)
             have J5 : Hid (BlkI w5 (w.heap.size + 1) 34 #[.int .i64 DC.d.k, .int .i64 DC.d.f, .bool DC.d.neg, .slice DC.d.aq DC.d.an DC.d.ac, .slice DC.d.cq DC.d.cn DC.d.cc, .string DC.d.m, .slice DC.d.sq DC.d.sn DC.d.sc, .bool C.st, .slice DC.bq C.nb DC.bc, .slice DC.cq C.nc DC.cc]) := J4.out.below hb5
             have P5 : Hid (BlkI w5 w3.heap.size 34 #[.int .i64 DM.d.k, .int .i64 DM.d.f, .bool DM.d.neg, .slice DM.d.aq DM.d.an DM.d.ac, .slice DM.d.cq DM.d.cn DM.d.cc, .string DM.d.m, .slice DM.d.sq DM.d.sn DM.d.sc, .bool M.st, .slice DM.bq M.nb DM.bc, .slice DM.cq M.nc DM.cc]) := P4.out.below hb5
             have z0 : w5.cell? ⟨w3.heap.size, 0, none⟩ = some (.int .i64 DM.d.k) := P5.out.cell 0
             have z1 : w5.cell? ⟨w3.heap.size, 1, none⟩ = some (.int .i64 DM.d.f) := P5.out.cell 1
             have z2 : w5.cell? ⟨w3.heap.size, 2, none⟩ = some (.bool DM.d.neg) := P5.out.cell 2
             have z3 : w5.cell? ⟨w3.heap.size, 3, none⟩ = some (.slice DM.d.aq DM.d.an DM.d.ac) := P5.out.cell 3
             have z4 : w5.cell? ⟨w3.heap.size, 4, none⟩ = some (.slice DM.d.cq DM.d.cn DM.d.cc) := P5.out.cell 4
             have z5 : w5.cell? ⟨w3.heap.size, 5, none⟩ = some (.string DM.d.m) := P5.out.cell 5
             have z6 : w5.cell? ⟨w3.heap.size, 6, none⟩ = some (.slice DM.d.sq DM.d.sn DM.d.sc) := P5.out.cell 6
             have z7 : w5.cell? ⟨w3.heap.size, 7, none⟩ = some (.bool M.st) := P5.out.cell 7
             have z8 : w5.cell? ⟨w3.heap.size, 8, none⟩ = some (.slice DM.bq M.nb DM.bc) := P5.out.cell 8
             have z9 : w5.cell? ⟨w3.heap.size, 9, none⟩ = some (.slice DM.cq M.nc DM.cc) := P5.out.cell 9
             have h2 := hv2.out w5 B5.out
             clear hb5 y0 y1 y2 y3 y4 y5 y6 y7 y8 y9)
          | (go_at_call 10; with_reducible refine h2.mono ?_; rintro r w6 ⟨rfl, hb6⟩))
        go_ret2
        exact ⟨by rw [hZ2.out]; rfl, B5.out.trans (hb6.mono B5.out.size)⟩
      | true =>
        go_wp2_with (first
          | (go_at_call 10; with_reducible refine h1.mono ?_; clear h1; rintro r w5 ⟨rfl, hb5⟩
             have B5 : Hid (Below w.heap.size w w5) := B4.out.trans (hb5.mono B4.out.size)
             have J5 : Hid (BlkI w5 (w.heap.size + 1) 34 #[.int .i64 DC.d.k, .int .i64 DC.d.f, .bool DC.d.neg, .slice DC.d.aq DC.d.an DC.d.ac, .slice DC.d.cq DC.d.cn DC.d.cc, .string DC.d.m, .slice DC.d.sq DC.d.sn DC.d.sc, .bool C.st, .slice DC.bq C.nb DC.bc, .slice DC.cq C.nc DC.cc]) := J4.out.below hb5
             have P5 : Hid (BlkI w5 w3.heap.size 34 #[.int .i64 DM.d.k, .int .i64 DM.d.f, .bool DM.d.neg, .slice DM.d.aq DM.d.an DM.d.ac, .slice DM.d.cq DM.d.cn DM.d.cc, .string DM.d.m, .slice DM.d.sq DM.d.sn DM.d.sc, .bool M.st, .slice DM.bq M.nb DM.bc, .slice DM.cq M.nc DM.cc]) := P4.out.below hb5
             have z0 : w5.cell? ⟨w3.heap.size, 0, none⟩ = some (.int .i64 DM.d.k) := P5.out.cell 0
             have z1 : w5.cell? ⟨w3.heap.size, 1, none⟩ = some (.int .i64 DM.d.f) := P5.out.cell 1
             have z2 : w5.cell? ⟨w3.heap.size, 2, none⟩ = some (.bool DM.d.neg) := P5.out.cell 2
             have z3 : w5.cell? ⟨w3.heap.size, 3, none⟩ = some (.slice DM.d.aq DM.d.an DM.d.ac) := P5.out.cell 3
             have z4 : w5.cell? ⟨w3.heap.size, 4, none⟩ = some (.slice DM.d.cq DM.d.cn DM.d.cc) := P5.out.cell 4
             have z5 : w5.cell? ⟨w3.heap.size, 5, none⟩ = some (.string DM.d.m) := P5.out.cell 5
             have z6 : w5.cell? ⟨w3.heap.size, 6, none⟩ = some (.slice DM.d.sq DM.d.sn DM.d.sc) := P5.out.cell 6
             have z7 : w5.cell? ⟨w3.heap.size, 7, none⟩ = some (.bool M.st) := P5.out.cell 7
             have z8 : w5.cell? ⟨w3.heap.size, 8, none⟩ = some (.slice DM.bq M.nb DM.bc) := P5.out.cell 8
             have z9 : w5.cell? ⟨w3.heap.size, 9, none⟩ = some (.slice DM.cq M.nc DM.cc) := P5.out.cell 9
             have h2 := hv2.out w5 B5.out
             clear hb5 y0 y1 y2 y3 y4 y5 y6 y7 y8 y9)
          | (go_at_call 10; with_reducible refine h2.mono ?_; clear h2; rintro r w6 ⟨rfl, hb6⟩
             have B6 : Hid (Below w.heap.size w w6) := B5.out.trans (hb6.mono B5.out.size)
             have J6 : Hid (BlkI w6 (w.heap.size + 1) 34 #[.int .i64 DC.d.k, .int .i64 DC.d.f, .bool DC.d.neg, .slice DC.d.aq DC.d.an DC.d.ac, .slice DC.d.cq DC.d.cn DC.d.cc, .string DC.d.m, .slice DC.d.sq DC.d.sn DC.d.sc, .bool C.st, .slice DC.bq C.nb DC.bc, .slice DC.cq C.nc DC.cc]) := J5.out.below hb6
             have P6 : Hid (BlkI w6 w3.heap.size 34 #[.int .i64 DM.d.k, .int .i64 DM.d.f, .bool DM.d.neg, .slice DM.d.aq DM.d.an DM.d.ac, .slice DM.d.cq DM.d.cn DM.d.cc, .string DM.d.m, .slice DM.d.sq DM.d.sn DM.d.sc, .bool M.st, .slice DM.bq M.nb DM.bc, .slice DM.cq M.nc DM.cc]) := P5.out.below hb6
             have u0 : w6.cell? ⟨w3.heap.size, 0, none⟩ = some (.int .i64 DM.d.k) := P6.out.cell 0
             have v0 : w6.cell? ⟨w.heap.size + 1, 0, none⟩ = some (.int .i64 DC.d.k) := J6.out.cell 0
             have u1 : w6.cell? ⟨w3.heap.size, 1, none⟩ = some (.int .i64 DM.d.f) := P6.out.cell 1
             have v1 : w6.cell? ⟨w.heap.size + 1, 1, none⟩ = some (.int .i64 DC.d.f) := J6.out.cell 1
             have u2 : w6.cell? ⟨w3.heap.size, 2, none⟩ = some (.bool DM.d.neg) := P6.out.cell 2
             have v2 : w6.cell? ⟨w.heap.size + 1, 2, none⟩ = some (.bool DC.d.neg) := J6.out.cell 2
             have u3 : w6.cell? ⟨w3.heap.size, 3, none⟩ = some (.slice DM.d.aq DM.d.an DM.d.ac) := P6.out.cell 3
             have v3 : w6.cell? ⟨w.heap.size + 1, 3, none⟩ = some (.slice DC.d.aq DC.d.an DC.d.ac) := J6.out.cell 3
             have u4 : w6.cell? ⟨w3.heap.size, 4, none⟩ = some (.slice DM.d.cq DM.d.cn DM.d.cc) := P6.out.cell 4
             have v4 : w6.cell? ⟨w.heap.size + 1, 4, none⟩ = some (.slice DC.d.cq DC.d.cn DC.d.cc) := J6.out.cell 4
             have u5 : w6.cell? ⟨w3.heap.size, 5, none⟩ = some (.string DM.d.m) := P6.out.cell 5
             have v5 : w6.cell? ⟨w.heap.size + 1, 5, none⟩ = some (.string DC.d.m) := J6.out.cell 5
             have u6 : w6.cell? ⟨w3.heap.size, 6, none⟩ = some (.slice DM.d.sq DM.d.sn DM.d.sc) := P6.out.cell 6
             have v6 : w6.cell? ⟨w.heap.size + 1, 6, none⟩ = some (.slice DC.d.sq DC.d.sn DC.d.sc) := J6.out.cell 6
             have u7 : w6.cell? ⟨w3.heap.size, 7, none⟩ = some (.bool M.st) := P6.out.cell 7
             have v7 : w6.cell? ⟨w.heap.size + 1, 7, none⟩ = some (.bool C.st) := J6.out.cell 7
             have u8 : w6.cell? ⟨w3.heap.size, 8, none⟩ = some (.slice DM.bq M.nb DM.bc) := P6.out.cell 8
             have v8 : w6.cell? ⟨w.heap.size + 1, 8, none⟩ = some (.slice DC.bq C.nb DC.bc) := J6.out.cell 8
             have u9 : w6.cell? ⟨w3.heap.size, 9, none⟩ = some (.slice DM.cq M.nc DM.cc) := P6.out.cell 9
             have v9 : w6.cell? ⟨w.heap.size + 1, 9, none⟩ = some (.slice DC.cq C.nc DC.cc) := J6.out.cell 9
             have h3 := hcv.out (by simp) (by simp) w6 B6.out
             clear hb6 z0 z1 z2 z3 z4 z5 z6 z7 z8 z9)
          | (go_at_call 11; with_reducible refine h3.mono ?_; rintro r w7 ⟨rfl, hb7⟩))
        go_ret2
        exact ⟨by rw [hZ2.out]; rfl, B6.out.trans (hb7.mono B6.out.size)⟩
end Go.Proofs.YtaonejnicgbifaaGreatDoor
namespace Go.Proofs.YtaonejnicgbifaaGreatDoor
open Go Go.RowKit

theorem SiOk.nn {w : World} {s : Si} {d : Sv} (h : SiOk w s d) : s.c.Nn := ⟨val_nonneg h.1.1, val_nonneg h.2.1.1, val_nonneg h.2.2.1.1, val_nonneg h.2.2.2.1.1⟩
end Go.Proofs.YtaonejnicgbifaaGreatDoor
