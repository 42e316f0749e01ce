import Derived.Test.YtaonejnicgbifaaGreatDoorPk32
namespace Go.Proofs.YtaonejnicgbifaaGreatDoor
open Go Go.RowKit

/-- LibraryReflexive returns true. -/
theorem reflexive_law_ok {w : World} {q : Option Addr} {n : Nat} (c : Nat) {L : List En} {Cs : Nat → Cl} (hL : LibOk w q n L) (hCl : LibCl w L Cs) (k : Ky) {C : Cl} {DC : Cd} (hC : ClOk w C DC) (hT : Tb w)
    (hA : ∀ z, Below w.heap.size w z → Calls Tryz.prog 7 #[] z fun e w' => e = .returned (.bool true) ∧ Below z.heap.size z w') :
    Calls Tryz.prog 4 #[.slice q n c, .agg #[.string k.1, .int .i64 k.2], .agg (C.cells DC).toArray] w fun e w' => e = .returned (.bool true) ∧ Below w.heap.size w w' := by
  have h8 := fun z (hz : Below w.heap.size w z) => find_ok c (hL.below hz) k
  have h5 := fun z (hz : Below w.heap.size w z) => covers5_ok c (hL.below hz) (hCl.below hz) k (hC.below hz) (hT.below hz)
  have hP := fun z (hz : Below w.heap.size w z) (C' : Cl) (D' : Cd) (h : ClOk z C' D') => covers5_ok c (hL.below hz) (hCl.below hz) k h (hT.below hz)
  unfold cvV at h5 hP
  unfold fndV at h8
  obtain ⟨c1, c2, c3, c4, c5⟩ := hC
  obtain ⟨cd, hcd⟩ : ∃ cd : Nat → Nd, C.nc = 0 ∨ ∃ b o, DC.cq = some ⟨b, o, none⟩ ∧ b < w.heap.size ∧ ∀ i, i < C.nc → w.rangeAt b (o + i * 8) ((C.cs i).cells (cd i)) ∧ ExOk w (C.cs i).x (cd i) := by
    rcases c5 with h | ⟨b, o, e, hb, ds, hds⟩
    · exact ⟨default, .inl h⟩
    · exact ⟨ds, .inr ⟨b, o, e, hb, hds⟩⟩
  have eC : ∀ i, i < C.nc → ExOk w (C.cs i).x (cd i) := fun i hi => by
    obtain ⟨_, _, _, _, h⟩ := hcd.resolve_left (by omega)
    exact (h i hi).2
  have hcd' : C.nc = 0 ∨ ∃ b o, DC.cq = some ⟨b, o, none⟩ ∧ b < w.heap.size ∧ ∀ i, i < C.nc → w.rangeAt b (o + i * 8) ((C.cs i).cells (cd i)) := hcd.imp id fun ⟨b, o, e, hb, h⟩ => ⟨b, o, e, hb, fun i hi => (h i hi).1⟩
  cases hi : ixK (L.map (·.k)) k with
  | none =>
    rw [hi] at h8
    simp only [hi] at h5
    exact refl_none h8 h5 (.inr (.inr rfl)) (fun h => by cases h) hA c3 hcd' eC c1
  | some i =>
    rw [hi] at h8
    simp only [hi] at h5 hP
    have hget := ixK_get hi
    obtain ⟨e, he, hek⟩ : ∃ e, L[i]? = some e ∧ e.k = k := by
      rw [List.getElem?_map, Option.map_eq_some_iff] at hget
      exact hget
    obtain ⟨g1, g2, g3, g4⟩ := hL
    have hin : i < n := by rw [← g1]; exact (List.getElem?_eq_some_iff.1 he).1
    obtain ⟨b, o, rfl, hbl, hr33⟩ := g4.resolve_left (by omega)
    have hr33 := hr33 i e he
    obtain ⟨Ds, hDs⟩ := hCl
    have hEn := hDs i e he
    have hcl : (∀ z, Below w.heap.size w z → ∀ j v, ((Cs i).cells (Ds i))[j]? = some v → z.cell? ⟨b, o + i * 33 + 2 + j, none⟩ = some v) := fun z hz => En.claim_cells (hEn.below hz) (rangeAt_below hr33 hz hbl)
    have hM : ClOk w (Cs i) (Ds i) := by obtain ⟨_, _, _, h⟩ := hEn; exact h
    have hMM := fun z (hz : Below w.heap.size w z) => hP z hz _ _ (hM.below hz)
    clear hDs hEn hr33
    generalize Cs i = M at *
    generalize Ds i = DM at *
    have hMe : ∃ own em, (if (M.vld && M.vld) = true then Value.tuple #[.bool (covS M M), .int .i64 0] else .tuple #[.bool false, .int .i64 60]) = .tuple #[.bool own, .int .i64 em] ∧ ((own = true ∧ em = 0) ∨ (own = false ∧ em = 60)) := by
      cases hv : M.vld with
      | true => exact ⟨true, 0, by rw [covS_refl hM hv]; rfl, .inl ⟨rfl, rfl⟩⟩
      | false => exact ⟨false, 60, rfl, .inr ⟨rfl, rfl⟩⟩
    obtain ⟨own, em, hme, hme2⟩ := hMe
    simp only [hme] at hMM
    by_cases hv : (C.vld && M.vld) = true
    · simp only [if_pos hv] at h5
      refine refl_some h8 hin hcl hMM hme2 h5 (.inl rfl) (fun ht _ hn z q' c' hz hq => ?_) hA c3 hcd' eC c1
      simp only [Bool.and_eq_true] at hv
      have h := hP z hz C.plus ⟨DC.d, DC.bq, DC.bc, q', c'⟩ ⟨c1.below hz, c2, by show C.nc + 1 ≤ _; omega, c4.below hz, hq⟩
      rw [Cl.plus_vld hv.1 hn, hv.2, Cl.plus_cov ht] at h
      exact h
    · simp only [if_neg hv] at h5
      exact refl_some h8 hin hcl hMM hme2 h5 (.inr (.inl rfl)) (fun h => by cases h) hA c3 hcd' eC c1
end Go.Proofs.YtaonejnicgbifaaGreatDoor
