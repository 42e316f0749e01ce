/-
  From sealed calls to the kit's rows: what grew is grown, and a session over a world whose tables are laid.
-/
import Derived.Test.YtbjhjladdkbnmaaGreatDoorGxTab
import Derived.RowKit3
import Derived.Lib.LaidTab
namespace Go.Proofs.YtbjhjladdkbnmaaGreatDoor.Gx
open Go

theorem Grew.grown {w w' : World} (h : Grew w w') : RowKit.Grown w w' := by
  refine ⟨⟨h.aux.2.1, h.aux.2.2.1, fun i hi => ?_⟩, h.aux.2.2.2, h.size⟩
  rw [h.keep i hi]
  split
  · rename_i c t fr c' t' fr' h1 h2
    rw [h1] at h2
    simp only [Option.some.injEq, Obj.cells.injEq] at h2
    obtain ⟨rfl, rfl, rfl⟩ := h2
    exact ⟨rfl, rfl, rfl, fun _ _ => rfl⟩
  · rename_i es cl es' cl' h1 h2
    rw [h1] at h2
    simp only [Option.some.injEq, Obj.map.injEq] at h2
    exact .inr ⟨h2.1.symm, h2.2.symm⟩
  · rfl

/-- The session that begins a call: only the tables are known. -/
theorem sess0 {E : Env} {w : World} (hg : ∀ g cs, E.G g = some cs → VRel (fun _ => False) w phi0 (.iptr cs) (.pointer (some ⟨g, 0, none⟩))) : Sess E (fun _ => False) phi0 [] w where
  blk b ab cb co h _ := by simp at h
  inj b b' ab ab' cb co co' h := by simp at h
  lt b cb co h := by simp [phi0] at h
  glob g cs h := by
    have : Bd (fun _ => False) phi0 ([] : St) = fun _ => False := by
      funext cb; simp only [Bd, eq_iff_iff, false_or, iff_false]; exact own_nil _ _
    rw [this]; exact hg g cs h
  fout cb h := h.elim

theorem bd0 : Bd (fun _ => False) phi0 ([] : St) = fun _ => False := by
  funext cb; simp only [Bd, eq_iff_iff, false_or, iff_false]; exact own_nil _ _

/-- A table of integers. -/
theorem tab_rel {P : Program} {w : World} {name : String} {k : IntKind} {zs : List Int} {g : Nat} (h : Lib.TabIs P w name k zs) (hg : P.globalNamed name = some g) (hne : zs ≠ []) :
    VRel (fun _ => False) w phi0 (.iptr (zs.map fun z => .int k z)) (.pointer (some ⟨g, 0, none⟩)) := by
  have hc : ∀ i, i < zs.length → w.cell? ⟨g, i, none⟩ = some (.int k (zs.getD i 0)) := fun i hi => h.cell hg i hi
  have h0 : 0 < zs.length := List.length_pos_iff.2 hne
  refine .iptr (fun j => .int k (zs.getD j 0)) (fun h => h) (lt_of_cell? (hc 0 h0)) (fun j c hj => ?_) (fun j c hj => ?_)
  · have : j < zs.length := by
      rcases Nat.lt_or_ge j zs.length with hl | hl
      · exact hl
      · rw [List.getElem?_eq_none (by simpa using hl)] at hj; cases hj
    simpa using hc j this
  · simp only [List.getElem?_map, Option.map_eq_some_iff] at hj
    obtain ⟨z, hz, rfl⟩ := hj
    have : zs.getD j 0 = z := by simp [List.getD, hz]
    rw [this]; exact .int k z

/-- A call that comes to 'true'. -/
theorem SealOk.true_calls {E : Env} {f : FuncId} {args : List AV} (h : SealOk E f args (.ret (.bool true))) {w : World} {us : Array Value}
    (hg : ∀ g cs, E.G g = some cs → VRel (fun _ => False) w phi0 (.iptr cs) (.pointer (some ⟨g, 0, none⟩))) (hA : LRel (fun _ => False) w phi0 args us.toList) :
    Calls E.P f us w fun e w' => e = .returned (.bool true) ∧ Grew w w' := by
  refine (h.calls (sess0 hg) (by rw [bd0]; exact hA)).mono fun e w' ⟨⟨u, he, hu⟩, hgr⟩ => ⟨?_, hgr⟩
  cases hu
  exact he
end Go.Proofs.YtbjhjladdkbnmaaGreatDoor.Gx
