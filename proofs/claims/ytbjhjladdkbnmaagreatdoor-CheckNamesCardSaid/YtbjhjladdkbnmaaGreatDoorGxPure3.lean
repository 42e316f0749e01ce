/-
  Soundness of the operations that leave the memory as it is (3): composite values, operators, interfaces.
-/
import Derived.Test.YtbjhjladdkbnmaaGreatDoorGxPure2
namespace Go.Proofs.YtbjhjladdkbnmaaGreatDoor.Gx
open Go

section
variable {E : Env} {F : Nat → Prop} {φ : Phi} {st : St} {w : World} {B : Nat → Prop}

/-! ### Composite values -/
theorem setAll_sound (off : Nat) : ∀ {vs : List AV} {us : List Value} {cs : List AV} {cells : Array Value} (i : Nat), LRel B w φ vs us → LRel B w φ cs cells.toList →
    LRel B w φ (setAll cs (off + i) vs) ((us.zipIdx i).foldl (fun cs (x : Value × Nat) => cs.setIfInBounds (off + x.2) x.1) cells).toList
  | [], us, cs, cells, i, h, hc => by rw [h.inv_nil]; simpa [setAll] using hc
  | x :: vs, us, cs, cells, i, h, hc => by
    obtain ⟨u, us', rfl, h1, h2⟩ := h.inv_cons
    simp only [setAll, List.zipIdx_cons, List.foldl_cons]
    have h3 : LRel B w φ (upd cs (off + i) x) (cells.setIfInBounds (off + i) u).toList := by
      rw [upd_eq, Array.toList_setIfInBounds]
      exact hc.set (off + i) h1
    have := setAll_sound off (i + 1) h2 h3
    rwa [← Nat.add_assoc] at this

theorem setAll_length : ∀ (vs cs : List AV) (off : Nat), (setAll cs off vs).length = cs.length
  | [], cs, off => rfl
  | v :: vs, cs, off => by simp [setAll, setAll_length vs, upd_eq]

theorem fillE_sound {place : Nat → Option (Nat × Nat)} : ∀ {parts : List (Nat × AV)} {uparts : List (Nat × Value)} {cs r : List AV} {cells : Array Value}, fillE place cs parts = some r →
    PRel B w φ parts uparts → LRel B w φ cs cells.toList → ∃ res, Instr.fill place cells uparts = some res ∧ LRel B w φ r res.toList
  | [], uparts, cs, r, cells, h, hp, hc => by
    have : uparts = [] := by have := hp.1; simp at this; exact this
    subst this
    simp [fillE] at h; subst h
    exact ⟨cells, rfl, hc⟩
  | (i, v) :: parts, uparts, cs, r, cells, h, hp, hc => by
    cases uparts with
    | nil => have := hp.1; simp at this
    | cons p us =>
      obtain ⟨j, u⟩ := p
      have e1 := hp.1
      simp at e1
      obtain ⟨rfl, e2⟩ := e1
      have hp2 := hp.2
      simp only [List.map_cons] at hp2
      obtain ⟨h1, h2⟩ := hp2.of_cons
      unfold fillE at h
      split at h
      · cases h
      · rename_i off size hpl
        split at h
        · rename_i hcond
          simp at hcond
          obtain ⟨⟨c1, c2⟩, c3⟩ := hcond
          have hcells := h1.cells (ne_unk (by simpa using c3))
          have hlen : u.cells.size = size := by have := hcells.1; simp at this; omega
          have hlc : cells.size = cs.length := by have := hc.1; simp at this; omega
          have h3 : LRel B w φ (setAll cs off (cellsOf v)) ((u.cells.toList.zipIdx 0).foldl (fun cs (x : Value × Nat) => cs.setIfInBounds (off + x.2) x.1) cells).toList :=
            setAll_sound off 0 hcells hc
          obtain ⟨res, h4, h5⟩ := fillE_sound h ⟨by simpa using e2, h2⟩ h3
          refine ⟨res, ?_, h5⟩
          unfold Instr.fill
          rw [hpl]
          have hne : (u.cells.size ≠ size || decide (off + u.cells.size > cells.size)) = false := by simp [hlen]; omega
          simp only [hne]
          rw [← h4]
          congr 1
          rw [← Array.foldl_toList]
          simp
        · cases h

theorem placesOf_run {P : Program} {w : World} : ∀ {fs : List Field} {l : List (Nat × Nat)}, placesOf P fs = some l →
    (fs.mapM fun f => (do pure (f.offset, ← sizeOf f.type) : Sem (Nat × Nat))).run P w = .ok l w
  | [], l, h => by simp [placesOf] at h; subst h; simp
  | f :: fs, l, h => by
    unfold placesOf at h
    split at h
    · rename_i s l' h1 h2
      simp at h; subst h
      have := placesOf_run (w := w) h2
      simp [List.mapM_cons, run_size h1] at this ⊢
      simp [this]
    · cases h

theorem buildE_sound {t : TypeId} {parts : List (Nat × AV)} {uparts : List (Nat × Value)} {v : AV} (h : buildE E.P t parts = some v) (hp : PRel B w φ parts uparts) :
    ∃ r, (Instr.build t uparts.toArray).run E.P w = .ok r w ∧ VRel B w φ v r := by
  unfold buildE at h
  split at h
  · rename_i z fs hz hu
    split at h
    · rename_i l hl
      simp at h
      obtain ⟨cs, hf, rfl⟩ := h
      obtain ⟨uz, hr, hz2⟩ := run_zero (w := w) hz
      obtain ⟨res, h1, h2⟩ := fillE_sound (B := B) (w := w) (φ := φ) (cells := uz.cells) hf hp ((ofV_rel hz2).cells (ofV_ne hz2))
      refine ⟨.agg res, ?_, VRel.of_list h2⟩
      have h3 : Instr.fill (fun i => l[i]?) uz.cells uparts = some res := by
        rw [← h1]; congr 1; funext i; simp [get?_eq]
      have h4 := placesOf_run (w := w) hl
      simp [Instr.build, hr, run_und hu, Array.mapM_eq_mapM_toList] at h4 ⊢
      simp [h4, h3]
    · cases h
  · rename_i z n e hz hu
    split at h
    · rename_i s hs
      simp at h
      obtain ⟨cs, hf, rfl⟩ := h
      obtain ⟨uz, hr, hz2⟩ := run_zero (w := w) hz
      obtain ⟨res, h1, h2⟩ := fillE_sound (B := B) (w := w) (φ := φ) (cells := uz.cells) hf hp ((ofV_rel hz2).cells (ofV_ne hz2))
      exact ⟨.agg res, by simp [Instr.build, hr, run_und hu, run_size hs, h1], VRel.of_list h2⟩
    · cases h
  · cases h

/-! ### Operators -/
theorem ltI_eq (a b : Int) : ltI a b = decide (a < b) := by
  unfold ltI
  split
  · rename_i a b; rw [Bool.eq_iff_iff]; simp
  · rename_i a b; simp; omega
  · rename_i a b; simp; omega
  · rename_i a b; rw [Bool.eq_iff_iff]; simp; omega

theorem eqI_eq (a b : Int) : eqI a b = (a == b) := by
  unfold eqI
  split
  · rename_i a b; rw [Bool.eq_iff_iff]; simp; omega
  · rename_i a b; rw [Bool.eq_iff_iff]; simp
  · rename_i h1 h2
    cases a <;> cases b
    · exact absurd rfl (h1 _ _ rfl)
    · rw [Bool.eq_iff_iff]; simp
    · rw [Bool.eq_iff_iff]; simp
    · exact absurd rfl (h2 _ _ rfl)

theorem wrapS_eq (k : IntKind) (lim : Nat) (h : ∀ n : Int, -(lim : Int) ≤ n → n < lim → k.wrap n = n) (n : Int) : wrapS k lim n = k.wrap n := by
  unfold wrapS
  split
  · rename_i m
    split
    · rename_i hb
      have hb : m < lim := by simpa [Nat.blt_eq] using hb
      exact (h _ (by simp only [Int.ofNat_eq_natCast]; omega) (by simp only [Int.ofNat_eq_natCast]; omega)).symm
    · rfl
  · rename_i m
    split
    · rename_i hb
      have hb : m < lim := by simpa [Nat.blt_eq] using hb
      exact (h _ (by omega) (by omega)).symm
    · rfl

theorem wrapU_eq (k : IntKind) (lim : Nat) (h : ∀ m : Nat, k.wrap (m : Int) = ((m % lim : Nat) : Int)) (n : Int) : wrapU k lim n = k.wrap n := by
  unfold wrapU
  split
  · rename_i m; exact (h m).symm
  · rfl

theorem wrapF_eq (k : IntKind) (n : Int) : wrapF k n = k.wrap n := by
  cases k
  · exact wrapS_eq .i8 128 (fun n h1 h2 => by simp [IntKind.wrap, IntKind.signed, IntKind.bits]; split <;> omega) n
  · exact wrapS_eq .i16 32768 (fun n h1 h2 => by simp [IntKind.wrap, IntKind.signed, IntKind.bits]; split <;> omega) n
  · exact wrapS_eq .i32 2147483648 (fun n h1 h2 => by simp [IntKind.wrap, IntKind.signed, IntKind.bits]; split <;> omega) n
  · exact wrapS_eq .i64 9223372036854775808 (fun n h1 h2 => by simp [IntKind.wrap, IntKind.signed, IntKind.bits]; split <;> omega) n
  · exact wrapU_eq .u8 256 (fun m => by simp [IntKind.wrap, IntKind.signed, IntKind.bits]) n
  · exact wrapU_eq .u16 65536 (fun m => by simp [IntKind.wrap, IntKind.signed, IntKind.bits]) n
  · exact wrapU_eq .u32 4294967296 (fun m => by simp [IntKind.wrap, IntKind.signed, IntKind.bits]) n
  · exact wrapU_eq .u64 18446744073709551616 (fun m => by simp [IntKind.wrap, IntKind.signed, IntKind.bits]) n

theorem eqGuard_run {P : Program} {op : BinOp} {t : TypeId} {x y : Operand} {a b : Value} (h : ∀ c d, ¬(a = .agg c ∧ b = .agg d)) (h' : ¬(a = .nilIface ∧ b = .nilIface)) :
    (eqGuard op t x y a b).run P w = .ok () w := by
  unfold eqGuard
  cases op <;> try rfl
  all_goals
    cases a <;> first
      | rfl
      | (cases b <;> first | rfl | exact absurd ⟨rfl, rfl⟩ h' | exact absurd ⟨rfl, rfl⟩ (h _ _))

theorem intBin_sound {P : Program} {op : BinOp} {t : TypeId} {k : IntKind} {a b : Int} {v : AV} (h : intBin op k a b = some v) :
    ∃ r, (binOp op t (.int k a) (.int k b)).run P w = .ok r w ∧ VRel B w φ v r := by
  cases op <;> simp [intBin] at h <;> subst h
  all_goals simp only [binOp, ne_eq, not_true_eq_false, if_false, Op.intArith, Op.intCmp, Sem.run_pure]
  all_goals refine ⟨_, rfl, ?_⟩
  all_goals first
    | (rw [wrapF_eq]; exact .int _ _)
    | (rw [ltI_eq]; exact .bool _)
    | (rw [eqI_eq]; exact .bool _)
    | skip
  · rw [ltI_eq]
    have : (!decide (b < a)) = decide (a ≤ b) := by rw [Bool.eq_iff_iff]; simp
    rw [this]; exact .bool _
  · rw [ltI_eq]
    have : (!decide (a < b)) = decide (a ≥ b) := by rw [Bool.eq_iff_iff]; simp
    rw [this]; exact .bool _

end
end Go.Proofs.YtbjhjladdkbnmaaGreatDoor.Gx
