/-
  What an operation depends on: its operands; and, for some, memory.
-/
import Derived.Test.YtbjhjladdkbnmaaGreatDoorGxReg
namespace Go.Proofs.YtbjhjladdkbnmaaGreatDoor.Gx
open Go

/-! ### Equality of abstract values -/
theorem capEq_eq {a b : Cap} (h : capEq a b = true) : a = b := by
  cases a <;> cases b <;> simp [capEq] at h <;> simp [h]

mutual
theorem avEq_eq : ∀ (a b : AV), avEq a b = true → a = b
  | .bool a, b, h => by cases b <;> simp [avEq] at h; simp [h]
  | .int j a, b, h => by cases b <;> simp [avEq] at h; simp [h]
  | .str a, b, h => by cases b <;> simp [avEq] at h; simp [h]
  | .nilptr, b, h => by cases b <;> simp [avEq] at h; rfl
  | .ptr a o, b, h => by cases b <;> simp [avEq] at h; simp [h]
  | .iptr a, b, h => by cases b <;> simp [avEq] at h; rw [avsEq_eq a _ h]
  | .nilsl, b, h => by cases b <;> simp [avEq] at h; rfl
  | .sl a o l c, b, h => by
    cases b <;> simp [avEq] at h
    obtain ⟨⟨⟨rfl, rfl⟩, rfl⟩, hc⟩ := h
    rw [capEq_eq hc]
  | .isl l a c, b, h => by
    cases b <;> simp [avEq] at h
    obtain ⟨⟨rfl, rfl⟩, ha⟩ := h
    rw [avsEq_eq a _ ha]
  | .nilmap, b, h => by cases b <;> simp [avEq] at h; rfl
  | .map a, b, h => by cases b <;> simp [avEq] at h; simp [h]
  | .func f a c, b, h => by
    cases b <;> simp [avEq] at h
    obtain ⟨⟨rfl, ha⟩, hc⟩ := h
    rw [avsEq_eq a _ ha, avsEq_eq c _ hc]
  | .yld a, b, h => by cases b <;> simp [avEq] at h; simp [h]
  | .nilfn, b, h => by cases b <;> simp [avEq] at h; rfl
  | .iface t a, b, h => by
    cases b <;> simp [avEq] at h
    obtain ⟨rfl, ha⟩ := h
    rw [avEq_eq a _ ha]
  | .nilif, b, h => by cases b <;> simp [avEq] at h; rfl
  | .agg a, b, h => by cases b <;> simp [avEq] at h; rw [avsEq_eq a _ h]
  | .tup a, b, h => by cases b <;> simp [avEq] at h; rw [avsEq_eq a _ h]
  | .unk, b, h => by cases b <;> simp [avEq] at h; rfl
  | .oint k lo hi, b, h => by cases b <;> simp [avEq] at h; obtain ⟨⟨rfl, rfl⟩, rfl⟩ := h; rfl
  | .ostr a, b, h => by cases b <;> simp [avEq] at h; rw [h]
theorem avsEq_eq : ∀ (a b : List AV), avsEq a b = true → a = b
  | [], b, h => by cases b <;> simp [avsEq] at h; rfl
  | x :: l, b, h => by
    cases b <;> simp [avsEq] at h
    rw [avEq_eq x _ h.1, avsEq_eq l _ h.2]
end

theorem abSame_eq {a b : AB} (h : abSame a b = true) : a = b := by
  unfold abSame at h
  split at h
  · rw [avsEq_eq _ _ h]
  · rfl
  · cases h

/-! ### Operands -/
/-- Two frames agree on an operand. -/
def Agr (fr fr' : Fr) (x : Operand) : Prop := ∀ t, x = .tmp t → nth fr.tm t = nth fr'.tm t

section
variable {E : Env} {fr fr' : Fr}

theorem ev_congr {x : Operand} (h : Agr fr fr' x) : ev E fr x = ev E fr' x := by
  cases x with
  | tmp t => simp [ev, h t rfl]
  | _ => rfl

theorem evs_congr : ∀ {xs : List Operand}, (∀ x ∈ xs, Agr fr fr' x) → evs E fr xs = evs E fr' xs
  | [], _ => rfl
  | x :: xs, h => by unfold evs; rw [ev_congr (h x (by simp)), evs_congr (fun y hy => h y (by simp [hy]))]

theorem evo_congr {x : Option Operand} (h : ∀ y ∈ x, Agr fr fr' y) : evo E fr x = evo E fr' x := by
  cases x with
  | none => rfl
  | some x => simp [evo, ev_congr (h x rfl)]

theorem evp_congr : ∀ {xs : List (Nat × Operand)}, (∀ p ∈ xs, Agr fr fr' p.2) → evp E fr xs = evp E fr' xs
  | [], _ => rfl
  | (i, x) :: xs, h => by unfold evp; rw [ev_congr (h (i, x) (by simp)), evp_congr (fun y hy => h y (by simp [hy]))]

theorem callPure_congr {c : Call} {st : St} (h : ∀ x ∈ (Op.call c).operands, Agr fr fr' x) : callPure c E fr st = callPure c E fr' st := by
  obtain ⟨callee, args, ts⟩ := c
  have ha : ∀ x ∈ args.toList, Agr fr fr' x := fun x hx => h x (by simp [Op.operands, Call.operands]; right; simpa using hx)
  unfold callPure
  cases callee with
  | builtin b => cases b <;> simp only [builtinPure, lenF, minF, maxF, noneF, evs_congr ha]
  | _ => rfl

theorem pureOp_congr {op : Op} {st : St} (h : ∀ x ∈ op.operands, Agr fr fr' x) : pureOp op E fr st = pureOp op E fr' st := by
  cases op <;> simp only [pureOp, noneF]
  case move x => exact ev_congr (h x (by simp [Op.operands]))
  case assign x => exact ev_congr (h x (by simp [Op.operands]))
  case pick c a b => simp only [pickF, ev_congr (h c (by simp [Op.operands])), ev_congr (h a (by simp [Op.operands])), ev_congr (h b (by simp [Op.operands]))]
  case build t parts =>
    have hp : ∀ p ∈ parts.toList, Agr fr fr' p.2 := fun p hp => h p.2 (by simp [Op.operands]; exact ⟨p.1, by simpa using hp⟩)
    simp only [buildF, evp_congr hp]
  case load t a => simp only [loadF, ev_congr (h a (by simp [Op.operands]))]
  case nilCheck x => simp only [nilF, ev_congr (h x (by simp [Op.operands]))]
  case binOp op t x y yt => simp only [binF, ev_congr (h x (by simp [Op.operands])), ev_congr (h y (by simp [Op.operands]))]
  case unOp op t x => simp only [unF, ev_congr (h x (by simp [Op.operands]))]
  case convert s d x => simp only [convF, ev_congr (h x (by simp [Op.operands]))]
  case makeInterface t x => simp only [mkifF, ev_congr (h x (by simp [Op.operands]))]
  case makeFunc fn a c =>
    have ha : ∀ x ∈ a.toList, Agr fr fr' x := fun x hx => h x (by simp [Op.operands]; left; simpa using hx)
    have hc : ∀ x ∈ c.toList, Agr fr fr' x := fun x hx => h x (by simp [Op.operands]; right; simpa using hx)
    simp only [mkfnF, evs_congr ha, evs_congr hc]
  case slice t x lo hi mx =>
    have h1 : ∀ y ∈ lo, Agr fr fr' y := fun y hy => h y (by simp [Op.operands]; simp at hy; simp [hy])
    have h2 : ∀ y ∈ hi, Agr fr fr' y := fun y hy => h y (by simp [Op.operands]; simp at hy; simp [hy])
    have h3 : ∀ y ∈ mx, Agr fr fr' y := fun y hy => h y (by simp [Op.operands]; simp at hy; simp [hy])
    simp only [sliceF, ev_congr (h x (by simp [Op.operands])), evo_congr h1, evo_congr h2, evo_congr h3]
  case fieldAddr t x f => simp only [faddrF, ev_congr (h x (by simp [Op.operands]))]
  case field t x f => simp only [fieldF, ev_congr (h x (by simp [Op.operands]))]
  case indexAddr t x i => simp only [iaddrF, ev_congr (h x (by simp [Op.operands])), ev_congr (h i (by simp [Op.operands]))]
  case index t x i => simp only [indexF, ev_congr (h x (by simp [Op.operands])), ev_congr (h i (by simp [Op.operands]))]
  case lookup t x i ok => simp only [lookupF, ev_congr (h x (by simp [Op.operands])), ev_congr (h i (by simp [Op.operands]))]
  case extract t i => simp only [extractF, ev_congr (h t (by simp [Op.operands]))]
  case typeAssert x xT aT ok => simp only [assertF, ev_congr (h x (by simp [Op.operands]))]
  case call c => exact callPure_congr h

theorem allocOp_congr {op : Op} (h : ∀ x ∈ op.operands, Agr fr fr' x) : allocOp op E fr = allocOp op E fr' := by
  cases op <;> simp only [allocOp, noneA]
  case alloc t => rfl
  case box t x => simp only [boxF, ev_congr (h x (by simp [Op.operands]))]
  case buildSlice t len parts =>
    have hp : ∀ p ∈ parts.toList, Agr fr fr' p.2 := fun p hp => h p.2 (by simp [Op.operands]; exact ⟨p.1, by simpa using hp⟩)
    simp only [bslF, evp_congr hp]
  case makeSlice t l c => simp only [mslF, ev_congr (h l (by simp [Op.operands])), ev_congr (h c (by simp [Op.operands]))]
  case makeMap t r => rfl

theorem effOp_congr {op : Op} {cal : Cal} {st : St} (h : ∀ x ∈ op.operands, Agr fr fr' x) : effOp op E cal fr st = effOp op E cal fr' st := by
  cases op <;> simp only [effOp, noneE]
  case store t a v => simp only [storeF, ev_congr (h a (by simp [Op.operands])), ev_congr (h v (by simp [Op.operands]))]
  case call c =>
    obtain ⟨callee, args, ts⟩ := c
    have ha : ∀ x ∈ args.toList, Agr fr fr' x := fun x hx => h x (by simp [Op.operands, Call.operands]; right; simpa using hx)
    unfold callEff
    cases callee with
    | value f => simp only [callVF, ev_congr (h f (by simp [Op.operands, Call.operands])), evs_congr ha]
    | invoke r m => rfl
    | builtin b =>
      have h0 : ∀ x, args[0]? = some x → Agr fr fr' x := fun x hx => ha x (by have := Array.mem_of_getElem? hx; simpa using this)
      cases b <;> simp only [builtinEff, appF, copyF, recF, noneE, evs_congr ha]
      unfold panF
      cases hx : args[0]? with
      | none => rfl
      | some x => simp only [ev_congr (h0 x hx)]
  case panic x => simp only [panF, ev_congr (h x (by simp [Op.operands]))]
  case mapUpdate t m k v => simp only [mapUpF, ev_congr (h m (by simp [Op.operands])), ev_congr (h k (by simp [Op.operands])), ev_congr (h v (by simp [Op.operands]))]
  case insert t m k v => simp only [mapUpF, ev_congr (h m (by simp [Op.operands])), ev_congr (h k (by simp [Op.operands])), ev_congr (h v (by simp [Op.operands]))]
  case range t x => simp only [rangeOpF, ev_congr (h x (by simp [Op.operands]))]
  case next x s => simp only [nextF, ev_congr (h x (by simp [Op.operands]))]
  case entry x => simp only [entryF, ev_congr (h x (by simp [Op.operands]))]
  case defer c =>
    obtain ⟨callee, args, ts⟩ := c
    have ha : ∀ x ∈ args.toList, Agr fr fr' x := fun x hx => h x (by simp [Op.operands, Call.operands]; right; simpa using hx)
    unfold deferF
    cases callee with
    | value f => simp only [ev_congr (h f (by simp [Op.operands, Call.operands])), evs_congr ha]
    | _ => rfl

theorem pendOf_congr {i : Nat} {op : Op} {v : AV} (h : ∀ x ∈ op.operands, Agr fr fr' x) : pendOf i op E fr v = pendOf i op E fr' v := by
  cases op <;> simp only [pendOf]
  case load t a => simp only [ev_congr (h a (by simp [Op.operands]))]
  case call c =>
    obtain ⟨callee, args, ts⟩ := c
    have ha : ∀ x ∈ args.toList, Agr fr fr' x := fun x hx => h x (by simp [Op.operands, Call.operands]; right; simpa using hx)
    simp only [pendCall, evs_congr ha]

/-! ### Memory -/
theorem get?_append {α : Type} {st : List α} {x y : α} {b : Nat} (h : get? st b = some x) : get? (st ++ [y]) b = some x := by
  rw [get?_eq] at h ⊢
  rw [List.getElem?_append_left (lt_of_get h)]; exact h

theorem cellsAt_append {st : St} {ab : AB} {a : AV} {cs : List AV} (h : cellsAt st a = some cs) : cellsAt (st ++ [ab]) a = some cs := by
  cases a <;> simp only [cellsAt] at h ⊢ <;> try (exact h)
  split at h
  · rename_i cs0 hb; rw [get?_append hb]; exact h
  · rename_i cs0 hb; rw [get?_append hb]; exact h
  · cases h

theorem loadE_append {P : Program} {st : St} {ab : AB} {t : TypeId} {a v : AV} (h : loadE P st t a = some v) : loadE P (st ++ [ab]) t a = some v := by
  unfold loadE at h ⊢
  cases hc : cellsAt st a with
  | none => simp [hc] at h
  | some cs => rw [hc] at h; rw [cellsAt_append hc]; exact h

theorem pureOp_append {op : Op} {st : St} {ab : AB} {v : AV} (h : pureOp op E fr st = some v) : pureOp op E fr (st ++ [ab]) = some v := by
  cases op <;> simp only [pureOp] at h ⊢ <;> first | exact h | skip
  case load t a =>
    unfold loadF at h ⊢
    split at h
    · exact loadE_append h
    · cases h
  case lookup t x i ok =>
    unfold lookupF at h ⊢
    split at h
    · rename_i x' i' hx hi
      unfold lookupE at h ⊢
      split at h
      · rename_i kT eT hu
        simp only at h ⊢
        cases x' <;> try (exact h)
        rename_i b
        simp only at h ⊢
        cases hb : get? st b with
        | none => rw [hb] at h; simp at h
        | some x => rw [hb] at h; rw [get?_append hb]; exact h
      · cases h
    · cases h
  case call c =>
    unfold callPure at h ⊢
    obtain ⟨callee, args, ts⟩ := c
    cases callee with
    | builtin b =>
      cases b <;> simp only [builtinPure] at h ⊢ <;> try (exact h)
      unfold lenF at h ⊢
      split at h
      · rename_i x xs t hx ht
        unfold lenE at h ⊢
        split at h <;> try (exact h)
        rename_i k e b hu
        cases hb : get? st b with
        | none => rw [hb] at h; simp at h
        | some x => rw [hb] at h; rw [get?_append hb]; exact h
      · cases h
    | _ => exact h

/-- What leaves nothing pending does not look at the memory. -/
theorem pureOp_any {i : Nat} {op : Op} {st st' : St} {v : AV} (h : pureOp op E fr st = some v) (hp : pendOf i op E fr v = some []) : pureOp op E fr st' = some v := by
  cases op <;> simp only [pureOp] at h ⊢ <;> first | exact h | skip
  case load t a => simp only [pendOf] at hp; split at hp <;> simp at hp
  case lookup t x i ok => simp [pendOf] at hp
  case call c =>
    unfold callPure at h ⊢
    obtain ⟨callee, args, ts⟩ := c
    cases callee with
    | builtin b =>
      cases b <;> simp only [builtinPure] at h ⊢ <;> try (exact h)
      unfold lenF at h ⊢
      split at h
      · rename_i x xs t hx ht
        simp only [pendOf, pendCall] at hp
        rw [hx] at hp
        unfold lenE at h ⊢
        split at h <;> try (exact h)
        simp at hp
      · cases h
    | _ => exact h

end
end Go.Proofs.YtbjhjladdkbnmaaGreatDoor.Gx
