/-
  Soundness of the evaluator: regions.
-/
import Derived.Test.YtbjhjladdkbnmaaGreatDoorGxDrawn2
namespace Go.Proofs.YtbjhjladdkbnmaaGreatDoor.Gx
open Go

/-- How code has come out, as the machine sees it. -/
def Arr (P : Program) (m : Machine) (fn : FuncId) (kd : CallKind) (ro : Option Nat) (tmps : Array Value) (df : List Deferred) (cs : List Frame) (B : Nat → Prop) (w : World) (φ : Phi) (k : List Item) : Ex → Prop
  | .normal => Steps P m (lone (mkF fn kd ro tmps df k) cs w)
  | .exit id => ∃ k0, exitTo id k0 = exitTo id k ∧ Steps P m (lone (mkF fn kd ro tmps df (.code (.exit id) :: k0)) cs w)
  | .ret => ∃ k0, Steps P m (lone (mkF fn kd ro tmps df (.code .ret :: k0)) cs w)
  | .pan ch => ∃ chain k0, All2 (PRelC B w φ) ch chain ∧ Steps P m (lone { mkF fn kd ro tmps df k0 with mode := .panicking chain } cs w)

def ExOk (E : Env) (F : Nat → Prop) (φ : Phi) (st : St) (w : World) (fn : FuncId) (kd : CallKind) (ro : Option Nat) (cs : List Frame) (m : Machine) (k : List Item) (r : Ex × Fr × St) : Prop :=
  ∃ φ' w' tmps' df' cs', Sess E F φ' r.2.2 w' ∧ Ext φ st w φ' r.2.2 w' ∧ FRel (Bd F φ' r.2.2) w' φ' r.2.1 kd ro tmps' df' cs' ∧ CsLike kd cs cs' ∧
    Arr E.P m fn kd ro tmps' df' cs' (Bd F φ' r.2.2) w' φ' k r.1

section
variable {E : Env} {F : Nat → Prop} {φ : Phi} {st : St} {w : World}

theorem OpOk.ex {fn : FuncId} {kd : CallKind} {ro : Option Nat} {tmps : Array Value} {df : List Deferred} {cs : List Frame} {m : Machine} {k : List Item} {out : Option OpOut} {r : Ex × Fr × St} (hr : outEx out = some r)
    (h : ∀ o, out = some o → OpOk E F φ st w fn kd ro tmps df cs m k o) : ExOk E F φ st w fn kd ro cs m k r := by
  cases out with
  | none => simp [outEx] at hr
  | some o =>
    have h := h o rfl
    cases o with
    | ok fr' st' =>
      simp [outEx] at hr; subst hr
      obtain ⟨φ', w', tmps', df', cs', h1, h2, h3, h4, h5⟩ := h
      exact ⟨φ', w', tmps', df', cs', h1, h2, h3, h4, h5⟩
    | pan ch fr' st' =>
      simp [outEx] at hr; subst hr
      obtain ⟨φ', w', tmps', df', cs', chain, todo', h1, h2, h3, h4, h5, h6⟩ := h
      exact ⟨φ', w', tmps', df', cs', h1, h2, h3, h4, chain, todo', h5, h6⟩

theorem ExOk.of_steps {fn : FuncId} {kd : CallKind} {ro : Option Nat} {cs cs' : List Frame} {m m' : Machine} {k : List Item} {φ' : Phi} {st' : St} {w' : World} {r : Ex × Fr × St}
    (hs : Steps E.P m m') (he : Ext φ st w φ' st' w') (hc : CsLike kd cs cs') (h : ExOk E F φ' st' w' fn kd ro cs' m' k r) : ExOk E F φ st w fn kd ro cs m k r := by
  obtain ⟨φ2, w2, tmps2, df2, cs2, h1, h2, h3, h4, h5⟩ := h
  refine ⟨φ2, w2, tmps2, df2, cs2, h1, he.trans h2, h3, hc.trans h4, ?_⟩
  obtain ⟨ex, fr, st2⟩ := r
  cases ex with
  | normal => exact hs.trans h5
  | exit id => obtain ⟨k0, e, h⟩ := h5; exact ⟨k0, e, hs.trans h⟩
  | ret => obtain ⟨k0, h⟩ := h5; exact ⟨k0, hs.trans h⟩
  | pan ch => obtain ⟨chain, k0, e, h⟩ := h5; exact ⟨chain, k0, e, hs.trans h⟩

theorem bit_replicate : ∀ (n i : Nat), bit (List.replicate n false) i = false
  | 0, i => rfl
  | n + 1, 0 => rfl
  | n + 1, i + 1 => bit_replicate n i

theorem DInv.start (hS : Sess E F φ st w) {ops : List Oper} {kd : CallKind} {ro : Option Nat} {tmps : Array Value} {df : List Deferred} {cs : List Frame} {fr : Fr} (hF : FRel (Bd F φ st) w φ fr kd ro tmps df cs) :
    DInv E F ops φ st w kd ro df cs (List.replicate ops.length false) [] fr st (Array.replicate ops.length false) φ w tmps fr where
  lenA := by simp
  lenD := by simp
  sub := fun i h => by
    rcases Nat.lt_or_ge i ops.length with hl | hl <;> simp [Array.getD, hl] at h
  clA := fun i o h => by rw [bit_replicate] at h; cases h
  sess := hS
  ext := Ext0.refl _ _ _
  old := fun _ _ => rfl
  fr := hF
  df := rfl
  rc := rfl
  ro := rfl
  len := rfl
  tm := fun _ => .inr rfl
  pend := fun i o _ h => by rw [bit_replicate] at h; cases h
  psb := fun i b ab h => by simp at h
  psi := fun i j b ab ab' h => by simp at h

theorem region_sound {R : Rn} (hcal : CalOk E (callV E R)) (hmix : E.P.follows .mixedOrders = true) (hS : Sess E F φ st w) {fn : FuncId} {kd : CallKind} {ro : Option Nat} {tmps : Array Value} {df : List Deferred} {cs : List Frame} {fr : Fr}
    (hF : FRel (Bd F φ st) w φ fr kd ro tmps df cs) {id : Nat} {ops : Array Oper} {draw : Bool} {r : Ex × Fr × St} (h : region E R ops.toList draw fr st = some r) (k : List Item) :
    ExOk E F φ st w fn kd ro cs (lone (mkF fn kd ro tmps df (.code (.region id ops draw) :: k)) cs w) k r := by
  unfold region at h
  cases draw with
  | false =>
    simp only [Bool.false_eq_true, if_false] at h
    refine ExOk.of_steps (.one st_region) (Ext.refl _ _ _) (.refl _ _) (OpOk.ex (tmps := tmps) (df := df) h fun o ho => ?_)
    have := evalOps_sound hcal (fn := fn) (opsA := ops) rfl k ops.toList 0 (by simp) hS hF ho
    rw [List.range_eq_range']
    simpa using this
  | true =>
    simp only [if_true] at h
    split at h
    · rename_i hssa
      obtain ⟨hS', hE'⟩ := hS.same_heap (w' := { w with drawn := w.drawn + 1 }) rfl ⟨rfl, rfl, rfl⟩
      refine ExOk.of_steps (.one st_region_draw) hE' (.refl _ _) (OpOk.ex (tmps := tmps) (df := df) h fun o ho => ?_)
      have hF' := hF.mono (hE'.goes (F := F)) hE'.phi
      have := drawn_sound (fn := fn) hcal (ssa_spec hssa) (opsA := ops) rfl k tmps _ _ _ _ _ _ ho ops.size (w.tape w.drawn (.order fn id)) _ _ _ _ _ (DInv.start hS' hF') (by simp [List.count_replicate])
      have he : Region.schedule (E.P.follows .mixedOrders) ops (w.tape w.drawn (.order fn id)) = todoL ops ops.size (w.tape w.drawn (.order fn id)) (Array.replicate ops.toList.length false) := by
        rw [hmix]; simp [Region.schedule, Region.linearise, todoL]
      rw [he]
      exact this
    · cases h

end
end Go.Proofs.YtbjhjladdkbnmaaGreatDoor.Gx
