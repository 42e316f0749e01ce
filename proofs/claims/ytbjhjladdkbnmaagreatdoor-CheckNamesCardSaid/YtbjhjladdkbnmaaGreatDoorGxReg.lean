/-
  Soundness of a region in the order of its text.
-/
import Derived.Test.YtbjhjladdkbnmaaGreatDoorGxOps
namespace Go.Proofs.YtbjhjladdkbnmaaGreatDoor.Gx
open Go

section
variable {E : Env} {F : Nat → Prop} {φ : Phi} {st : St} {w : World}

theorem wants_sound {B : Nat → Prop} {ops : List Oper} {opsA : Array Oper} (ha : opsA.toList = ops) {tm : List AV} {tmps : Array Value} (hT : LRel B w φ tm tmps.toList) {o : Oper} {b : Bool} (h : wants ops tm o = some b) :
    Region.wanted o (yielded opsA tmps) = b := by
  unfold wants at h
  unfold Region.wanted
  split at h
  · rename_i hg; simp at h; subst h; simp [hg]
  · rename_i j want hg
    simp only [hg]
    have hget : opsA[j]? = get? ops j := by rw [get?_eq, ← ha]; simp
    split at h
    · rename_i d hd
      have hy : yielded opsA tmps j = (match tmps[d]? with | some (.bool b) => some b | _ => none) := by
        unfold yielded; rw [hget, hd]; rfl
      have hn := nth_sound (w := w) (φ := φ) hT d
      split at h
      · rename_i b' hb'
        simp at h; subst h
        rw [hb'] at hn
        have hd' : tmps[d]? = some (.bool b') := by
          generalize hu : tmps.getD d undef = u at hn
          cases hn
          rcases Nat.lt_or_ge d tmps.size with hl | hl
          · simp [Array.getD, hl] at hu; simp [hl, hu]
          · simp [Array.getD, Nat.not_lt.2 hl, undef] at hu
        rw [hy, hd']
        cases b' <;> cases want <;> rfl
      · rename_i hb'
        simp at h; subst h
        rw [hb'] at hn
        generalize hu : tmps.getD d undef = u at hn
        obtain ⟨us, rfl, hl⟩ := tup_list hn
        rw [hy]
        rcases Nat.lt_or_ge d tmps.size with hl | hl
        · simp [Array.getD, hl] at hu; simp [hl, hu]
        · simp [Array.getElem?_eq_none hl]
      · cases h
    · cases h

/-- What an operation comes to for the frame. -/
def OpOk (E : Env) (F : Nat → Prop) (φ : Phi) (st : St) (w : World) (fn : FuncId) (kd : CallKind) (ro : Option Nat) (tmps : Array Value) (df : List Deferred) (cs : List Frame) (m : Machine) (todo : List Item) : OpOut → Prop
  | .ok fr' st' => ∃ φ' w' tmps' df' cs', Sess E F φ' st' w' ∧ Ext φ st w φ' st' w' ∧ FRel (Bd F φ' st') w' φ' fr' kd ro tmps' df' cs' ∧ CsLike kd cs cs' ∧ Steps E.P m (lone (mkF fn kd ro tmps' df' todo) cs' w')
  | .pan ch fr' st' => ∃ φ' w' tmps' df' cs' chain todo', Sess E F φ' st' w' ∧ Ext φ st w φ' st' w' ∧ FRel (Bd F φ' st') w' φ' fr' kd ro tmps' df' cs' ∧ CsLike kd cs cs' ∧
      All2 (PRelC (Bd F φ' st') w' φ') ch chain ∧ Steps E.P m (lone { mkF fn kd ro tmps' df' todo' with mode := .panicking chain } cs' w')

theorem st_op_recover {fn : FuncId} {kd : CallKind} {tmps : Array Value} {df : List Deferred} {k : List Item} {cs : List Frame} {ops : Array Oper} {i : Nat} {rest : List Nat} {o : Oper} (ho : ops[i]? = some o)
    (hw : Region.wanted o (yielded ops tmps) = true) (hr : (execOp (evalT tmps) o).run E.P w = .ok .recover w) :
    step E.P (lone (mkF fn kd none tmps df (.inRegion ops (i :: rest) :: k)) cs w) =
      (match tryRecover (mkF fn kd none tmps df (.inRegion ops (i :: rest) :: k)) cs with
       | some (v, cs') => .next (lone (mkF fn kd none (putT tmps o.dst v) df (.inRegion ops rest :: k)) cs' w)
       | none => .next (lone (mkF fn kd none (putT tmps o.dst .nilIface) df (.inRegion ops rest :: k)) cs w)) := by
  cases ht : tryRecover (mkF fn kd none tmps df (.inRegion ops (i :: rest) :: k)) cs with
  | none =>
    rw [← finish_mkF ho]
    refine step_lone_go ?_
    rw [stepG_oper ho hw (.inl rfl)]
    simp only [mkF] at ht ⊢
    simp [stepG.apply, hr, ht]
  | some p =>
    obtain ⟨v, cs'⟩ := p
    simp only
    rw [← finish_mkF ho]
    refine step_lone_go ?_
    rw [stepG_oper ho hw (.inl rfl)]
    simp only [mkF] at ht ⊢
    simp [stepG.apply, hr, ht]

theorem evalOp_sound {cal : Cal} (hcal : CalOk E cal) (hS : Sess E F φ st w) {fn : FuncId} {kd : CallKind} {ro : Option Nat} {fr : Fr} {tmps : Array Value} {df : List Deferred} {cs : List Frame}
    (hF : FRel (Bd F φ st) w φ fr kd ro tmps df cs) {o : Oper} {out : OpOut} (h : evalOp E cal o fr st = some out) {ops : Array Oper} {i : Nat} (ho : ops[i]? = some o) (hw : Region.wanted o (yielded ops tmps) = true)
    (rest : List Nat) (k : List Item) :
    OpOk E F φ st w fn kd ro tmps df cs (lone (mkF fn kd ro tmps df (.inRegion ops (i :: rest) :: k)) cs w) (.inRegion ops rest :: k) out := by
  unfold evalOp at h
  cases hk : kindOf o.op with
  | pure =>
    have hnd : ∀ c, o.op ≠ .defer c := by intro c e; rw [e] at hk; simp [kindOf] at hk
    simp only [hk, kindEval, doPure] at h
    split at h
    · rename_i v hv
      simp at h; subst h
      obtain ⟨u, h1, h2⟩ := pureOp_sound hS hF.tm hv
      exact ⟨φ, w, _, df, cs, hS, Ext.refl _ _ _, hF.put o.dst h2, .refl _ _, .one (st_op_value ho hw (.inr hnd) h1)⟩
    · cases h
  | alloc =>
    have hnd : ∀ c, o.op ≠ .defer c := by intro c e; rw [e] at hk; simp [kindOf] at hk
    simp only [hk, kindEval, doAlloc] at h
    split at h
    · rename_i ab mk hv
      simp at h; subst h
      obtain ⟨hl, obj, u, h1, h2⟩ := allocOp_sound hS hF.tm hv
      obtain ⟨g1, g2⟩ := hS.ghost ab
      have hf := hS.fresh (Nat.le_refl st.length)
      have hB : Bd F φ (st ++ [ab]) = Bd F φ st := funext fun cb => by simp only [Bd, own_ghost hf]
      obtain ⟨r1, r2⟩ := g1.realize (b := st.length) (ab := ab) (by simp) hl hf obj (fun B' g => (h2 st.length _ B' (phiSet_le hf) (by simp [phiSet]) (by rw [hB] at g; exact g)).1)
      have hext : Ext φ st w (phiSet φ st.length w.heap.size 0) (st ++ [ab]) (pushed w obj) := ghost_real g2 r2 rfl
      have hv2 := (h2 st.length (phiSet φ st.length w.heap.size 0) _ (phiSet_le hf) (by simp [phiSet]) (hext.goes (F := F))).2
      exact ⟨_, _, _, df, cs, r1, hext, (hF.mono hext.goes hext.phi).put o.dst hv2, .refl _ _, .one (st_op_value ho hw (.inr hnd) h1)⟩
    · cases h
  | eff =>
    simp only [hk, kindEval] at h
    unfold doEff at h
    split at h
    · rename_i v st' he
      simp at h; subst h
      obtain ⟨φ', w', u, s1, s2, s3, s4⟩ := effOp_sound hcal hS hF.tm he fn kd ro df k cs ops i rest ho hw
      exact ⟨φ', w', _, df, cs, s1, s2, (hF.mono s2.goes s2.phi).put o.dst s3, .refl _ _, s4⟩
    · rename_i ch st' he
      simp at h; subst h
      obtain ⟨φ', w', chain, s1, s2, s3, s4⟩ := effOp_sound hcal hS hF.tm he fn kd ro df k cs ops i rest ho hw
      exact ⟨φ', w', _, df, cs, chain, _, s1, s2, hF.mono s2.goes s2.phi, .refl _ _, s3, s4⟩
    · rename_i he
      obtain ⟨hr, hnd⟩ := effOp_sound hcal hS hF.tm he
      split at h
      · rename_i v fr' hrec
        simp at h; subst h
        obtain ⟨tm, dfa, rc, roa⟩ := fr
        have hro := hF.ro
        have hrc := hF.rc
        simp only [doRecover] at hrec
        split at hrec
        · cases hrec
        · rename_i v0 older
          simp only at hro hrc
          subst hro
          simp at hrec; obtain ⟨rfl, rfl⟩ := hrec
          obtain ⟨rfl, c, rest', rfl, ch', hm, hch⟩ := hrc
          cases hch with
          | cons hp hrest =>
            rename_i e older'
            obtain ⟨ev, er, eg⟩ := e
            obtain ⟨p1, p2, p3⟩ := hp
            simp only at p1 p2 p3
            subst p2; subst p3
            have ht : tryRecover (mkF fn .deferred none tmps df (.inRegion ops (i :: rest) :: k)) (c :: rest') = some (ev, { c with mode := .panicking ({ v := ev, recovered := true } :: older') } :: rest') := by
              simp [tryRecover, mkF, hm]
            have hst := st_op_recover (E := E) (fn := fn) (kd := .deferred) (df := df) (k := k) (cs := c :: rest') (rest := rest) ho hw hr
            rw [ht] at hst
            refine ⟨φ, w, _, df, _, hS, Ext.refl _ _ _, ?_, .inr ⟨rfl, c, rest', _, rfl, rfl⟩, .one hst⟩
            have hF' : FRel (Bd F φ st) w φ ⟨tm, dfa, some (.panicking (⟨v0, true⟩ :: older)), none⟩ .deferred none tmps df ({ c with mode := .panicking ({ v := ev, recovered := true } :: older') } :: rest') :=
              ⟨hF.tm, hF.df, ⟨rfl, _, _, rfl, _, rfl, .cons ⟨p1, rfl, rfl⟩ hrest⟩, rfl⟩
            exact hF'.put o.dst p1
        · rename_i rc' hno
          simp only at hro hrc
          subst hro
          simp at hrec; obtain ⟨rfl, rfl⟩ := hrec
          have ht : tryRecover (mkF fn kd none tmps df (.inRegion ops (i :: rest) :: k)) cs = none := by
            cases rc with
            | none => simp only at hrc; subst hrc; cases cs <;> simp [tryRecover, mkF]
            | some m =>
              obtain ⟨rfl, c, rest', rfl, hm⟩ := hrc
              cases m with
              | returning => simp only [MRel] at hm; simp [tryRecover, mkF, hm]
              | panicking ch =>
                obtain ⟨ch', hm1, hch⟩ := hm
                cases hch with
                | nil => simp [tryRecover, mkF, hm1]
                | cons hp hrest =>
                  rename_i a e l m
                  obtain ⟨av, ar⟩ := a
                  cases ar with
                  | false => exact (hno av l rfl).elim
                  | true =>
                    obtain ⟨ev, er, eg⟩ := e
                    obtain ⟨p1, p2, p3⟩ := hp
                    simp only at p2 p3
                    subst p2; subst p3
                    simp [tryRecover, mkF, hm1]
          have hst := st_op_recover (E := E) (fn := fn) (kd := kd) (df := df) (k := k) (cs := cs) (rest := rest) ho hw hr
          rw [ht] at hst
          exact ⟨φ, w, _, df, cs, hS, Ext.refl _ _ _, hF.put o.dst .nilif, .refl _ _, .one hst⟩
      · cases h
    · rename_i d he
      obtain ⟨cd, hr, hd⟩ := effOp_sound hcal hS hF.tm he
      split at h
      · rename_i hro0
        simp at h; subst h
        obtain ⟨tm, dfa, rc, roa⟩ := fr
        simp only at hro0
        subst hro0
        have hro := hF.ro
        simp only at hro
        subst hro
        refine ⟨φ, w, _, _, cs, hS, Ext.refl _ _ _, ?_, .refl _ _, .one (st_op_defer ho hw hr)⟩
        have hF' : FRel (Bd F φ st) w φ (pushDef ⟨tm, dfa, rc, none⟩ d) kd none tmps (cd :: df) cs := ⟨hF.tm, .cons hd hF.df, hF.rc, hF.ro⟩
        exact hF'.put o.dst VRel.undef
      · cases h
    · cases h

theorem OpOk.of_steps {fn : FuncId} {kd : CallKind} {ro : Option Nat} {tmps tmps' : Array Value} {df df' : List Deferred} {cs cs' : List Frame} {m m' : Machine} {todo : List Item} {out : OpOut} {φ' : Phi} {st' : St} {w' : World}
    (hs : Steps E.P m m') (he : Ext φ st w φ' st' w') (hc : CsLike kd cs cs') (h : OpOk E F φ' st' w' fn kd ro tmps' df' cs' m' todo out) : OpOk E F φ st w fn kd ro tmps df cs m todo out := by
  cases out with
  | ok fr st2 => obtain ⟨a, b, c, d, e, h1, h2, h3, h4, h5⟩ := h; exact ⟨a, b, c, d, e, h1, he.trans h2, h3, hc.trans h4, hs.trans h5⟩
  | pan ch fr st2 => obtain ⟨a, b, c, d, e, f, g, h1, h2, h3, h4, h5, h6⟩ := h; exact ⟨a, b, c, d, e, f, g, h1, he.trans h2, h3, hc.trans h4, h5, hs.trans h6⟩

theorem evalOps_sound {cal : Cal} (hcal : CalOk E cal) {ops : List Oper} {opsA : Array Oper} (ha : opsA.toList = ops) {fn : FuncId} {kd : CallKind} {ro : Option Nat} (k : List Item) :
    ∀ (todo : List Oper) (i : Nat), todo = ops.drop i → ∀ {φ : Phi} {st : St} {w : World} {fr : Fr} {tmps : Array Value} {df : List Deferred} {cs : List Frame} {out : OpOut}, Sess E F φ st w →
      FRel (Bd F φ st) w φ fr kd ro tmps df cs → evalOps E cal ops todo fr st = some out →
      OpOk E F φ st w fn kd ro tmps df cs (lone (mkF fn kd ro tmps df (.inRegion opsA (List.range' i todo.length) :: k)) cs w) k out
  | [], i, htodo, φ, st, w, fr, tmps, df, cs, out, hS, hF, h => by
    simp [evalOps] at h; subst h
    exact ⟨φ, w, tmps, df, cs, hS, Ext.refl _ _ _, hF, .refl _ _, .one st_region_end⟩
  | o :: todo, i, htodo, φ, st, w, fr, tmps, df, cs, out, hS, hF, h => by
    have ho : opsA[i]? = some o := by
      have : ops[i]? = some o := by
        have := congrArg (fun l => l[0]?) htodo
        simpa using this.symm
      rw [← ha] at this; simpa using this
    have htodo' : todo = ops.drop (i + 1) := by
      have := congrArg List.tail htodo
      simpa [List.tail_drop] using this
    simp only [List.length_cons, List.range'_succ]
    unfold evalOps at h
    split at h
    · rename_i hw
      have hw' := wants_sound ha hF.tm hw
      split at h
      · rename_i fr' st' he
        have := evalOp_sound (fn := fn) hcal hS hF he ho hw' (List.range' (i + 1) todo.length) k
        obtain ⟨φ', w', tmps', df', cs', s1, s2, s3, s4, s5⟩ := this
        exact OpOk.of_steps s5 s2 s4 (evalOps_sound hcal ha k todo (i + 1) htodo' s1 s3 h)
      · rename_i r hne
        cases he : evalOp E cal o fr st with
        | none => rw [he] at h; cases h
        | some r' =>
          rw [he] at h
          cases r' with
          | ok fr' st' => exact absurd he (hne _ _)
          | pan ch fr' st' =>
            simp at h; subst h
            have := evalOp_sound (fn := fn) hcal hS hF he ho hw' (List.range' (i + 1) todo.length) k
            exact this
    · rename_i hw
      have hw' := wants_sound ha hF.tm hw
      exact OpOk.of_steps (.one (st_op_skip ho hw')) (Ext.refl _ _ _) (.refl _ _) (evalOps_sound hcal ha k todo (i + 1) htodo' hS (hF.put o.dst VRel.undef) h)
    · cases h

end
end Go.Proofs.YtbjhjladdkbnmaaGreatDoor.Gx
