/-
  Soundness of copy, and of the operations on maps; freezing.
-/
import Derived.Test.YtbjhjladdkbnmaaGreatDoorGxMem3
namespace Go.Proofs.YtbjhjladdkbnmaaGreatDoor.Gx
open Go

section
variable {E : Env} {F : Nat → Prop} {φ : Phi} {st : St} {w : World}

theorem copyE_sound (hS : Sess E F φ st w) {argTypes : Array TypeId} {ty dT : TypeId} {x y v : AV} {ux uy : Value} {st' : St} (h : copyE E.P st dT x y = some (v, st'))
    (h0 : argTypes[0]? = some dT) (hx : VRel (Bd F φ st) w φ x ux) (hy : VRel (Bd F φ st) w φ y uy) :
    Comes1 E F φ st w (Builtin.copy_ argTypes ty #[ux, uy]) v st' := by
  unfold copyE at h
  split at h
  · rename_i e hu
    split at h
    · cases h
    · rename_i s hs
      split at h
      · rename_i p hsy
        obtain ⟨n, new⟩ := p
        simp at h
        obtain ⟨rfl, rfl⟩ := h
        cases hx
        obtain ⟨us, y1, y2, y3, y4⟩ := srcOf_sound hS hsy hy
        have := y4 0 (Nat.zero_le _)
        refine ⟨.int .i64 0, φ, w, ?_, hS, Ext.refl _ _ _, .int _ _⟩
        simp at this
        simp [Builtin.copy_, h0, run_und hu, y1, run_size hs, this, goInt]
      · rename_i n new b off len cap hsy
        rw [get?_eq] at h
        split at h
        · rename_i cs new' hb htk
          split at h
          · rename_i hcell
            simp only [Option.map_eq_some_iff, Prod.mk.injEq] at h
            obtain ⟨cs', hw, rfl, rfl⟩ := h
            obtain ⟨us, y1, y2, y3, y4⟩ := srcOf_sound hS hsy hy
            obtain ⟨e1, e2⟩ := takeN_some _ _ _ htk
            have y4m := y4 (min n len) (Nat.min_le_left _ _)
            cases hx with
            | sl hp ho hl hxx hg =>
              rename_i cb co o ccap
              have hnew : LRel (Bd F φ st) w φ new' (us.take (min n len * s)) := by rw [e1]; exact y2.take _
              obtain ⟨w', s1, s2, s3⟩ := write_sound hS hb hp hw hnew hcell
              have hrun : (storeCells ⟨cb, o, none⟩ (us.take (min n len * s))).run E.P w = .ok () w' := by
                rcases ho with h00 | rfl
                · have hz : us.take (min n len * s) = [] := by
                    have : min n len = 0 := by omega
                    simp [this]
                  rw [hz] at s1 ⊢
                  simpa [storeCells] using s1
                · exact s1
              refine ⟨.int .i64 (min n len : Nat), φ, w', ?_, by rw [upd_eq]; exact s2, by rw [upd_eq]; exact s3, .int _ _⟩
              simp [Builtin.copy_, h0, run_und hu, y1, run_size hs, goInt, Nat.min_def] at y4m hrun ⊢
              simp [y4m, hrun]
          · cases h
        · cases h
      · cases h
  · cases h

theorem keyStays {P : Program} {kT : TypeId} {k k' : AV} {u u' : Value} (h : keyScalar P kT k = true) (hs : sameKey k k' = true) (hk : VRel (Bd F φ st) w φ k u) (hk' : VRel (Bd F φ st) w φ k' u') (hks : keyScalar P kT k' = true) :
    (Instr.keyThatStays u' u).run P w = .ok u w := by
  have : Instr.sameBits 10000 u' u = true := by
    rcases keyScalar_key h with ⟨s, rfl, hu⟩ | ⟨j, m, rfl, hu⟩ | ⟨b, rfl, hu⟩ <;>
      rcases keyScalar_key hks with ⟨s', rfl, hu'⟩ | ⟨j', m', rfl, hu'⟩ | ⟨b', rfl, hu'⟩ <;>
      (rw [hu] at hu'; cases hu' <;> cases hk <;> cases hk' <;> simp [sameKey] at hs <;> subst hs <;> simp [Instr.sameBits, ba_beq])
  simp [Instr.keyThatStays, this]

theorem findE_get {k : AV} : ∀ {es : List AEnt} {i n : Nat} {v : AV}, findE k es i = some (n, v) → i ≤ n ∧ ∃ e, es[n - i]? = some e ∧ e.val = v ∧ sameKey k e.key = true
  | [], i, n, v, h => by simp [findE] at h
  | e :: es, i, n, v, h => by
    unfold findE at h
    split at h
    · rename_i hs
      simp at h
      obtain ⟨rfl, rfl⟩ := h
      exact ⟨Nat.le_refl _, e, by simp, rfl, hs⟩
    · obtain ⟨h1, e', h2, h3, h4⟩ := findE_get h
      refine ⟨by omega, e', ?_, h3, h4⟩
      have : n - i = (n - (i + 1)) + 1 := by omega
      rw [this]; simpa using h2

theorem mapUpdateE_sound (hS : Sess E F φ st w) {t : TypeId} {m k v : AV} {um uk uv : Value} {st' : St} (h : mapUpdateE E.P st t m k v = some st') (hm : VRel (Bd F φ st) w φ m um)
    (hk : VRel (Bd F φ st) w φ k uk) (hv : VRel (Bd F φ st) w φ v uv) :
    ∃ w', (Instr.mapUpdate t um uk uv).run E.P w = .ok () w' ∧ Sess E F φ st' w' ∧ Ext φ st w φ st' w' := by
  unfold mapUpdateE at h
  split at h
  · rename_i kT eT b hu
    rw [get?_eq] at h
    split at h
    · rename_i es clock hb
      split at h
      · rename_i hcond
        simp only [Bool.and_eq_true] at hcond
        cases hm with
        | map hp =>
          rename_i cb co
          obtain ⟨ces, h1, h2⟩ := hS.blk b _ cb co hb hp
          have hd : ∃ d, E.P.underlying kT = some d := by
            rcases keyScalar_key hcond.1 with ⟨_, _, hu⟩ | ⟨_, _, _, hu⟩ | ⟨_, _, hu⟩ <;> exact ⟨_, hu⟩
          obtain ⟨d, hd⟩ := hd
          have hf := findE_sound hd hcond.1 hk es ces.toList 0 (by simpa using h2.1) (fun j e c he hc => h2.2 j e c he (by simpa using hc)) hcond.2
          have hnc : ∀ c t f, Obj.map ces clock ≠ .cells c t f := by simp
          have hown : Own φ st cb := ⟨b, _, co, hb, rfl, hp⟩
          split at h
          · rename_i n v0 hfe
            rw [hfe] at hf
            obtain ⟨uv0, q1, q2⟩ := hf
            rw [get?_eq] at h
            split at h
            · rename_i e he
              simp at h
              subst h
              obtain ⟨_, e', r1, r2, r3⟩ := findE_get hfe
              simp at r1
              rw [he] at r1; cases r1
              have hnlt : n < ces.size := by have := lt_of_get he; have := h2.1; omega
              have hcn : ces[n]? = some ces[n] := by simp [hnlt]
              obtain ⟨k1, k2, k3⟩ := h2.2 n e _ he hcn
              have hks : keyScalar E.P kT e.key = true := List.all_eq_true.1 hcond.2 _ (List.mem_of_getElem? he)
              have hst := keyStays hcond.1 r3 hk k1 hks
              refine ⟨setAt w cb (.map (ces.modify n fun x => { x with key := uk, val := uv }) clock), ?_, ?_⟩
              · simp [Instr.mapUpdate, run_und hu, getObj_run h1 hnc, checkKey_run hcond.1 hk, Instr.findKey, run_und hd, q1, hcn, hst, setObj_run h1 hnc]
              · rw [upd_eq, upd_eq]
                refine hS.change hb rfl rfl hp (fun c t fz hc => by rw [h1] at hc; cases hc) ?_
                have g : Goes (Bd F φ st) w (Bd F φ st) (setAt w cb (.map (ces.modify n fun x => { x with key := uk, val := uv }) clock)) :=
                  goes_setAt (.inr hown) h1 (fun c t fz hc => by cases hc)
                refine ⟨_, setAt_same h1, by simp [h2.1], fun j e2 c2 hj hc => ?_⟩
                rw [List.getElem?_set] at hj
                rw [Array.getElem?_modify] at hc
                by_cases e0 : n = j
                · subst e0
                  simp [lt_of_get he] at hj
                  simp [hcn] at hc
                  subst hj; subst hc
                  exact ⟨hk.mono g (fun _ _ h => h), hv.mono g (fun _ _ h => h), k3⟩
                · simp [e0] at hj hc
                  obtain ⟨a1, a2, a3⟩ := h2.2 j e2 c2 hj hc
                  exact ⟨a1.mono g (fun _ _ h => h), a2.mono g (fun _ _ h => h), a3⟩
            · cases h
          · rename_i hfe
            rw [hfe] at hf
            simp only at hf
            simp at h
            subst h
            refine ⟨setAt w cb (.map (ces.push { key := uk, val := uv, born := clock }) (clock + 1)), ?_, ?_⟩
            · simp [Instr.mapUpdate, run_und hu, getObj_run h1 hnc, checkKey_run hcond.1 hk, Instr.findKey, run_und hd, hf, setObj_run h1 hnc]
            · rw [upd_eq]
              refine hS.change hb rfl rfl hp (fun c t fz hc => by rw [h1] at hc; cases hc) ?_
              have g : Goes (Bd F φ st) w (Bd F φ st) (setAt w cb (.map (ces.push { key := uk, val := uv, born := clock }) (clock + 1))) :=
                goes_setAt (.inr hown) h1 (fun c t fz hc => by cases hc)
              refine ⟨_, setAt_same h1, by simp [h2.1], fun j e2 c2 hj hc => ?_⟩
              rcases Nat.lt_trichotomy j es.length with hlt | heq | hgt
              · rw [List.getElem?_append_left hlt] at hj
                rw [Array.getElem?_push, if_neg (by have := h2.1; omega)] at hc
                obtain ⟨a1, a2, a3⟩ := h2.2 j e2 c2 hj hc
                exact ⟨a1.mono g (fun _ _ h => h), a2.mono g (fun _ _ h => h), a3⟩
              · subst heq
                simp at hj
                rw [Array.getElem?_push, if_pos h2.1] at hc
                simp at hc
                subst hj; subst hc
                exact ⟨hk.mono g (fun _ _ h => h), hv.mono g (fun _ _ h => h), rfl⟩
              · rw [List.getElem?_eq_none (by simp; omega)] at hj; cases hj
      · cases h
    · cases h
  · cases h

/-- A new object that is no row of cells. -/
theorem obj_new (hS : Sess E F φ st w) {ab : AB} (hl : live ab = true) (o : Obj)
    (hfor : ∀ (B' : Nat → Prop) (φ' : Phi), (∀ b x, φ b = some x → φ' b = some x) → Goes (Bd F φ st) w B' (pushed w o) → ORel E.P B' (pushed w o) φ' w.heap.size 0 ab) :
    Sess E F (phiSet φ st.length w.heap.size 0) (st ++ [ab]) (pushed w o) ∧ Ext φ st w (phiSet φ st.length w.heap.size 0) (st ++ [ab]) (pushed w o) ∧ phiSet φ st.length w.heap.size 0 st.length = some (w.heap.size, 0) := by
  obtain ⟨g1, g2⟩ := hS.ghost ab
  have hf := hS.fresh (Nat.le_refl st.length)
  have hB : Bd F φ (st ++ [ab]) = Bd F φ st := funext fun cb => by simp only [Bd, own_ghost hf]
  obtain ⟨r1, r2⟩ := g1.realize (b := st.length) (ab := ab) (by simp) hl hf o (fun B' g => hfor B' _ (phiSet_le hf) (by rw [hB] at g; exact g))
  exact ⟨r1, ghost_real g2 r2 rfl, by simp [phiSet]⟩

theorem rangeE_sound (hS : Sess E F φ st w) {t : TypeId} {x v : AV} {ux : Value} {st' : St} (h : rangeE E.P st t x = some (v, st')) (hx : VRel (Bd F φ st) w φ x ux) :
    Comes1 E F φ st w (Instr.range t ux) v st' := by
  have ptr0 : ∀ {φ' : Phi} {w' : World} {st'' : St}, φ' st.length = some (w.heap.size, 0) → VRel (Bd F φ' st'') w' φ' (.ptr st.length 0) (.pointer (some ⟨w.heap.size, 0, none⟩)) := by
    intro φ' w' st'' hp
    have := VRel.ptr (B := Bd F φ' st'') (w := w') (off := 0) hp
    simpa using this
  unfold rangeE at h
  split at h
  · rename_i k e hu
    simp at h; obtain ⟨rfl, rfl⟩ := h
    cases hx
    obtain ⟨s1, s2, s3⟩ := obj_new hS (ab := .iter none 0 [] 0) rfl (.mapIter none 0 #[] 0) (fun B' φ' _ _ => ⟨rfl, none, pushed_new w _, (fun _ => rfl), (fun b hb => by cases hb)⟩)
    exact ⟨_, _, _, by simp [Instr.range, run_und hu, pushed], s1, s2, ptr0 s3⟩
  · rename_i k e b hu
    rw [get?_eq] at h
    split at h
    · rename_i es clock hb
      simp at h; obtain ⟨rfl, rfl⟩ := h
      cases hx with
      | map hp =>
        rename_i cb co
        obtain ⟨ces, h1, h2⟩ := hS.blk b _ cb co hb hp
        obtain ⟨s1, s2, s3⟩ := obj_new hS (ab := .iter (some b) clock [] clock) rfl (.mapIter (some cb) clock #[] clock) (fun B' φ' hle _ => ⟨rfl, some cb, pushed_new w _, (fun h => by cases h), (fun b' hb' => by cases hb'; exact ⟨cb, co, rfl, hle _ _ hp⟩)⟩)
        exact ⟨_, _, _, by simp [Instr.range, run_und hu, getObj_run h1, pushed], s1, s2, ptr0 s3⟩
    · cases h
  · rename_i s hu
    simp at h; obtain ⟨rfl, rfl⟩ := h
    cases hx
    obtain ⟨s1, s2, s3⟩ := obj_new hS (ab := .siter s 0) rfl (.stringIter ⟨s.toArray⟩ 0) (fun B' φ' _ _ => ⟨rfl, pushed_new w _⟩)
    exact ⟨_, _, _, by simp [Instr.range, run_und hu, pushed], s1, s2, ptr0 s3⟩
  · cases h

theorem tup3 {B : Nat → Prop} {x y z : AV} {u v t : Value} (hx : VRel B w φ x u) (hy : VRel B w φ y v) (hz : VRel B w φ z t) : VRel B w φ (.tup [x, y, z]) (.tuple #[u, v, t]) :=
  .tup rfl (fun j a b ha hb => by
    match j with
    | 0 => simp at ha hb; subst ha; subst hb; exact hx
    | 1 => simp at ha hb; subst ha; subst hb; exact hy
    | 2 => simp at ha hb; subst ha; subst hb; exact hz
    | j + 3 => simp at ha)

theorem tup1 {B : Nat → Prop} {x : AV} {u : Value} (hx : VRel B w φ x u) : VRel B w φ (.tup [x]) (.tuple #[u]) :=
  .tup rfl (fun j a b ha hb => by
    match j with
    | 0 => simp at ha hb; subst ha; subst hb; exact hx
    | j + 1 => simp at ha)

/-- Filters on both sides. -/
theorem ent_filter {B : Nat → Prop} : ∀ {es : List AEnt} {ces : List MapEntry} (p : Nat → Bool), es.length = ces.length →
    (∀ (j : Nat) e c, es[j]? = some e → ces[j]? = some c → VRel B w φ e.key c.key ∧ VRel B w φ e.val c.val ∧ e.born = c.born) →
    (es.filter fun e => p e.born).length = (ces.filter fun c => p c.born).length ∧
    (∀ (j : Nat) e c, (es.filter fun e => p e.born)[j]? = some e → (ces.filter fun c => p c.born)[j]? = some c → VRel B w φ e.key c.key ∧ VRel B w φ e.val c.val ∧ e.born = c.born)
  | [], ces, p, hl, hr => by
    have : ces = [] := List.eq_nil_of_length_eq_zero hl.symm
    subst this; exact ⟨rfl, fun j e c h => by simp at h⟩
  | e :: es, [], p, hl, hr => by simp at hl
  | e :: es, c :: ces, p, hl, hr => by
    obtain ⟨i1, i2⟩ := ent_filter (es := es) (ces := ces) p (by simpa using hl) (fun j e c he hc => hr (j + 1) e c (by simpa using he) (by simpa using hc))
    have h0 := hr 0 e c rfl rfl
    cases hp : p e.born with
    | true =>
      have hp' : p c.born = true := by rw [← h0.2.2]; exact hp
      simp only [List.filter_cons, hp, hp', if_true]
      refine ⟨by simp [i1], fun j e' c' he hc => ?_⟩
      cases j with
      | zero => simp at he hc; subst he; subst hc; exact h0
      | succ j => exact i2 j e' c' (by simpa using he) (by simpa using hc)
    | false =>
      have hp' : p c.born = false := by rw [← h0.2.2]; exact hp
      simp only [List.filter_cons, hp, hp', if_false, Bool.false_eq_true]
      exact ⟨i1, i2⟩

theorem nextE_sound (hS : Sess E F φ st w) {x v : AV} {ux : Value} {st' : St} {isS : Bool} {ty : TypeId} (h : nextE st x isS = some (v, st')) (hx : VRel (Bd F φ st) w φ x ux) :
    Comes1 E F φ st w (Instr.next ux isS ty) v st' := by
  unfold nextE at h
  split at h
  · rename_i r
    rw [get?_eq] at h
    cases hx with
    | ptr hp =>
      rename_i cb co
      split at h
      · rename_i since seen stepped hb
        simp at h; obtain ⟨rfl, rfl⟩ := h
        obtain ⟨h0, cm, h1, h2, h3⟩ := hS.blk r _ cb co hb hp
        subst h0
        obtain rfl := h2 rfl
        exact ⟨.tuple #[.bool false], φ, w, by simp [Instr.next, getObj_run h1], hS, Ext.refl _ _ _, tup1 (.bool _)⟩
      · rename_i m since seen last hb
        rw [get?_eq] at h
        split at h
        · rename_i es clock hm
          obtain ⟨h0, cm, h1, h2, h3⟩ := hS.blk r _ cb co hb hp
          subst h0
          obtain ⟨cmb, y, rfl, hpm⟩ := h3 m rfl
          obtain ⟨ces, m1, m2⟩ := hS.blk m _ cmb y hm hpm
          split at h
          · cases h
          · rename_i hcond
            simp only at h
            have hnc1 : ∀ c t f, Obj.mapIter (some cmb) since seen.toArray last ≠ .cells c t f := by simp
            have hnc2 : ∀ c t f, Obj.map ces clock ≠ .cells c t f := by simp
            have hfl := ent_filter (B := Bd F φ st) (w := w) (φ := φ) (es := es) (ces := ces.toList) (fun b => !seen.contains b) (by simpa using m2.1) (fun j e c he hc => m2.2 j e c he (by simpa using hc))
            have hold := ent_filter (B := Bd F φ st) (w := w) (φ := φ) (fun b => decide (b < since)) hfl.1 hfl.2
            have hnew := ent_filter (B := Bd F φ st) (w := w) (φ := φ) (fun b => decide (since ≤ b)) hfl.1 hfl.2
            have hempty : es.isEmpty = ces.isEmpty := by
              have := m2.1
              cases es with
              | nil => simp at this; simp [Array.isEmpty, this.symm]
              | cons a l =>
                have h5 : ces.size ≠ 0 := by simp at this; omega
                simp [Array.isEmpty, h5]
            have hall : es.all (fun e => decide (last ≤ e.born)) = ces.all (·.born ≥ last) := by
              rw [← Array.all_toList]
              have hl2 : es.length = ces.toList.length := by simpa using m2.1
              have hr2 : ∀ (j : Nat) e c, es[j]? = some e → ces.toList[j]? = some c → e.born = c.born := fun j e c he hc => (m2.2 j e c he (by simpa using hc)).2.2
              generalize ces.toList = cl at hl2 hr2
              clear hfl hold hnew hcond h hm m2 hempty
              induction es generalizing cl with
              | nil => simp at hl2; simp [List.eq_nil_of_length_eq_zero hl2.symm]
              | cons e es ih =>
                cases cl with
                | nil => simp at hl2
                | cons c cl =>
                  simp only [List.all_cons]
                  rw [ih cl (by simpa using hl2) (fun j e c he hc => hr2 (j + 1) e c (by simpa using he) (by simpa using hc)), hr2 0 e c rfl rfl]
            have hguard : (!seen.toArray.isEmpty && !ces.isEmpty && ces.all (·.born ≥ last)) = false := by
              have e1 : seen.toArray.isEmpty = seen.isEmpty := by simp
              rw [e1, ← hempty, ← hall]
              simpa using hcond
            have lists : ∀ (l : Array MapEntry), (l.filter (fun e => !seen.toArray.contains e.born)).toList = l.toList.filter fun e => !seen.contains e.born := by
              intro l; simp
            generalize hcl : ces.filter (fun e => !seen.toArray.contains e.born) = cl
            have hcl' : cl.toList = ces.toList.filter fun e => !seen.contains e.born := by rw [← hcl, lists]
            generalize hco : cl.filter (fun e => decide (e.born < since)) = cold
            have hco' : cold.toList = (ces.toList.filter fun e => !seen.contains e.born).filter fun e => decide (e.born < since) := by rw [← hco, ← hcl']; simp
            generalize hcn : cl.filter (fun e => decide (e.born ≥ since)) = cnew
            have hcn' : cnew.toList = (ces.toList.filter fun e => !seen.contains e.born).filter fun e => decide (since ≤ e.born) := by rw [← hcn, ← hcl']; simp [ge_iff_le]
            rw [← hco'] at hold
            rw [← hcn'] at hnew
            split at h
            · rename_i ho hn
              simp only [Option.some.injEq, Prod.mk.injEq] at h
              obtain ⟨rfl, rfl⟩ := h
              rw [ho] at hold
              rw [hn] at hnew
              have e1 : cold = #[] := by have := hold.1; simp at this; exact Array.eq_empty_of_size_eq_zero this.symm
              have e2 : cnew = #[] := by have := hnew.1; simp at this; exact Array.eq_empty_of_size_eq_zero this.symm
              refine ⟨.tuple #[.bool false], φ, w, ?_, hS, Ext.refl _ _ _, tup1 (.bool _)⟩
              simp only [Instr.next, Sem.run_bind, getObj_run h1 hnc1, Result.andThen_ok, getObj_run m1 hnc2, hguard, Bool.false_eq_true, if_false, hcl, hco, hcn, e1, e2, Sem.run_ite, Sem.run_pure]
              simp [choose, Sem.run, Question.forced]
            · rename_i e ho hn
              simp only [Option.some.injEq, Prod.mk.injEq] at h
              obtain ⟨rfl, rfl⟩ := h
              rw [ho] at hold
              rw [hn] at hnew
              have e2 : cnew = #[] := by have := hnew.1; simp at this; exact Array.eq_empty_of_size_eq_zero this.symm
              obtain ⟨c, e1⟩ : ∃ c, cold = #[c] := by
                have h5 := hold.1
                have : cold.toList.length = 1 := by simpa using h5.symm
                obtain ⟨c, hc⟩ := List.length_eq_one_iff.1 this
                exact ⟨c, by apply Array.ext'; simpa using hc⟩
              rw [e1] at hold
              obtain ⟨k1, k2, k3⟩ := hold.2 0 e c rfl rfl
              refine ⟨.tuple #[.bool true, c.key, c.val], φ, setAt w cb (.mapIter (some cmb) since (seen.toArray.push c.born) clock), ?_, ?_⟩
              · simp only [Instr.next, Sem.run_bind, getObj_run h1 hnc1, Result.andThen_ok, getObj_run m1 hnc2, hguard, Bool.false_eq_true, if_false, hcl, hco, hcn, e1, e2, Sem.run_ite, Sem.run_pure]
                simp [choose, Sem.run, Question.forced, setObj_run h1 hnc1]
              · rw [upd_eq]
                have g : Goes (Bd F φ st) w (Bd F φ st) (setAt w cb (.mapIter (some cmb) since (seen.toArray.push c.born) clock)) :=
                  goes_setAt (.inr ⟨r, _, 0, hb, rfl, hp⟩) h1 (fun c t fz hc => by cases hc)
                obtain ⟨s1, s2⟩ := hS.change (ab' := .iter (some m) since (seen ++ [e.born]) clock) (o' := .mapIter (some cmb) since (seen.toArray.push c.born) clock) hb rfl rfl hp
                  (fun c t fz hc => by rw [h1] at hc; cases hc) ⟨rfl, some cmb, by rw [setAt_same h1, k3]; simp, (fun h => by cases h), (fun b' hb' => by cases hb'; exact ⟨cmb, y, rfl, hpm⟩)⟩
                exact ⟨s1, s2, tup3 (.bool _) (s2.val k1) (s2.val k2)⟩
            · cases h
        · cases h
      · rename_i s pos hb
        obtain ⟨h0, h1⟩ := hS.blk r _ cb co hb hp
        subst h0
        have hnc : ∀ c t f, Obj.stringIter ⟨s.toArray⟩ pos ≠ .cells c t f := by simp
        have hsz : (⟨s.toArray⟩ : ByteArray).size = s.length := by simp [ByteArray.size]
        split at h
        · rename_i hlt
          simp only [Option.some.injEq, Prod.mk.injEq] at h
          obtain ⟨rfl, rfl⟩ := h
          refine ⟨.tuple #[.bool true, goInt pos, .int .i32 (Utf8.decode ⟨s.toArray⟩ pos).1], φ, setAt w cb (.stringIter ⟨s.toArray⟩ (pos + (Utf8.decode ⟨s.toArray⟩ pos).2)), ?_, ?_⟩
          · simp [Instr.next, getObj_run h1 hnc, hsz, hlt, setObj_run h1 hnc]
          · rw [upd_eq]
            obtain ⟨s1, s2⟩ := hS.change (ab' := .siter s (pos + (Utf8.decode ⟨s.toArray⟩ pos).2)) (o' := .stringIter ⟨s.toArray⟩ (pos + (Utf8.decode ⟨s.toArray⟩ pos).2)) hb rfl rfl hp
              (fun c t fz hc => by rw [h1] at hc; cases hc) ⟨rfl, setAt_same h1⟩
            exact ⟨s1, s2, tup3 (.bool _) (.int _ _) (.int _ _)⟩
        · rename_i hlt
          simp only [Option.some.injEq, Prod.mk.injEq] at h
          obtain ⟨rfl, rfl⟩ := h
          exact ⟨.tuple #[.bool false], φ, w, by simp [Instr.next, getObj_run h1 hnc, hsz, hlt], hS, Ext.refl _ _ _, tup1 (.bool _)⟩
      · cases h
  · cases h

theorem entryE_sound (hS : Sess E F φ st w) {x v : AV} {ux : Value} (h : entryE st x = some v) (hx : VRel (Bd F φ st) w φ x ux) :
    Gives E.P w (Bd F φ st) φ (Instr.entry ux) v := by
  unfold entryE at h
  split at h
  · rename_i r
    rw [get?_eq] at h
    cases hx with
    | ptr hp =>
      rename_i cb co
      split at h
      · rename_i m since seen stepped hb
        rw [get?_eq] at h
        split at h
        · rename_i es clock stamp hm hst
          split at h
          · rename_i hcl
            subst hcl
            simp only [Option.map_eq_some_iff] at h
            obtain ⟨e, he, rfl⟩ := h
            obtain ⟨h0, cm, h1, h2, h3⟩ := hS.blk r _ cb co hb hp
            subst h0
            obtain ⟨cmb, y, rfl, hpm⟩ := h3 m rfl
            obtain ⟨ces, m1, m2⟩ := hS.blk m _ cmb y hm hpm
            have hback : seen.toArray.back? = some stamp := by simp [hst]
            have hfind : ∃ c, ces.find? (fun x => x.born == stamp) = some c ∧ VRel (Bd F φ st) w φ e.key c.key ∧ VRel (Bd F φ st) w φ e.val c.val := by
              rw [← Array.find?_toList]
              have hl2 : es.length = ces.toList.length := by simpa using m2.1
              have hr2 : ∀ (j : Nat) e c, es[j]? = some e → ces.toList[j]? = some c → VRel (Bd F φ st) w φ e.key c.key ∧ VRel (Bd F φ st) w φ e.val c.val ∧ e.born = c.born := fun j e c he hc => m2.2 j e c he (by simpa using hc)
              generalize ces.toList = cl at hl2 hr2
              clear hm m2
              induction es generalizing cl with
              | nil => simp at he
              | cons e0 es ih =>
                cases cl with
                | nil => simp at hl2
                | cons c cl =>
                  obtain ⟨k1, k2, k3⟩ := hr2 0 e0 c rfl rfl
                  rw [List.find?_cons] at he ⊢
                  rw [← k3]
                  cases hbs : e0.born == stamp with
                  | true => rw [hbs] at he; simp at he; subst he; exact ⟨c, rfl, k1, k2⟩
                  | false => rw [hbs] at he; exact ih he cl (by simpa using hl2) (fun j e c he hc => hr2 (j + 1) e c (by simpa using he) (by simpa using hc))
            obtain ⟨c, hc, k1, k2⟩ := hfind
            have hnc1 : ∀ c t f, Obj.mapIter (some cmb) since seen.toArray clock ≠ .cells c t f := by simp
            have hnc2 : ∀ c t f, Obj.map ces clock ≠ .cells c t f := by simp
            refine ⟨.tuple #[c.key, c.val], ?_, tup2 k1 k2⟩
            simp [Instr.entry, getObj_run h1 hnc1, hst, getObj_run m1 hnc2, hc]
          · cases h
        · cases h
      · cases h
  · cases h

end
end Go.Proofs.YtbjhjladdkbnmaaGreatDoor.Gx
