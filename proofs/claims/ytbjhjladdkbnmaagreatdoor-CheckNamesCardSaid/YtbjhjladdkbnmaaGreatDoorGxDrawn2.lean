/-
  Soundness of a region that draws its order (2): all of it.
-/
import Derived.Test.YtbjhjladdkbnmaaGreatDoorGxDrawn
namespace Go.Proofs.YtbjhjladdkbnmaaGreatDoor.Gx
open Go

theorem stable_spec {E : Env} {o : Oper} {st : St} : ∀ {ps ps' : List Pend}, stable E o st ps = some ps' → (∀ x ∈ ps', x ∈ ps) ∧ ∀ x ∈ ps, waitsOn o x.num = true ∨ (still E st x = true ∧ x ∈ ps')
  | [], ps', h => by simp [stable] at h; subst h; exact ⟨fun x hx => by simp at hx, fun x hx => by simp at hx⟩
  | p :: ps, ps', h => by
    unfold stable at h
    split at h
    · cases h
    · rename_i ps1 h1
      obtain ⟨i1, i2⟩ := stable_spec h1
      split at h
      · rename_i hw
        simp at h; subst h
        refine ⟨fun x hx => by simp [i1 x hx], fun x hx => ?_⟩
        rcases List.mem_cons.1 hx with rfl | hx
        · exact .inl hw
        · exact i2 x hx
      · split at h
        · rename_i hw hs
          simp at h; subst h
          refine ⟨fun x hx => ?_, fun x hx => ?_⟩
          · rcases List.mem_cons.1 hx with rfl | hx
            · simp
            · simp [i1 x hx]
          · rcases List.mem_cons.1 hx with rfl | hx
            · exact .inr ⟨hs, by simp⟩
            · exact (i2 x hx).imp id (fun ⟨a, b⟩ => ⟨a, by simp [b]⟩)
        · cases h

theorem forget_len : ∀ (ops : List Oper) (tm : List AV), (forget ops tm).length = tm.length
  | [], tm => rfl
  | o :: ops, tm => by
    unfold forget
    split
    · rw [forget_len ops, upd_eq]; simp
    · exact forget_len ops tm

/-- What is forgotten is unknown; the rest is as it was. -/
theorem forget_nth : ∀ (ops : List Oper) (tm : List AV) (t : Nat), t < tm.length → (nth (forget ops tm) t = .unk) ∨ (nth (forget ops tm) t = nth tm t ∧ ∀ o ∈ ops, o.dst ≠ some t)
  | [], tm, t, _ => .inr ⟨rfl, fun o ho => by simp at ho⟩
  | o :: ops, tm, t, ht => by
    unfold forget
    cases hd : o.dst with
    | none =>
      rcases forget_nth ops tm t ht with h | ⟨h1, h2⟩
      · exact .inl h
      · refine .inr ⟨h1, fun x hx => ?_⟩
        rcases List.mem_cons.1 hx with rfl | hx
        · rw [hd]; simp
        · exact h2 x hx
    | some d =>
      simp only
      rcases forget_nth ops (upd tm d .unk) t (by rw [upd_eq]; simpa using ht) with h | ⟨h1, h2⟩
      · exact .inl h
      · by_cases e : d = t
        · subst e
          rw [nth_upd_self ht] at h1
          exact .inl h1
        · rw [nth_upd_ne e] at h1
          refine .inr ⟨h1, fun x hx => ?_⟩
          rcases List.mem_cons.1 hx with rfl | hx
          · rw [hd]; simp [e]
          · exact h2 x hx

theorem nth_get {tm : List AV} {t : Nat} {x : AV} (h : tm[t]? = some x) : nth tm t = x := by rw [nth_eq, h]; rfl

theorem list_ext_nth {a b : List AV} (hl : a.length = b.length) (h : ∀ t, nth a t = nth b t) : a = b := by
  apply List.ext_getElem?
  intro i
  rcases Nat.lt_or_ge i a.length with hlt | hge
  · have h1 := nth_get (List.getElem?_eq_getElem hlt)
    have h2 := nth_get (List.getElem?_eq_getElem (show i < b.length by omega))
    rw [List.getElem?_eq_getElem hlt, List.getElem?_eq_getElem (show i < b.length by omega), ← h1, ← h2, h i]
  · rw [List.getElem?_eq_none hge, List.getElem?_eq_none (by omega)]

section
variable {E : Env} {F : Nat → Prop} {ops : List Oper} {φ0 : Phi} {st0 : St} {w0 : World} {kd : CallKind} {ro : Option Nat} {df : List Deferred} {cs : List Frame}
  {lA : List Bool} {ps : List Pend} {frA : Fr} {stA : St} {D : Array Bool} {φ : Phi} {w : World} {tmps : Array Value} {frD : Fr}

theorem count_set {D : Array Bool} {i : Nat} (hlt : i < D.size) (hf : D.getD i false = false) : (D.setIfInBounds i true).toList.count true = D.toList.count true + 1 := by
  have key : ∀ (l : List Bool) (i : Nat), l[i]? = some false → (l.set i true).count true = l.count true + 1 := by
    intro l
    induction l with
    | nil => intro i h; simp at h
    | cons b l ih =>
      intro i h
      cases i with
      | zero => simp at h; subst h; simp
      | succ i =>
        simp at h
        simp only [List.set_cons_succ, List.count_cons, ih i h]
        omega
  rw [Array.toList_setIfInBounds]
  refine key _ _ ?_
  simp [Array.getD, hlt] at hf
  simp [hlt, hf]

theorem all_of_count {D : Array Bool} (h : D.toList.count true = D.size) (i : Nat) (hi : i < D.size) : D.getD i false = true := by
  have : ∀ b ∈ D.toList, true = b := List.count_eq_length.1 (by simpa using h)
  have hm := this D[i] (by simp)
  simp [Array.getD, hi, ← hm]

/-- All is done on both sides. -/
theorem DInv.done (hI : DInv E F ops φ0 st0 w0 kd ro df cs lA ps frA stA D φ w tmps frD) (hall : ∀ i, i < D.size → D.getD i false = true) : FRel (Bd F φ stA) w φ frA kd ro tmps df cs := by
  have htm : frD.tm = frA.tm := list_ext_nth hI.len (fun t => by
    rcases hI.tm t with ⟨i, o, h1, _, _, h4⟩ | h
    · rw [hall i (by rw [hI.lenD]; exact lt_of_get h1)] at h4; cases h4
    · exact h)
  have : frD = frA := by
    obtain ⟨a, b, c, d⟩ := frD
    obtain ⟨a', b', c', d'⟩ := frA
    have h1 := hI.df; have h2 := hI.rc; have h3 := hI.ro
    simp only at htm h1 h2 h3
    subst htm; subst h1; subst h2; subst h3; rfl
  rw [← this]; exact hI.fr

theorem drawn_sound {cal : Cal} (hcal : CalOk E cal) (hssa : Ssa ops) {opsA : Array Oper} (hA : opsA.toList = ops) {fn : FuncId} (k : List Item) (tmps0 : Array Value) :
    ∀ (m : Nat) (lA : List Bool) (ps : List Pend) (frA : Fr) (stA : St) (out : OpOut), drawn E cal ops m lA ps frA stA = some out →
    ∀ (f t : Nat) (D : Array Bool) (φ : Phi) (w : World) (tmps : Array Value) (frD : Fr), DInv E F ops φ0 st0 w0 kd ro df cs lA ps frA stA D φ w tmps frD → f + D.toList.count true = ops.length →
      OpOk E F φ0 st0 w0 fn kd ro tmps0 df cs (lone (mkF fn kd ro tmps df (.inRegion opsA (todoL opsA f t D) :: k)) cs w) k out
  | 0, _, _, _, _, _, h => by simp [drawn] at h
  | m + 1, lA, ps, frA, stA, out, h => by
    have ih := drawn_sound (fn := fn) hcal hssa hA k tmps0 m
    unfold drawn at h
    -- the operations that may come up
    have hready : ∀ i, lA.length = ops.length → (i ∈ readyL lA ops lA 0 ↔ ∃ o, ops[i]? = some o ∧ bit lA i = false ∧ ∀ q, waitsOn o q = true → bit lA q = true) := by
      intro i hl
      rw [mem_readyL hl.symm]
      simp only [Nat.zero_le, true_and, Nat.sub_zero, readyB_iff]
    -- a skipped operation
    have skip : ∀ (i : Nat) (o : Oper), ops[i]? = some o → wants ops frA.tm o = some false → i ∈ readyL lA ops lA 0 → drawn E cal ops m (upd lA i true) ps (put frA o.dst (.tup [])) stA = some out →
        ∀ (f t : Nat) (D : Array Bool) (φ : Phi) (w : World) (tmps : Array Value) (frD : Fr), DInv E F ops φ0 st0 w0 kd ro df cs lA ps frA stA D φ w tmps frD → f + D.toList.count true = ops.length →
          OpOk E F φ0 st0 w0 fn kd ro tmps0 df cs (lone (mkF fn kd ro tmps df (.inRegion opsA (todoL opsA f t D) :: k)) cs w) k out := by
      intro i o ho hw hi h f t D φ w tmps frD hI hf
      obtain ⟨o', ho', hb, hr⟩ := (hready i hI.lenA).1 hi
      rw [ho] at ho'; cases ho'
      have hlk : ∀ t ∈ looks ops o, nth (put frA o.dst (.tup [])).tm t = nth frA.tm t := by
        intro t ht
        refine put_tm_ne (fun e => ?_)
        have := hssa.edge i o i ho (hssa.reads i i o o t ho ho e ht)
        omega
      have hI' := hI.take hssa ho hb hr (v := .tup []) (p := []) (.inl rfl) hI.sess (Ext0.refl _ _ _)
        ⟨.tup [], fun d hd hlt => by rw [put_len] at hlt; rw [put_tm, hd]; exact nth_upd_self hlt, .inl ⟨by rw [wants_congr hlk]; exact hw, rfl⟩⟩ (fun j b ab hm => by simp at hm)
      exact ih _ _ _ _ _ h f t D φ w tmps frD hI' hf
    split at h
    · -- a quiet operation
      rename_i i o hq
      obtain ⟨hi, ho, hk⟩ := firstQ_some hq
      split at h
      · rename_i hw
        exact skip i o ho hw hi h
      · rename_i hw
        split at h
        · rename_i v p st' hqo
          intro f t D φ w tmps frD hI hf
          obtain ⟨o', ho', hb, hr⟩ := (hready i hI.lenA).1 hi
          rw [ho] at ho'; cases ho'
          have hlk : ∀ t ∈ looks ops o, nth (put frA o.dst v).tm t = nth frA.tm t := by
            intro t ht
            refine put_tm_ne (fun e => ?_)
            have := hssa.edge i o i ho (hssa.reads i i o o t ho ho e ht)
            omega
          have hag : ∀ x ∈ o.op.operands, Agr frA (put frA o.dst v) x := by
            intro x hx t e; subst e; exact (hlk t (mem_looks hx)).symm
          have hdst : ∀ d, o.dst = some d → d < (put frA o.dst v).tm.length → nth (put frA o.dst v).tm d = v := by
            intro d hd hlt; rw [put_len] at hlt; rw [put_tm, hd]; exact nth_upd_self hlt
          unfold quietOp at hqo
          split at hqo
          · rename_i hkp
            split at hqo
            · rename_i v' hv
              split at hqo
              · rename_i p' hp
                simp at hqo; obtain ⟨rfl, rfl, rfl⟩ := hqo
                have hI' := hI.take hssa ho hb hr (v := v') (p := p') (.inl rfl) hI.sess (Ext0.refl _ _ _)
                  ⟨v', hdst, .inr (.inl ⟨by rw [wants_congr hlk]; exact hw, hkp, by rw [← pureOp_congr hag]; exact hv, p', by rw [← pendOf_congr hag]; exact hp, fun x hx => List.mem_append.2 (.inl hx)⟩)⟩
                  (fun j b ab hm => by
                    exfalso
                    cases hop : o.op <;> rw [hop] at hp <;> simp only [pendOf] at hp <;> first
                      | (simp at hp; subst hp; simp at hm; done)
                      | (split at hp <;> simp at hp <;> subst hp <;> simp at hm; done)
                      | skip
                    all_goals (simp only [pendCall] at hp; split at hp <;> simp at hp <;> subst hp <;> simp at hm))
                exact ih _ _ _ _ _ h f t D φ w tmps frD hI' hf
              · cases hqo
            · cases hqo
          · rename_i hka
            split at hqo
            · rename_i ab mk hal
              simp at hqo; obtain ⟨rfl, rfl, rfl⟩ := hqo
              obtain ⟨g1, g2⟩ := hI.sess.ghost ab
              have hI' := hI.take hssa ho hb hr (v := mk stA.length) (p := [.blk i stA.length ab]) (.inr ⟨ab, rfl⟩) g1 g2.toExt0
                ⟨mk stA.length, hdst, .inr (.inr ⟨by rw [wants_congr hlk]; exact hw, hka, ab, mk, stA.length, by rw [← allocOp_congr hag]; exact hal, rfl, by simp, hI.sess.fresh (Nat.le_refl _), hI.ext.len, by simp⟩)⟩
                (fun j b ab' hm => by simp at hm; exact ⟨hm.1, hm.2.1, by simp⟩)
              exact ih _ _ _ _ _ h f t D φ w tmps frD hI' hf
            · cases hqo
          · cases hqo
        · cases h
      · cases h
    · rename_i hq
      split at h
      · -- the end
        rename_i hr0
        split at h
        · simp at h; subst h
          intro f
          induction f with
          | zero =>
            intro t D φ w tmps frD hI hf
            have hall := all_of_count (D := D) (by have := hI.lenD; omega)
            refine ⟨φ, w, tmps, df, cs, hI.sess, ⟨hI.ext, hI.old⟩, hI.done hall, .refl _ _, .one ?_⟩
            exact st_region_end
          | succ f ihf =>
            intro t D φ w tmps frD hI hf
            rcases todoL_cases opsA (f + 1) t D with ⟨h1, h2⟩ | ⟨f', t', i, h1, h2, h3⟩
            · have hall : ∀ i, i < D.size → D.getD i false = true := by
                intro i hi
                cases hd : D.getD i false with
                | true => rfl
                | false =>
                  rcases h2 with h2 | h2
                  · omega
                  · exact absurd h2 (ready_ex (by rw [hA]; exact hssa) (by rw [hI.lenD, ← hA]; simp) hi hd)
              rw [h1]
              exact ⟨φ, w, tmps, df, cs, hI.sess, ⟨hI.ext, hI.old⟩, hI.done hall, .refl _ _, .one st_region_end⟩
            · obtain rfl : f' = f := by omega
              obtain ⟨o, hoA, hilt, hDi, hr⟩ := ready_spec h2
              have ho : ops[i]? = some o := by rw [← hA]; simpa using hoA
              have hb : bit lA i = true := by
                cases hb : bit lA i with
                | true => rfl
                | false =>
                  have := (hready i hI.lenA).2 ⟨o, ho, hb, fun q hq => hI.sub q (hr q hq)⟩
                  rw [hr0] at this; simp at this
              obtain ⟨φ', w', tmps', frD', hI', hs⟩ := hI.run hssa hA h2 hb fn (todoL opsA f' t' (D.setIfInBounds i true)) k
              rw [h3]
              have := ihf t' _ φ' w' tmps' frD' hI' (by rw [count_set hilt hDi]; omega)
              exact OpOk.of_steps hs (Ext.refl _ _ _) (.refl _ _) this
        · cases h
      · -- an effect
        rename_i i hr1
        rw [get?_eq] at h
        split at h
        · cases h
        · rename_i o ho
          split at h
          · rename_i hw
            exact skip i o ho hw (by rw [hr1]; simp) h
          · rename_i hw
            intro f
            induction f with
            | zero =>
              intro t D φ w tmps frD hI hf
              have hall := all_of_count (D := D) (by have := hI.lenD; omega)
              obtain ⟨o', ho', hb, _⟩ := (hready i hI.lenA).1 (by rw [hr1]; simp)
              have := hI.sub i (hall i (by rw [hI.lenD]; exact lt_of_get ho))
              rw [hb] at this; cases this
            | succ f ihf =>
              intro t D φ w tmps frD hI hf
              obtain ⟨o', ho', hbi, _⟩ := (hready i hI.lenA).1 (by rw [hr1]; simp)
              rw [ho] at ho'; cases ho'
              have hDi0 : D.getD i false = false := by
                cases hd : D.getD i false with
                | false => rfl
                | true => rw [hI.sub i hd] at hbi; cases hbi
              rcases todoL_cases opsA (f + 1) t D with ⟨h1, h2⟩ | ⟨f', t', j, h1, h2, h3⟩
              · rcases h2 with h2 | h2
                · omega
                · exact absurd h2 (ready_ex (by rw [hA]; exact hssa) (by rw [hI.lenD, ← hA]; simp) (by rw [hI.lenD]; exact lt_of_get ho) hDi0)
              · obtain rfl : f' = f := by omega
                obtain ⟨oj, hojA, hjlt, hDj, hrj⟩ := ready_spec h2
                have hoj : ops[j]? = some oj := by rw [← hA]; simpa using hojA
                cases hbj : bit lA j with
                | true =>
                  -- something that was pending
                  obtain ⟨φ', w', tmps', frD', hI', hs⟩ := hI.run hssa hA h2 hbj fn (todoL opsA f' t' (D.setIfInBounds j true)) k
                  rw [h3]
                  have := ihf t' _ φ' w' tmps' frD' hI' (by rw [count_set hjlt hDj]; omega)
                  exact OpOk.of_steps hs (Ext.refl _ _ _) (.refl _ _) this
                | false =>
                  -- the effect itself
                  have hij : j = i := by
                    have := (hready j hI.lenA).2 ⟨oj, hoj, hbj, fun q hq => hI.sub q (hrj q hq)⟩
                    rw [hr1] at this; simpa using this
                  subst hij
                  rw [ho] at hoj; cases hoj
                  have hag := hI.agree hssa ho hrj
                  have hop : ∀ x ∈ o.op.operands, Agr frD frA x := by
                    intro x hx t e; subst e; exact hag t (mem_looks hx)
                  have hwA := wants_sound hA hI.fr.tm (show wants ops frD.tm o = some true by rw [wants_congr hag]; exact hw)
                  rw [h3]
                  split at h
                  · rename_i v st' he
                    split at h
                    · rename_i ps' hstab
                      have he' : effOp o.op E cal frD stA = some (.val v st') := by rw [effOp_congr hop]; exact he
                      obtain ⟨φ', w', u, s1, s2, s3, s4⟩ := effOp_sound hcal hI.sess hI.fr.tm he' fn kd ro df k cs opsA j (todoL opsA f' t' (D.setIfInBounds j true)) hojA hwA
                      obtain ⟨p1, p2⟩ := stable_spec hstab
                      have g := s2.toExt0.goes (F := F)
                      have hjl : j < lA.length := by rw [hI.lenA]; exact lt_of_get ho
                      have hI' : DInv E F ops φ0 st0 w0 kd ro df cs (upd lA j true) ps' (put frA o.dst v) st' (D.setIfInBounds j true) φ' w' (putT tmps o.dst u) (put frD o.dst v) := by
                        refine ⟨by rw [upd_eq]; simpa using hI.lenA, by simpa using hI.lenD, fun x hx => ?_, fun x ox hx hox q hq => ?_, s1, hI.ext.trans s2.toExt0,
                          fun b hb => by rw [s2.old b (Nat.lt_of_lt_of_le hb hI.ext.len), hI.old b hb], (hI.fr.mono g s2.phi).put o.dst s3,
                          by rw [(put_rest frD o.dst v).1, (put_rest frA o.dst v).1]; exact hI.df, by rw [(put_rest frD o.dst v).2.1, (put_rest frA o.dst v).2.1]; exact hI.rc,
                          by rw [(put_rest frD o.dst v).2.2, (put_rest frA o.dst v).2.2]; exact hI.ro, by rw [put_len, put_len]; exact hI.len, fun t => ?_, fun x ox hox hbx hDx => ?_,
                          fun a b ab hm => Nat.lt_of_lt_of_le (hI.psb a b ab (p1 _ hm)) s2.len, fun a a' b ab ab' h1 h2 => hI.psi a a' b ab ab' (p1 _ h1) (p1 _ h2)⟩
                        · by_cases e : j = x
                          · subst e; exact bit_upd_self hjl
                          · rw [getD_set_ne false e] at hx; exact bit_upd_mono (hI.sub x hx)
                        · by_cases e : j = x
                          · subst e
                            rw [ho] at hox; cases hox
                            exact bit_upd_mono (hI.sub q (hrj q hq))
                          · rw [bit_upd_ne e] at hx
                            exact bit_upd_mono (hI.clA x ox hx hox q hq)
                        · by_cases e : o.dst = some t
                          · right
                            rw [put_tm, put_tm, e]
                            simp only
                            rcases Nat.lt_or_ge t frA.tm.length with hl | hl
                            · rw [nth_upd_self hl, nth_upd_self (by rw [hI.len]; exact hl)]
                            · rw [nth_eq, nth_eq, upd_eq, upd_eq, List.getElem?_eq_none (by rw [List.length_set, hI.len]; exact hl), List.getElem?_eq_none (by rw [List.length_set]; exact hl)]
                          · rw [put_tm_ne e, put_tm_ne e]
                            rcases hI.tm t with ⟨x, ox, h1, h2, h3, h4⟩ | h
                            · have hne : j ≠ x := fun e' => by subst e'; rw [hbj] at h3; cases h3
                              exact .inl ⟨x, ox, h1, h2, bit_upd_mono h3, by rw [getD_set_ne false hne]; exact h4⟩
                            · exact .inr h
                        · have hne : j ≠ x := fun e => by
                            subst e
                            have : (D.setIfInBounds j true).getD j false = true := by simp [hjlt]
                            rw [this] at hDx; cases hDx
                          rw [bit_upd_ne hne] at hbx
                          rw [getD_set_ne false hne] at hDx
                          have hnw : waitsOn o x = false := by
                            cases hwx : waitsOn o x with
                            | false => rfl
                            | true => rw [hrj x hwx] at hDx; cases hDx
                          refine PQ.other hssa hox ho (fun e => hne e.symm) (fun d hd hm => ?_) (hI.pend x ox hox hbx hDx) (fun r hk hp1 ⟨p, hp2, hp3⟩ => ?_) (fun b ab hb1 hb2 hb3 hm => ?_)
                          · have := hI.clA x ox hbx hox j (hssa.reads x j ox o d hox ho hd hm)
                            rw [hbj] at this; cases this
                          · -- a pure operation
                            have shape : p = [] ∨ (∃ t a av, ox.op = .load t a ∧ ev E frA a = some av ∧ p = [.load x t av r]) ∨ p = [.busy x] := by
                              cases hop2 : ox.op <;> rw [hop2] at hp2 <;> simp only [pendOf] at hp2 <;> first
                                | (simp at hp2; exact .inl hp2)
                                | skip
                              · rename_i t a
                                split at hp2
                                · rename_i av hav
                                  simp at hp2
                                  exact .inr (.inl ⟨t, a, av, rfl, hav, hp2.symm⟩)
                                · cases hp2
                              · simp at hp2; exact .inr (.inr hp2.symm)
                              · simp only [pendCall] at hp2
                                split at hp2
                                · simp at hp2; exact .inr (.inr hp2.symm)
                                · simp at hp2; exact .inl hp2
                                · cases hp2
                            rcases shape with rfl | ⟨t, a, av, e1, e2, rfl⟩ | rfl
                            · exact ⟨pureOp_any hp1 hp2, [], hp2, fun y hy => by simp at hy⟩
                            · have hmem := hp3 _ (List.mem_singleton.2 rfl)
                              rcases p2 _ hmem with hh | ⟨hh, hh2⟩
                              · simp only [Pend.num] at hh; rw [hnw] at hh; cases hh
                              · simp only [still] at hh
                                split at hh
                                · rename_i u' hu'
                                  have := avEq_eq _ _ hh
                                  subst this
                                  refine ⟨?_, _, hp2, fun y hy => by simp at hy; subst hy; exact hh2⟩
                                  rw [e1]
                                  simp only [pureOp, loadF, e2]
                                  exact hu'
                                · cases hh
                            · have hmem := hp3 _ (List.mem_singleton.2 rfl)
                              rcases p2 _ hmem with hh | ⟨hh, _⟩
                              · simp only [Pend.num] at hh; rw [hnw] at hh; cases hh
                              · simp [still] at hh
                          · -- a new block
                            rcases p2 _ hm with hh | ⟨hh, hh2⟩
                            · simp only [Pend.num] at hh; rw [hnw] at hh; cases hh
                            · simp only [still, get?_eq] at hh
                              split at hh
                              · rename_i ab' hab
                                have := abSame_eq hh
                                subst this
                                exact ⟨hab, by rw [s2.old b (lt_of_get hb1)]; exact hb2, hh2⟩
                              · cases hh
                      have := ih _ _ _ _ _ h f' t' _ φ' w' _ _ hI' (by rw [count_set hjlt hDj]; omega)
                      exact OpOk.of_steps s4 (Ext.refl _ _ _) (.refl _ _) this
                    · cases h
                  · rename_i ch st' he
                    simp at h; subst h
                    have he' : effOp o.op E cal frD stA = some (.pan ch st') := by rw [effOp_congr hop]; exact he
                    obtain ⟨φ', w', chain, s1, s2, s3, s4⟩ := effOp_sound hcal hI.sess hI.fr.tm he' fn kd ro df k cs opsA j (todoL opsA f' t' (D.setIfInBounds j true)) hojA hwA
                    refine ⟨φ', w', tmps, df, cs, chain, _, s1, ⟨hI.ext.trans s2.toExt0, fun b hb => by rw [s2.old b (Nat.lt_of_lt_of_le hb hI.ext.len), hI.old b hb]⟩, ?_, .refl _ _, s3, s4⟩
                    have hF' := hI.fr.mono s2.toExt0.goes s2.phi
                    obtain ⟨tmA, dfA, rcA, roA⟩ := frA
                    obtain ⟨tmD, dfD, rcD, roD⟩ := frD
                    have e1 := hI.df; have e2 := hI.rc; have e3 := hI.ro
                    simp only at e1 e2 e3
                    subst e1; subst e2; subst e3
                    refine ⟨⟨?_, fun x y u' hy hu' => ?_⟩, hF'.df, hF'.rc, hF'.ro⟩
                    · simp only [forgetF]; rw [forget_len]; have h1 := hF'.tm.1; have h2 := hI.len; simp only at h1 h2; omega
                    · simp only [forgetF] at hy
                      have hlt : x < tmA.length := by have := lt_of_get hy; rwa [forget_len] at this
                      rcases forget_nth ops tmA x hlt with hf1 | ⟨hf1, hf2⟩
                      · rw [nth_get hy] at hf1; subst hf1; exact .unk _
                      · rw [nth_get hy] at hf1
                        have hD : nth tmD x = nth tmA x := by
                          rcases hI.tm x with ⟨z, oz, h1, h2, _, _⟩ | h
                          · exact absurd h2 (hf2 oz (List.mem_of_getElem? h1))
                          · exact h
                        have hltD : x < tmD.length := by have := hI.len; simp only at this; omega
                        have := hF'.tm.2 x _ u' (List.getElem?_eq_getElem hltD) hu'
                        rw [← nth_get (List.getElem?_eq_getElem hltD), hD, ← hf1] at this
                        exact this
                  · cases h
          · cases h
      · cases h

end
end Go.Proofs.YtbjhjladdkbnmaaGreatDoor.Gx
