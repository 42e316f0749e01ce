/-
  Soundness of append, copy, and of the operations on maps.
-/
import Derived.Test.YtbjhjladdkbnmaaGreatDoorGxMem2
namespace Go.Proofs.YtbjhjladdkbnmaaGreatDoor.Gx
open Go

section
variable {E : Env} {F : Nat → Prop} {φ : Phi} {st : St} {w : World}

theorem grows (hS : Sess E F φ st w) {argTypes : Array TypeId} {ty sT xT e : TypeId} {dx : TypeDesc} {i : TypeInfo} {z : AV} {base : Option Addr} {sLen sCap n : Nat} {uy : Value} {old new : List AV} {ou nu : List Value}
    (h0 : argTypes[0]? = some sT) (h1 : argTypes[1]? = some xT) (hs : E.P.underlying sT = some (.slice e)) (hx : E.P.underlying xT = some dx) (hni : ∀ k, dx ≠ .int k)
    (hi : E.P.info? e = some i) (hz : zeroT E.P e = some z) (hzl : (cellsOf z).length = i.size) (hn : ∀ w, (Builtin.lenOf uy).run E.P w = .ok n w) (hcap : ¬(sLen + n ≤ sCap))
    (hbound : (2 * (sLen + n) + 1024) * (i.bytes + 1) ≤ 70368744177664) {w0 : World} (hw : w = { w0 with drawn := w0.drawn + 1 })
    (hold : (Builtin.firstCells i.size sLen (.slice base sLen sCap)).run E.P w = .ok ou.toArray w)
    (hnew : (Builtin.firstCells i.size n uy).run E.P w = .ok nu.toArray w) (ho : LRel (Bd F φ st) w φ old ou) (hnr : LRel (Bd F φ st) w φ new nu)
    (hol : old.length = sLen * i.size) (hnl : new.length = n * i.size) :
    ∃ u φ' w', (Builtin.append_ argTypes ty #[.slice base sLen sCap, uy]).run E.P w0 = .ok u w' ∧ Sess E F φ' (st ++ [.own (old ++ new)]) w' ∧ Ext φ st w φ' (st ++ [.own (old ++ new)]) w' ∧
      VRel (Bd F φ' (st ++ [.own (old ++ new)])) w' φ' (.sl st.length 0 (sLen + n) (.gr i.size)) u := by
  subst hw
  obtain ⟨newCap, rest, r1, r2, r3⟩ := run_grow (P := E.P) (w := w0) (ty := ty) h0 h1 hs hx hni hi hz (hn w0) hcap hbound hold hnew
  obtain ⟨i', v, q1, q2, q3⟩ := zeroT_some hz
  rw [hi] at q1; cases q1
  have hvc : v.cells.size = i.size := by
    have := ((ofV_rel (B := fun _ => False) (w := w0) (φ := phi0) q3).cells (ofV_ne q3)).1
    simp at this; omega
  have hrest : rest.size = (newCap - (sLen + n)) * i.size := by rw [r2, q2]; simp [hvc]
  obtain ⟨φ', s1, s2, s3⟩ := grow_new (e := e) hS (ho.append hnr) (need := sLen + n) (s := i.size) (by simp [hol, hnl, Nat.add_mul]) r1 hrest
  exact ⟨_, φ', _, r3, s1, s2, s3⟩

theorem appendE_sound (hS : Sess E F φ st w) {argTypes : Array TypeId} {ty sT : TypeId} {x y v : AV} {ux uy : Value} {st' : St} (h : appendE E.P st sT argTypes[1]? x y = some (v, st'))
    (h0 : argTypes[0]? = some sT) (hx : VRel (Bd F φ st) w φ x ux) (hy : VRel (Bd F φ st) w φ y uy) :
    Comes1 E F φ st w (Builtin.append_ argTypes ty #[ux, uy]) v st' := by
  unfold appendE at h
  split at h
  · cases h
  · rename_i e dx hni hu hxT
    simp only [Option.bind_eq_some_iff] at hxT
    obtain ⟨xT, h1, hxT⟩ := hxT
    have hni' : ∀ k, dx ≠ .int k := fun k e => hni k e
    split at h
    · cases h
    · rename_i i hi
      have hsz : szOf E.P e = some i.size := by simp [szOf, hi]
      split at h
      · rename_i n new l old hsy hsx
        obtain ⟨nu, y1, y2, y3, y4⟩ := srcOf_sound hS hsy hy
        obtain ⟨ou, x1, x2, x3, x4⟩ := srcOf_sound hS hsx hx
        have y4n := y4 n (Nat.le_refl _)
        have x4l := x4 l (Nat.le_refl _)
        rw [show n * i.size = nu.length from y3.symm, List.take_length] at y4n
        rw [show l * i.size = ou.length from x3.symm, List.take_length] at x4l
        have hnl : new.length = n * i.size := by rw [y2.1, y3]
        have hol : old.length = l * i.size := by rw [x2.1, x3]
        split at h
        · -- nothing is appended
          rename_i hcond
          have hn0 : (Builtin.firstCells i.size 0 uy).run E.P w = .ok #[] w := by have := y4 0 (Nat.le_refl _); simpa using this
          have key : ∀ base sl sc, ux = .slice base sl sc → sl ≤ sc → (v, st') = (x, st) → Comes1 E F φ st w (Builtin.append_ argTypes ty #[ux, uy]) v st' := by
            intro base sl sc hb hle he
            cases he
            subst hb
            exact ⟨_, φ, w, run_nothing h0 h1 hu hxT hni' hsz y1 hle hn0, hS, Ext.refl _ _ _, hx⟩
          unfold append0 at h
          split at h
          · cases h
          · rename_i hns
            simp only [Option.some.injEq] at h
            have h := h.symm
            cases hx with
            | str l => exact (hns l rfl).elim
            | nilsl => exact key _ _ _ rfl (Nat.le_refl _) h
            | sl hp ho hl hxx hg => exact key _ _ _ rfl hl h
            | isl vs hxx hl hb hc hv => exact key _ _ _ rfl hl h
            | _ => simp [srcOf] at hsx
        · rename_i m hcond
          simp only [Bool.and_eq_true, Nat.ble_eq] at hcond
          obtain ⟨hbound, hz⟩ := hcond
          unfold zOk at hz
          split at hz
          · rename_i z hz1
            have hz2 : (cellsOf z).length = i.size := Nat.eq_of_beq_eq_true hz
            -- the world behind the draw of a capacity
            obtain ⟨d1, d2⟩ := drew_sess hS
            have dold := d2.list x2
            have dnew := d2.list y2
            have hlen : ∀ w, (Builtin.lenOf uy).run E.P w = .ok (m + 1) w := by
              intro w'
              cases hy <;> simp [srcOf] at hsy <;> simp [Builtin.lenOf] at y1 ⊢ <;> first | exact y1 | skip
            obtain ⟨nu', dy1, dy2, dy3, dy4⟩ := srcOf_sound d1 hsy (d2.val hy)
            obtain ⟨ou', dx1, dx2, dx3, dx4⟩ := srcOf_sound d1 hsx (d2.val hx)
            clear dy1 dx1
            have dy4n := dy4 (m + 1) (Nat.le_refl _)
            have dx4l := dx4 l (Nat.le_refl _)
            rw [show (m + 1) * i.size = nu'.length from dy3.symm, List.take_length] at dy4n
            rw [show l * i.size = ou'.length from dx3.symm, List.take_length] at dx4l
            have grown : ∀ base sCap, ux = .slice base l sCap → ¬(l + (m + 1) ≤ sCap) → (v, st') = grow st i.size (l + (m + 1)) (old ++ new) →
                Comes1 E F φ st w (Builtin.append_ argTypes ty #[ux, uy]) v st' := by
              intro base sCap hb hc he
              subst hb
              simp only [grow, Prod.mk.injEq] at he
              obtain ⟨rfl, rfl⟩ := he
              obtain ⟨u, φ', w', r1, r2, r3, r4⟩ := grows d1 (ty := ty) h0 h1 hu hxT hni' hi hz1 hz2 hlen hc hbound rfl dx4l dy4n dx2 dy2 hol hnl
              exact ⟨u, φ', w', r1, r2, d2.trans r3, r4⟩
            unfold appendB at h
            split at h
            · -- nil
              simp only [Option.some.injEq] at h
              cases hx
              simp [srcOf] at hsx
              obtain ⟨rfl, rfl⟩ := hsx
              exact grown none 0 rfl (by omega) (by rw [← h]; simp)
            · rename_i b off len c
              cases hx with
              | sl hp ho hl hxx hg =>
                rename_i cb co o ccap
                have hc : ccap = c := hxx c rfl
                subst hc
                have hll : len = l := by
                  simp only [srcOf] at hsx
                  split at hsx
                  · simp only [Option.map_eq_some_iff, Prod.mk.injEq] at hsx; obtain ⟨_, _, e, _⟩ := hsx; exact e
                  · cases hsx
                subst hll
                split at h
                · rename_i hcap
                  have hcap : len + (m + 1) ≤ ccap := Nat.ble_eq ▸ hcap
                  rw [get?_eq] at h
                  split at h
                  · rename_i cs hb
                    split at h
                    · rename_i cs' hcell hw
                      simp only [Option.some.injEq, Prod.mk.injEq] at h
                      obtain ⟨rfl, rfl⟩ := h
                      have ho' : o = co + off := ho.resolve_left (by omega)
                      subst ho'
                      obtain ⟨w', s1, s2, s3⟩ := write_sound hS hb hp hw y2 hcell
                      refine ⟨_, φ, w', run_within h0 h1 hu hxT hni' hsz y1 hcap y4n (by rw [addr_add, Nat.add_assoc]; exact s1), by rw [upd_eq]; exact s2, by rw [upd_eq]; exact s3, ?_⟩
                      rw [upd_eq]
                      exact .sl hp (.inr rfl) hcap (fun c e => by cases e; rfl) (fun sz e => by cases e)
                    · cases h
                  · cases h
                · rename_i hcap
                  have hcap : ¬(len + (m + 1) ≤ ccap) := by intro hle; rw [Nat.ble_eq_true_of_le hle] at hcap; cases hcap
                  simp only [Option.some.injEq] at h
                  exact grown _ _ rfl hcap h.symm
            · rename_i b off len z'
              rw [get?_eq] at h
              split at h
              · rename_i cs hb
                split at h
                · rename_i hcond
                  simp only [Bool.and_eq_true, Nat.ble_eq] at hcond
                  obtain ⟨⟨hzs, hcell⟩, hfit⟩ := hcond
                  have hzs : z' = i.size := Nat.eq_of_beq_eq_true hzs
                  subst hzs
                  simp only [Option.some.injEq] at h
                  have h := h.symm
                  cases hx with
                  | sl hp ho hl hxx hg =>
                    rename_i cb co o ccap
                    have hll : len = l := by
                      simp only [srcOf] at hsx
                      split at hsx
                      · simp only [Option.map_eq_some_iff, Prod.mk.injEq] at hsx; obtain ⟨_, _, e, _⟩ := hsx; exact e
                      · cases hsx
                    subst hll
                    have hold : old = (cs.drop off).take (len * i.size) := by
                      simp only [srcOf, cellsAt, get?_eq, hb] at hsx
                      simp only [Option.map_eq_some_iff, Prod.mk.injEq] at hsx
                      obtain ⟨r, q1, _, rfl⟩ := hsx
                      have := (takeN_some _ _ _ q1).1
                      rw [dropN_eq] at this
                      exact this
                    by_cases hcap : len + (m + 1) ≤ ccap
                    · -- within what capacity there is
                      have ho' : o = co + off := ho.resolve_left (by omega)
                      subst ho'
                      rcases hg _ rfl with h00 | ⟨cells, t, fz, g1, g2⟩
                      · omega
                      · obtain ⟨cells', t', k1, _⟩ := hS.blk b _ cb co hb hp
                        rw [k1] at g1; cases g1
                        have hspace : co + (off + len * i.size) + nu.length ≤ cells.size := by
                          have y3' : nu.length = (m + 1) * i.size := y3
                          have hmul : (len + (m + 1)) * i.size ≤ ccap * i.size := Nat.mul_le_mul_right _ hcap
                          rw [Nat.add_mul, ← y3'] at hmul
                          clear y3 dy3 dx3 x3 hnl hol hbound
                          omega
                        obtain ⟨w', s1, s2, s3⟩ := extend_sound hS hb hp k1 hfit hspace y2 hcell
                        have hb' : (st.set b (.own (cs.take (off + len * i.size) ++ new)))[b]? = some (.own (cs.take (off + len * i.size) ++ new)) := by simp [lt_of_get hb]
                        obtain ⟨m1, m2⟩ := s2.move (off := off) hb' hp
                        have hcs : (cs.take (off + len * i.size) ++ new).drop off = old ++ new := by
                          rw [List.drop_append_of_le_length (by simp; omega), hold, List.drop_take]
                          congr 2
                          omega
                        rw [hcs] at m1 m2
                        simp only [List.set_set, List.length_set] at m1 m2
                        simp only [grow, Prod.mk.injEq, upd_eq, List.length_set] at h
                        obtain ⟨rfl, rfl⟩ := h
                        refine ⟨_, _, w', run_within h0 h1 hu hxT hni' hsz y1 hcap y4n (by rw [addr_add, Nat.add_assoc]; exact s1), m1, s3.trans m2, ?_⟩
                        refine .sl (cb := cb) (co := co + off) (by simp [phiSet]) (.inr rfl) hcap (fun c e => by cases e) (fun sz e => ?_)
                        cases e
                        right
                        obtain ⟨c2, z1, z2⟩ := (s3.trans m2).shape cb cells t (0, 0) k1
                        exact ⟨c2, t, (0, 0), z1, by omega⟩
                    · -- it grows
                      obtain ⟨k1, k2⟩ := d1.retire (ab' := .dead) hb rfl rfl (fun _ _ _ => trivial)
                      have kold := k2.list dx2
                      have knew := k2.list dy2
                      simp only [grow, Prod.mk.injEq, upd_eq, List.length_set] at h
                      obtain ⟨rfl, rfl⟩ := h
                      obtain ⟨u, φ', w', r1, r2, r3, r4⟩ := grows k1 (ty := ty) h0 h1 hu hxT hni' hi hz1 hz2 hlen hcap hbound rfl dx4l dy4n kold knew hol hnl
                      simp only [List.length_set] at r4
                      exact ⟨u, φ', w', r1, r2, (d2.trans k2).trans r3, r4⟩
                · cases h
              · cases h
            · rename_i len cs c
              cases hx with
              | isl vs hxx hl hb hc hv =>
                rename_i a ccap
                have hcc : ccap = c := hxx c rfl
                subst hcc
                have hll : len = l := by
                  simp only [srcOf, Option.map_eq_some_iff, Prod.mk.injEq] at hsx; obtain ⟨_, _, e, _⟩ := hsx; exact e
                subst hll
                split at h
                · cases h
                · rename_i hcap
                  have hcap : ¬(len + (m + 1) ≤ ccap) := by intro hle; rw [Nat.ble_eq_true_of_le hle] at hcap; cases hcap
                  simp only [Option.some.injEq] at h
                  exact grown _ _ rfl hcap h.symm
            · cases h
          · cases hz
        · cases h
      · cases h
  · cases h

end
end Go.Proofs.YtbjhjladdkbnmaaGreatDoor.Gx
