/-
  Valid expressions, of both sides.
-/
import Derived.Test.YtgmbeedbeahblaaGreatDoorShI
namespace Go.Proofs.YtgmbeedbeahblaaGreatDoor
open Go Go.Proofs.YtgmbeedbeahblaaGreatDoor.Gx Go.RowKit

/-- The kids' nodes are added one after the other. -/
def cntF (P : Nat → Nat → Option Nat) : Nat → Nat → Option Nat
  | 0, n => some n
  | c + 1, n => (cntF P c n).bind (P c)
/-- The nodes of an expression are added; none: it is not valid. -/
def Ex.cnt : Ex → Nat → Nat → Option Nat
  | .non, _, _ => none
  | .mk k f ng nu de m c ar, d, n => if n + 1 ≤ 300 ∧ d ≤ 30 ∧ nodeOk k f ng (val nu) (val de) m c = true then cntF (fun i a => (ar i).cnt (d + 1) a) c (n + 1) else none
def resP (o : Option Nat) : Int := match o with | some n => n | none => 301
def resQ (o : Option Nat) : Int := match o with | some n => 300 - n | none => -1
theorem cntF_le {P : Nat → Nat → Option Nat} (hP : ∀ i a a', P i a = some a' → a' ≤ 300) : ∀ {c n a : Nat}, n ≤ 300 → cntF P c n = some a → a ≤ 300
  | 0, n, a, hn, h => by
    simp only [cntF, Option.some.injEq] at h
    omega
  | c + 1, n, a, hn, h => by
    unfold cntF at h
    cases hq : cntF P c n with
    | none => rw [hq] at h; cases h
    | some x => rw [hq] at h; exact hP _ _ _ h
theorem Ex.cnt_le : ∀ (x : Ex) (d n a : Nat), x.cnt d n = some a → a ≤ 300 := by
  intro x
  induction x with
  | non => intro d n a h; cases h
  | mk k f ng nu de m c ar ih =>
    intro d n a h
    unfold Ex.cnt at h
    split at h
    · rename_i hc
      exact cntF_le (fun i a a' => ih i _ a a') hc.1 h
    · cases h
theorem cntF_none {P : Nat → Nat → Option Nat} {i a c n : Nat} (h1 : cntF P i n = some a) (h2 : P i a = none) (hi : i < c) : cntF P c n = none := by
  induction c with
  | zero => omega
  | succ c ih =>
    unfold cntF
    rcases Nat.lt_or_ge i c with h | h
    · rw [ih h]; rfl
    · have : i = c := by omega
      subst this
      rw [h1]
      exact h2

set_option maxRecDepth 100000 in
set_option maxHeartbeats 4000000 in
/-- expr.count, one level. -/
theorem count_walk {w : World} {k f : Int} {ng : Bool} {aq cq sq : Option Addr} {ac cc sc n : Nat} {nu de : List Int} {m : ByteArray} {dep cn : Nat} {ds : Nat → Nd} {P : Nat → Nat → Option Nat} (h1 : Sl w (.slice aq nu.length ac) nu) (h2 : Sl w (.slice cq de.length cc) de) (ln : nu.length ≤ 1048576) (ld : de.length ≤ 1048576) (hT : Tb w) (hn : n ≤ 1099511627776) (hkids : n = 0 ∨ ∃ b o, sq = some ⟨b, o, none⟩ ∧ b < w.heap.size ∧ ∀ i, i < n → NdAt w b (o + i * 7) (ds i)) (hPle : ∀ i a a', P i a = some a' → a' ≤ 300) (hd : dep ≤ 31) (hcn : cn ≤ 300)
    (hP : ∀ i, i < n → dep ≤ 30 → ∀ a : Nat, a ≤ 300 → ∀ w1, Below w.heap.size w w1 → Calls Tryz.prog 69 #[(ds i).val, .int .i64 ((dep : Int) + 1), .int .i64 a] w1 fun e w' => e = .returned (.int .i64 (resP (P i a))) ∧ Below w1.heap.size w1 w') :
    Calls Tryz.prog 69 #[.agg #[.int .i64 k, .int .i64 f, .bool ng, .slice aq nu.length ac, .slice cq de.length cc, .string m, .slice sq n sc], .int .i64 dep, .int .i64 cn] w fun e w' => e = .returned (.int .i64 (resP (if cn + 1 ≤ 300 ∧ dep ≤ 30 ∧ nodeOk k f ng (val nu) (val de) m n = true then cntF P n (cn + 1) else none))) ∧ Below w.heap.size w w' := by
  have hb0 : Hid (Below w.heap.size w (w.alloc (.cells #[.int .i64 k, .int .i64 f, .bool ng, .slice aq nu.length ac, .slice cq de.length cc, .string m, .slice sq n sc] 27))) := below_alloc w _
  have hfl := fields_ok (k := k) (f := f) (ng := ng) (sq := sq) (sc := sc) (n := n) (m := m) (h1.below hb0.out) (h2.below hb0.out) (by omega) (by omega) (hT.below hb0.out)
  have hkids' : Hid (n = 0 ∨ ∃ b o, sq = some ⟨b, o, none⟩ ∧ b < w.heap.size ∧ ∀ i, i < n → NdAt w b (o + i * 7) (ds i)) := hkids
  have hPle' : Hid (∀ i a a', P i a = some a' → a' ≤ 300) := hPle
  obtain ⟨A, hA⟩ : ∃ A, Hid (nodeOk k f ng (val nu) (val de) m n = A) := ⟨_, rfl⟩
  rw [hA.out] at hfl ⊢
  have hP' : Hid (∀ i, i < n → dep ≤ 30 → ∀ a : Nat, a ≤ 300 → ∀ w1, Below w.heap.size w w1 → Calls Tryz.prog 69 #[(ds i).val, .int .i64 ((dep : Int) + 1), .int .i64 a] w1 fun e w' => e = .returned (.int .i64 (resP (P i a))) ∧ Below w1.heap.size w1 w') := hP
  clear h1 h2 hT hkids hPle hP
  by_cases c1 : cn + 1 ≤ 300
  · have c1' : ¬ (cn : Int) + 1 > 300 := by omega
    by_cases c2 : dep ≤ 30
    · have c2' : ¬ (dep : Int) > 30 := by omega
      cases A with
      | false =>
        rw [if_neg (by simp)]
        go_enter Tryz.func69, Tryz.ntmps69
        go_wp2_with (go_at_call 142; with_reducible refine hfl.mono ?_; rintro e w1 ⟨rfl, hb1⟩)
        go_ret
        exact ⟨rfl, hb0.out.trans (hb1.mono hb0.out.size)⟩
      | true =>
        rw [if_pos ⟨c1, c2, rfl⟩]
        obtain ⟨R, hR⟩ : ∃ R, Hid (resP (cntF P n (cn + 1)) = R) := ⟨_, rfl⟩
        rw [hR.out]
        clear hA
        go_enter Tryz.func69, Tryz.ntmps69
        go_wp2_with (go_at_call 142; with_reducible refine hfl.mono ?_; rintro e w1 ⟨rfl, hb1⟩
                     have x6 : w1.cell? ⟨w.heap.size, 6, none⟩ = some (.slice sq n sc) := (hb1.cell (by show w.heap.size < _; simp)).trans (by simp)
                     have hw1 : Hid (Below w.heap.size w w1) := hb0.out.trans (hb1.mono hb0.out.size)
                     clear hb1)
        go_loopw [2, 25] (fun t2 t25 wr => ∃ (i a : Nat), i ≤ n ∧ a ≤ 300 ∧ t25 = .int .i64 i ∧ t2 = .int .i64 a ∧ Hid (cntF P i (cn + 1) = some a) ∧ Below w1.heap.size w1 wr) (fun _ t25 _ => n - (intOf t25).toNat)
        case atStart => exact ⟨0, cn + 1, Nat.zero_le _, c1, rfl, by go_num, rfl, Below.refl _ _⟩
        case round =>
          obtain ⟨i, a, hi, ha, rfl, rfl, hc, hbw⟩ := hrel
          clear x6 hfl
          by_cases hlt : i < n
          · have hlt' : (i : Int) < (n : Int) := by omega
            obtain ⟨b, o, rfl, hbl, hnd⟩ := hkids'.out.resolve_left (by omega)
            have hW : Below w.heap.size w wr := hw1.out.trans (hbw.mono hw1.out.size)
            obtain ⟨x0, x1, x2, x3, x4, x5, x6⟩ := (hnd i hlt).below hW hbl
            have hb2 : Hid (Below wr.heap.size wr (wr.alloc (.cells #[.int .i64 (ds i).k, .int .i64 (ds i).f, .bool (ds i).neg, .slice (ds i).aq (ds i).an (ds i).ac, .slice (ds i).cq (ds i).cn (ds i).cc, .string (ds i).m, .slice (ds i).sq (ds i).sn (ds i).sc] 27))) := below_alloc wr _
            have hPk := hP'.out i hlt c2 a ha _ (hW.trans (hb2.out.mono hW.size))
            simp only [Nd.val] at hPk
            have hbw' : Hid (Below w1.heap.size w1 wr) := hbw
            clear hbw hnd hW
            cases hp : P i a with
            | none =>
              rw [hp] at hPk
              have hRv : R = 301 := by rw [← hR.out, cntF_none hc.out hp hlt]; rfl
              subst hRv
              clear hp
              simp only [resP] at hPk
              go_wp2_with (go_at_call 69; with_reducible refine hPk.mono ?_; rintro e w3 ⟨rfl, hb3⟩)
              go_ret
              exact ⟨rfl, hw1.out.trans ((hbw'.out.trans ((hb2.out.trans (hb3.mono hb2.out.size)).mono hbw'.out.size)).mono hw1.out.size)⟩
            | some a' =>
              rw [hp] at hPk
              have ha' := hPle'.out _ _ _ hp
              have hgt : ¬ (a' : Int) > 300 := by omega
              have hc' : Hid (cntF P (i + 1) (cn + 1) = some a') := by
                show cntF P (i + 1) (cn + 1) = some a'
                unfold cntF
                rw [hc.out]
                exact hp
              clear hp hc
              simp only [resP] at hPk
              go_wp2_with (go_at_call 69; with_reducible refine hPk.mono ?_; rintro e w3 ⟨rfl, hb3⟩)
              go_roundw
              case rel => exact ⟨i + 1, a', by omega, ha', by go_num, rfl, hc', hbw'.out.trans ((hb2.out.trans (hb3.mono hb2.out.size)).mono hbw'.out.size)⟩
              case measure => simp [intOf]; omega
          · obtain rfl : i = n := by omega
            have hRv : R = (a : Int) := by rw [← hR.out, hc.out]; rfl
            subst hRv
            clear hc
            go_wp2
            go_ret
            exact ⟨rfl, hw1.out.trans (hbw.mono hw1.out.size)⟩
    · have c2' : (dep : Int) > 30 := by omega
      rw [if_neg (by omega)]
      clear hfl
      go_enter Tryz.func69, Tryz.ntmps69
      go_wp2
      go_ret
      exact ⟨rfl, hb0.out⟩
  · have c1' : (cn : Int) + 1 > 300 := by omega
    rw [if_neg (by omega)]
    clear hfl
    go_enter Tryz.func69, Tryz.ntmps69
    go_wp2
    go_ret
    exact ⟨rfl, hb0.out⟩

set_option maxRecDepth 100000 in
set_option maxHeartbeats 4000000 in
/-- The reference's walk, one level. -/
theorem walkQ_walk {w : World} {k f : Int} {ng : Bool} {aq cq sq : Option Addr} {ac cc sc n : Nat} {nu de : List Int} {m : ByteArray} {dep cn : Nat} {ds : Nat → Nd} {P : Nat → Nat → Option Nat} (h1 : Sl w (.slice aq nu.length ac) nu) (h2 : Sl w (.slice cq de.length cc) de) (ln : nu.length ≤ 1048576) (ld : de.length ≤ 1048576) (hn : n ≤ 1099511627776) (hkids : n = 0 ∨ ∃ b o, sq = some ⟨b, o, none⟩ ∧ b < w.heap.size ∧ ∀ i, i < n → NdAt w b (o + i * 7) (ds i)) (hPle : ∀ i a a', P i a = some a' → a' ≤ 300) (hd : dep ≤ 31) (hcn : cn ≤ 300)
    (hP : ∀ i, i < n → dep ≤ 30 → ∀ a : Nat, a ≤ 300 → ∀ w1, Below w.heap.size w w1 → Calls Tryz.prog 75 #[(ds i).val, .int .i64 ((dep : Int) + 1), .int .i64 (300 - (a : Int))] w1 fun e w' => e = .returned (.int .i64 (resQ (P i a))) ∧ Below w1.heap.size w1 w') :
    Calls Tryz.prog 75 #[.agg #[.int .i64 k, .int .i64 f, .bool ng, .slice aq nu.length ac, .slice cq de.length cc, .string m, .slice sq n sc], .int .i64 dep, .int .i64 (300 - (cn : Int))] w fun e w' => e = .returned (.int .i64 (resQ (if cn + 1 ≤ 300 ∧ dep ≤ 30 ∧ nodeOk k f ng (val nu) (val de) m n = true then cntF P n (cn + 1) else none))) ∧ Below w.heap.size w w' := by
  have hb0 : Hid (Below w.heap.size w (w.alloc (.cells #[.int .i64 k, .int .i64 f, .bool ng, .slice aq nu.length ac, .slice cq de.length cc, .string m, .slice sq n sc] 27))) := below_alloc w _
  have hfl := node_ok (k := k) (f := f) (ng := ng) (sq := sq) (sc := sc) (n := n) (m := m) (h1.below hb0.out) (h2.below hb0.out) (by omega) (by omega)
  have hkids' : Hid (n = 0 ∨ ∃ b o, sq = some ⟨b, o, none⟩ ∧ b < w.heap.size ∧ ∀ i, i < n → NdAt w b (o + i * 7) (ds i)) := hkids
  have hPle' : Hid (∀ i a a', P i a = some a' → a' ≤ 300) := hPle
  obtain ⟨A, hA⟩ : ∃ A, Hid (nodeOk k f ng (val nu) (val de) m n = A) := ⟨_, rfl⟩
  rw [hA.out] at hfl ⊢
  have hP' : Hid (∀ i, i < n → dep ≤ 30 → ∀ a : Nat, a ≤ 300 → ∀ w1, Below w.heap.size w w1 → Calls Tryz.prog 75 #[(ds i).val, .int .i64 ((dep : Int) + 1), .int .i64 (300 - (a : Int))] w1 fun e w' => e = .returned (.int .i64 (resQ (P i a))) ∧ Below w1.heap.size w1 w') := hP
  clear h1 h2 hkids hPle hP
  by_cases c2 : dep ≤ 30
  · have c2' : ¬ (dep : Int) > 30 := by omega
    by_cases c1 : cn + 1 ≤ 300
    · have c1' : ¬ 300 - (cn : Int) ≤ 0 := by omega
      cases A with
      | false =>
        rw [if_neg (by simp)]
        go_enter Tryz.func75, Tryz.ntmps75
        go_wp2_with (go_at_call 144; with_reducible refine hfl.mono ?_; rintro e w1 ⟨rfl, hb1⟩)
        go_ret
        exact ⟨rfl, hb0.out.trans (hb1.mono hb0.out.size)⟩
      | true =>
        rw [if_pos ⟨c1, c2, rfl⟩]
        obtain ⟨R, hR⟩ : ∃ R, Hid (resQ (cntF P n (cn + 1)) = R) := ⟨_, rfl⟩
        rw [hR.out]
        clear hA
        go_enter Tryz.func75, Tryz.ntmps75
        go_wp2_with (go_at_call 144; with_reducible refine hfl.mono ?_; rintro e w1 ⟨rfl, hb1⟩
                     have x6 : w1.cell? ⟨w.heap.size, 6, none⟩ = some (.slice sq n sc) := (hb1.cell (by show w.heap.size < _; simp)).trans (by simp)
                     have hs1 : w.heap.size < w1.heap.size := by have := hb1.size; simp at this; omega
                     have hw1 : Hid (Below w.heap.size w w1) := hb0.out.trans (hb1.mono hb0.out.size)
                     clear hb1)
        go_loopw [2, 7] (fun t2 t7 wr => ∃ (i a : Nat), i ≤ n ∧ a ≤ 300 ∧ t7 = .int .i64 i ∧ t2 = .int .i64 (300 - (a : Int)) ∧ Hid (cntF P i (cn + 1) = some a) ∧ Below w1.heap.size w1 wr) (fun _ t7 _ => n - (intOf t7).toNat)
        case atStart => exact ⟨0, cn + 1, Nat.zero_le _, c1, rfl, by go_num, rfl, Below.refl _ _⟩
        case round =>
          obtain ⟨i, a, hi, ha, rfl, rfl, hc, hbw⟩ := hrel
          have y6 := (hbw.cell (p := ⟨w.heap.size, 6, none⟩) (by exact hs1)).trans x6
          clear x6 hfl
          by_cases hlt : i < n
          · have hlt' : (i : Int) < (n : Int) := by omega
            obtain ⟨b, o, rfl, hbl, hnd⟩ := hkids'.out.resolve_left (by omega)
            have hW : Below w.heap.size w wr := hw1.out.trans (hbw.mono hw1.out.size)
            obtain ⟨x0, x1, x2, x3, x4, x5, x6⟩ := (hnd i hlt).below hW hbl
            have hPk := hP'.out i hlt c2 a ha _ hW
            simp only [Nd.val] at hPk
            have hbw' : Hid (Below w1.heap.size w1 wr) := hbw
            clear hbw hnd hW
            cases hp : P i a with
            | none =>
              rw [hp] at hPk
              have hRv : R = -1 := by rw [← hR.out, cntF_none hc.out hp hlt]; rfl
              subst hRv
              clear hp
              simp only [resQ] at hPk
              go_wp2_with (go_at_call 75; with_reducible refine hPk.mono ?_; rintro e w3 ⟨rfl, hb3⟩)
              go_ret
              exact ⟨rfl, hw1.out.trans ((hbw'.out.trans (hb3.mono hbw'.out.size)).mono hw1.out.size)⟩
            | some a' =>
              rw [hp] at hPk
              have ha' := hPle'.out _ _ _ hp
              have hgt : ¬ 300 - (a' : Int) < 0 := by omega
              have hc' : Hid (cntF P (i + 1) (cn + 1) = some a') := by
                show cntF P (i + 1) (cn + 1) = some a'
                unfold cntF
                rw [hc.out]
                exact hp
              clear hp hc
              simp only [resQ] at hPk
              go_wp2_with (go_at_call 75; with_reducible refine hPk.mono ?_; rintro e w3 ⟨rfl, hb3⟩)
              go_roundw
              case rel => exact ⟨i + 1, a', by omega, ha', by go_num, rfl, hc', hbw'.out.trans (hb3.mono hbw'.out.size)⟩
              case measure => simp [intOf]; omega
          · obtain rfl : i = n := by omega
            have hRv : R = 300 - (a : Int) := by rw [← hR.out, hc.out]; rfl
            subst hRv
            clear hc
            go_wp2
            go_ret
            exact ⟨rfl, hw1.out.trans (hbw.mono hw1.out.size)⟩
    · have c1' : 300 - (cn : Int) ≤ 0 := by omega
      rw [if_neg (by omega)]
      clear hfl
      go_enter Tryz.func75, Tryz.ntmps75
      go_wp2
      go_ret
      exact ⟨rfl, hb0.out⟩
  · have c2' : (dep : Int) > 30 := by omega
    rw [if_neg (by omega)]
    clear hfl
    go_enter Tryz.func75, Tryz.ntmps75
    go_wp2
    go_ret
    exact ⟨rfl, hb0.out⟩
end Go.Proofs.YtgmbeedbeahblaaGreatDoor

namespace Go.Proofs.YtgmbeedbeahblaaGreatDoor
open Go Go.Proofs.YtgmbeedbeahblaaGreatDoor.Gx Go.RowKit

theorem count_ok : ∀ (x : Ex) (d : Nd) (w : World) (dep cn : Nat), ExOk w x d → dep ≤ 31 → cn ≤ 300 → Tb w →
    Calls Tryz.prog 69 #[d.val, .int .i64 dep, .int .i64 cn] w fun e w' => e = .returned (.int .i64 (resP (x.cnt dep cn))) ∧ Below w.heap.size w w' := by
  intro x
  induction x with
  | non => intro d w dep cn h; exact h.elim
  | mk k f ng nu de m c ar ih =>
    intro d w dep cn h hd hcn hT
    obtain ⟨k', f', ng', aq, an, ac, cq, cn', cc, m', sq, sn, sc⟩ := d
    unfold ExOk at h
    obtain ⟨⟨rfl, rfl, rfl, rfl, rfl⟩, h1, h2, ln, ld, hn, hk⟩ := h
    simp only at h1 h2 hk hn
    obtain ⟨_, _, e1⟩ := h1.form
    obtain ⟨_, _, e2⟩ := h2.form
    simp only [Value.slice.injEq] at e1 e2
    obtain ⟨rfl, rfl, rfl⟩ := e1
    obtain ⟨rfl, rfl, rfl⟩ := e2
    have hds : ∃ ds : Nat → Nd, (sn = 0 ∨ ∃ b o, sq = some ⟨b, o, none⟩ ∧ b < w.heap.size ∧ ∀ i, i < sn → NdAt w b (o + i * 7) (ds i)) ∧ ∀ i, i < sn → ExOk w (ar i) (ds i) := by
      rcases hk with rfl | ⟨b, o, e, hb, ds, hds⟩
      · exact ⟨fun _ => ⟨0, 0, false, none, 0, 0, none, 0, 0, ⟨#[]⟩, none, 0, 0⟩, .inl rfl, fun i hi => absurd hi (by omega)⟩
      · exact ⟨ds, .inr ⟨b, o, e, hb, fun i hi => (hds i hi).1⟩, fun i hi => (hds i hi).2⟩
    obtain ⟨ds, hds1, hds2⟩ := hds
    have hw := count_walk (k := k') (f := f') (ng := ng') (m := m') (sc := sc) (dep := dep) (cn := cn) (P := fun i a => (ar i).cnt (dep + 1) a) h1 h2 ln ld hT hn hds1 (fun i a a' => Ex.cnt_le (ar i) _ a a') hd hcn (fun i hi hdep a ha w1 hb1 => by
      have := ih i (ds i) w1 (dep + 1) a ((hds2 i hi).below hb1) (by omega) ha (hT.below hb1)
      simpa using this)
    unfold Ex.cnt
    exact hw

theorem walkQ_ok : ∀ (x : Ex) (d : Nd) (w : World) (dep cn : Nat), ExOk w x d → dep ≤ 31 → cn ≤ 300 →
    Calls Tryz.prog 75 #[d.val, .int .i64 dep, .int .i64 (300 - (cn : Int))] w fun e w' => e = .returned (.int .i64 (resQ (x.cnt dep cn))) ∧ Below w.heap.size w w' := by
  intro x
  induction x with
  | non => intro d w dep cn h; exact h.elim
  | mk k f ng nu de m c ar ih =>
    intro d w dep cn h hd hcn
    obtain ⟨k', f', ng', aq, an, ac, cq, cn', cc, m', sq, sn, sc⟩ := d
    unfold ExOk at h
    obtain ⟨⟨rfl, rfl, rfl, rfl, rfl⟩, h1, h2, ln, ld, hn, hk⟩ := h
    simp only at h1 h2 hk hn
    obtain ⟨_, _, e1⟩ := h1.form
    obtain ⟨_, _, e2⟩ := h2.form
    simp only [Value.slice.injEq] at e1 e2
    obtain ⟨rfl, rfl, rfl⟩ := e1
    obtain ⟨rfl, rfl, rfl⟩ := e2
    have hds : ∃ ds : Nat → Nd, (sn = 0 ∨ ∃ b o, sq = some ⟨b, o, none⟩ ∧ b < w.heap.size ∧ ∀ i, i < sn → NdAt w b (o + i * 7) (ds i)) ∧ ∀ i, i < sn → ExOk w (ar i) (ds i) := by
      rcases hk with rfl | ⟨b, o, e, hb, ds, hds⟩
      · exact ⟨fun _ => ⟨0, 0, false, none, 0, 0, none, 0, 0, ⟨#[]⟩, none, 0, 0⟩, .inl rfl, fun i hi => absurd hi (by omega)⟩
      · exact ⟨ds, .inr ⟨b, o, e, hb, fun i hi => (hds i hi).1⟩, fun i hi => (hds i hi).2⟩
    obtain ⟨ds, hds1, hds2⟩ := hds
    have hw := walkQ_walk (k := k') (f := f') (ng := ng') (m := m') (sc := sc) (dep := dep) (cn := cn) (P := fun i a => (ar i).cnt (dep + 1) a) h1 h2 ln ld hn hds1 (fun i a a' => Ex.cnt_le (ar i) _ a a') hd hcn (fun i hi hdep a ha w1 hb1 => by
      have := ih i (ds i) w1 (dep + 1) a ((hds2 i hi).below hb1) (by omega) ha
      simpa using this)
    unfold Ex.cnt
    exact hw

set_option maxRecDepth 100000 in
theorem eValid_ok {w : World} {x : Ex} {d : Nd} (h : ExOk w x d) (hT : Tb w) : Calls Tryz.prog 33 #[d.val] w fun e w' => e = .returned (.bool (x.cnt 1 0).isSome) ∧ Below w.heap.size w w' := by
  have hb0 : Below w.heap.size w (w.alloc (.cells #[.int .i64 d.k, .int .i64 d.f, .bool d.neg, .slice d.aq d.an d.ac, .slice d.cq d.cn d.cc, .string d.m, .slice d.sq d.sn d.sc] 27)) := below_alloc w _
  have hc := count_ok x d _ 1 0 (h.below hb0) (by omega) (by omega) (hT.below hb0)
  rw [show ((1 : Nat) : Int) = 1 from rfl, show ((0 : Nat) : Int) = 0 from rfl] at hc
  unfold Nd.val at hc ⊢
  have hle := x.cnt_le 1 0
  generalize x.cnt 1 0 = C at *
  cases C with
  | none =>
    simp only [resP] at hc
    go_enter Tryz.func33, Tryz.ntmps33
    go_wp2_with (go_at_call 69; with_reducible refine hc.mono ?_; rintro e w1 ⟨rfl, hb1⟩)
    go_ret
    exact ⟨rfl, hb0.trans (hb1.mono hb0.size)⟩
  | some a =>
    have ha := hle a rfl
    have ha' : (a : Int) ≤ 300 := by omega
    simp only [resP] at hc
    clear hle
    go_enter Tryz.func33, Tryz.ntmps33
    go_wp2_with (go_at_call 69; with_reducible refine hc.mono ?_; rintro e w1 ⟨rfl, hb1⟩)
    go_ret
    exact ⟨by simp <;> omega, hb0.trans (hb1.mono hb0.size)⟩

set_option maxRecDepth 100000 in
theorem qValid_ok {w : World} {x : Ex} {d : Nd} (h : ExOk w x d) : Calls Tryz.prog 39 #[d.val] w fun e w' => e = .returned (.bool (x.cnt 1 0).isSome) ∧ Below w.heap.size w w' := by
  have hb0 : Below w.heap.size w (w.alloc (.cells #[.int .i64 d.k, .int .i64 d.f, .bool d.neg, .slice d.aq d.an d.ac, .slice d.cq d.cn d.cc, .string d.m, .slice d.sq d.sn d.sc] 27)) := below_alloc w _
  have hc := walkQ_ok x d _ 1 0 (h.below hb0) (by omega) (by omega)
  rw [show ((1 : Nat) : Int) = 1 from rfl, show (300 - ((0 : Nat) : Int)) = 300 from rfl] at hc
  unfold Nd.val at hc ⊢
  have hle := x.cnt_le 1 0
  generalize x.cnt 1 0 = C at *
  cases C with
  | none =>
    simp only [resQ] at hc
    go_enter Tryz.func39, Tryz.ntmps39
    go_wp2_with (go_at_call 75; with_reducible refine hc.mono ?_; rintro e w1 ⟨rfl, hb1⟩)
    go_ret
    exact ⟨rfl, hb0.trans (hb1.mono hb0.size)⟩
  | some a =>
    have ha := hle a rfl
    have ha' : 300 - (a : Int) ≥ 0 := by omega
    simp only [resQ] at hc
    clear hle
    go_enter Tryz.func39, Tryz.ntmps39
    go_wp2_with (go_at_call 75; with_reducible refine hc.mono ?_; rintro e w1 ⟨rfl, hb1⟩)
    go_ret
    exact ⟨by simp <;> omega, hb0.trans (hb1.mono hb0.size)⟩
end Go.Proofs.YtgmbeedbeahblaaGreatDoor
