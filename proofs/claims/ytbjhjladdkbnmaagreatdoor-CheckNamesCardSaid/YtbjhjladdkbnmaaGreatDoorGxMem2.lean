/-
  Soundness of append and copy.
-/
import Derived.Test.YtbjhjladdkbnmaaGreatDoorGxMem
namespace Go.Proofs.YtbjhjladdkbnmaaGreatDoor.Gx
open Go

section
variable {E : Env} {F : Nat → Prop} {φ : Phi} {st : St} {w : World}

theorem run_loadCells_zero {P : Program} (a : Addr) : (loadCells a 0).run P w = .ok #[] w := rfl

theorem srcOf_sound (hS : Sess E F φ st w) {s n : Nat} {y : AV} {new : List AV} {uy : Value} (h : srcOf st s y = some (n, new)) (hy : VRel (Bd F φ st) w φ y uy) :
    ∃ us : List Value, (Builtin.lenOf uy).run E.P w = .ok n w ∧ LRel (Bd F φ st) w φ new us ∧ us.length = n * s ∧ ∀ m, m ≤ n → (Builtin.firstCells s m uy).run E.P w = .ok (us.take (m * s)).toArray w := by
  have rows : ∀ (us : List Value) (cb o m : Nat), Row w cb o us → m ≤ n → us.length = n * s → (loadCells ⟨cb, o, none⟩ (m * s)).run E.P w = .ok (us.take (m * s)).toArray w := by
    intro us cb o m hr hm hl
    have := run_loadCells (P := E.P) (hr.take (m * s))
    have hlen : (us.take (m * s)).length = m * s := by
      rw [List.length_take, hl]; exact Nat.min_eq_left (Nat.mul_le_mul_right s hm)
    rwa [hlen] at this
  unfold srcOf at h
  split at h
  · simp at h; obtain ⟨rfl, rfl⟩ := h
    cases hy
    exact ⟨[], rfl, .nil, by simp, fun m hm => by simp [Builtin.firstCells]⟩
  · rename_i len cs cap
    simp only [Option.map_eq_some_iff, Prod.mk.injEq] at h
    obtain ⟨r, hr, hn, rfl⟩ := h
    subst n
    obtain ⟨e1, e2⟩ := takeN_some _ _ _ hr
    cases hy with
    | isl vs hx hl hb hc hv =>
      rename_i a ccap
      obtain ⟨us, f1, f2, f3⟩ := pick_row (B := Bd F φ st) (w := w) (φ := phi0) cs (fun j v => w.cell? ⟨a.block, a.off + j, none⟩ = some v) (fun j c hj => ⟨vs j, hc j c hj, hv j c hj⟩)
      have hlen : (us.take (len * s)).length = len * s := by
        rw [← (f3.take (len * s)).1, ← e1, e2]
      refine ⟨us.take (len * s), rfl, by rw [e1]; exact (f3.weak φ).take _, hlen, fun m hm => ?_⟩
      by_cases h0 : m * s = 0
      · simp [Builtin.firstCells, h0, run_loadCells_zero]
      · have hne : cs ≠ [] := fun e => by
          subst e
          simp at e1
          subst e1
          simp at e2
          have : m * s ≤ len * s := Nat.mul_le_mul_right s hm
          omega
        obtain ⟨hb1, hb2⟩ := hb hne
        obtain ⟨ab, ao, asp⟩ := a
        simp only at hb1 hb2 f2
        subst hb2
        have hrow : Row w ab ao (us.take (len * s)) := (show Row w ab ao us from f2).take _
        simp only [Builtin.firstCells]
        exact rows _ ab ao m hrow hm hlen
  · rename_i b off len cap
    split at h
    · rename_i cs hcs
      simp only [Option.map_eq_some_iff, Prod.mk.injEq] at h
      obtain ⟨r, hr, hn, rfl⟩ := h
      subst n
      obtain ⟨e1, e2⟩ := takeN_some _ _ _ hr
      cases hy with
      | sl hp ho hl hx hg =>
        rename_i cb co o ccap
        obtain ⟨cb', o', us, q1, q2, q3⟩ := cellsAt_sound hS hcs (.ptr (off := off) hp)
        simp at q1
        obtain ⟨rfl, rfl⟩ := q1
        have hlen : (us.take (len * s)).length = len * s := by
          rw [← (q2.take (len * s)).1, ← e1, e2]
        refine ⟨us.take (len * s), rfl, by rw [e1]; exact q2.take _, hlen, fun m hm => ?_⟩
        rcases ho with h0 | rfl
        · obtain rfl : m = 0 := by omega
          simp [Builtin.firstCells, run_loadCells_zero]
        · simp only [Builtin.firstCells]
          exact rows _ cb (co + off) m (q3.take _) hm hlen
    · cases h
  · rename_i l
    split at h
    · rename_i hs
      subst hs
      simp at h
      obtain ⟨rfl, rfl⟩ := h
      cases hy
      have hsz : (⟨l.toArray⟩ : ByteArray).size = l.length := by simp [ByteArray.size]
      refine ⟨l.map fun b => .int .u8 b.toNat, by simp [Builtin.lenOf, hsz], ⟨by simp, fun j x v hx hv => ?_⟩, by simp, fun m hm => ?_⟩
      · simp at hx hv
        obtain ⟨b, hb, rfl⟩ := hx
        obtain ⟨b', hb', rfl⟩ := hv
        rw [hb] at hb'; cases hb'
        exact .int _ _
      · have : ((⟨l.toArray⟩ : ByteArray).extract 0 m).data = (l.take m).toArray := by
          apply Array.ext'
          simp [ByteArray.data_extract, List.extract_eq_take_drop]
        simp [Builtin.firstCells, this, List.map_take]
    · cases h
  · cases h

theorem nextcap_le (need cap : Nat) (h : cap < need) : Builtin.nextslicecap need cap ≤ 2 * need + 1024 := by
  unfold Builtin.nextslicecap
  split
  · omega
  · split
    · omega
    · have grow : ∀ (r c : Nat), c ≤ need → Builtin.growBy need r c ≤ 2 * need + 1024 := by
        intro r
        induction r with
        | zero => intro c hc; simp [Builtin.growBy]; omega
        | succ r ih =>
          intro c hc
          simp only [Builtin.growBy]
          split
          · omega
          · by_cases hn : c + (c + 768) / 4 ≤ need
            · exact ih _ hn
            · have : ∀ (r c : Nat), need ≤ c → Builtin.growBy need r c = c := by
                intro r c hc
                cases r with
                | zero => rfl
                | succ r => simp only [Builtin.growBy]; rw [if_pos hc]
              rw [this _ _ (by omega)]
              omega
      exact grow 4 cap (by omega)

/-- append that grows into a new row. -/
theorem run_grow {P : Program} {argTypes : Array TypeId} {ty sT xT e : TypeId} {dx : TypeDesc} {i : TypeInfo} {z : AV} {base : Option Addr} {sLen sCap n : Nat} {uy : Value} {old new : List Value}
    (h0 : argTypes[0]? = some sT) (h1 : argTypes[1]? = some xT) (hs : P.underlying sT = some (.slice e)) (hx : P.underlying xT = some dx) (hni : ∀ k, dx ≠ .int k)
    (hi : P.info? e = some i) (hz : zeroT P e = some z) (hn : (Builtin.lenOf uy).run P w = .ok n w) (hcap : ¬(sLen + n ≤ sCap)) (hbound : (2 * (sLen + n) + 1024) * (i.bytes + 1) ≤ 70368744177664)
    (hold : (Builtin.firstCells i.size sLen (.slice base sLen sCap)).run P { w with drawn := w.drawn + 1 } = .ok old.toArray { w with drawn := w.drawn + 1 })
    (hnew : (Builtin.firstCells i.size n uy).run P { w with drawn := w.drawn + 1 } = .ok new.toArray { w with drawn := w.drawn + 1 }) :
    ∃ (newCap : Nat) (rest : Array Value), sLen + n ≤ newCap ∧ rest.size = (newCap - (sLen + n)) * ((i.zero.map (·.cells.size)).getD 0) ∧
      (Builtin.append_ argTypes ty #[.slice base sLen sCap, uy]).run P w =
        .ok (.slice (some ⟨w.heap.size, 0, none⟩) (sLen + n) newCap) (pushed { w with drawn := w.drawn + 1 } (.cells (old ++ new ++ rest.toList).toArray e)) := by
  obtain ⟨i', v, q1, q2, q3⟩ := zeroT_some hz
  rw [hi] at q1; cases q1
  have hsz : szOf P e = some i.size := by simp [szOf, hi]
  have hz' : ∀ w, (zeroValue e).run P w = .ok v w := fun w => by simp [zeroValue, run_info hi, q2]
  have hb : (2 * (sLen + n) + 1024) * i.bytes ≤ 70368744177664 := Nat.le_trans (Nat.mul_le_mul_left _ (Nat.le_succ _)) hbound
  have hb2 : 2 * (sLen + n) + 1024 ≤ 70368744177664 := Nat.le_trans (Nat.le_mul_of_pos_right _ (Nat.succ_pos _)) hbound
  have hnc : Builtin.nextslicecap (sLen + n) sCap * i.bytes ≤ 70368744177664 := Nat.le_trans (Nat.mul_le_mul_right _ (nextcap_le _ _ (by omega))) hb
  have hdx : (match dx with | .int _ => true | _ => false) = false := by
    cases dx <;> first | rfl | exact absurd rfl (hni _)
  refine ⟨sLen + n + w.tape w.drawn (.appendCap (sLen + n) sCap e) % (2 ^ 63 - (sLen + n)), Builtin.zeroCells v.cells (w.tape w.drawn (.appendCap (sLen + n) sCap e) % (2 ^ 63 - (sLen + n))), Nat.le_add_right _ _, ?_, ?_⟩
  · simp [Builtin.zeroCells, q2]
  · have hc1 : ¬(((sLen + n : Nat) : Int) > IntKind.i64.max) := by
      simp [IntKind.max, IntKind.signed, IntKind.bits]; omega
    have hc2 : ¬(Builtin.nextslicecap (sLen + n) sCap * i.bytes > 2 ^ 48) := by omega
    have hf : (Question.appendCap (sLen + n) sCap e).forced = false := rfl
    have hdr : ∀ q : Question, q.forced = false → (choose q).run P w = .ok (q.cut (w.tape w.drawn q)) { w with drawn := w.drawn + 1 } := by
      intro q hq; simp [choose, Sem.run, hq]
    simp only [Builtin.append_, h0, h1]
    cases dx with
    | int k => exact absurd rfl (hni k)
    | _ =>
      simp only [List.getElem?_toArray, List.getElem?_cons_zero, List.getElem?_cons_succ, Sem.run_bind, run_und hs, run_und hx, Result.andThen_ok, run_size hsz, Sem.run_pure, if_false, Bool.false_eq_true,
        hn, hcap, Sem.run_ite, hc1, false_and, run_info hi, hc2, hdr _ hf, Question.cut, run_askRoom, hold, hnew, hz', newRow, run_newObj, Bool.not_false, if_true]
      simp [pushed]
      congr 2
      apply Array.ext'
      simp

/-- append within the capacity. -/
theorem run_within {P : Program} {argTypes : Array TypeId} {ty sT xT e : TypeId} {dx : TypeDesc} {size : Nat} {a : Addr} {sLen sCap n : Nat} {uy : Value} {new : List Value} {w' : World}
    (h0 : argTypes[0]? = some sT) (h1 : argTypes[1]? = some xT) (hs : P.underlying sT = some (.slice e)) (hx : P.underlying xT = some dx) (hni : ∀ k, dx ≠ .int k)
    (hsz : szOf P e = some size) (hn : (Builtin.lenOf uy).run P w = .ok n w) (hcap : sLen + n ≤ sCap)
    (hnew : (Builtin.firstCells size n uy).run P w = .ok new.toArray w) (hst : (storeCells (a.add (sLen * size)) new).run P w = .ok () w') :
    (Builtin.append_ argTypes ty #[.slice (some a) sLen sCap, uy]).run P w = .ok (.slice (some a) (sLen + n) sCap) w' := by
  simp only [Builtin.append_, h0, h1]
  cases dx with
  | int k => exact absurd rfl (hni k)
  | _ =>
    simp only [List.getElem?_toArray, List.getElem?_cons_zero, List.getElem?_cons_succ, Sem.run_bind, run_und hs, run_und hx, Result.andThen_ok, run_size hsz, Sem.run_pure, if_false, Bool.false_eq_true,
      hn, hcap, Sem.run_ite, Bool.not_false, if_true, hnew, hst]

theorem run_nothing {P : Program} {argTypes : Array TypeId} {ty sT xT e : TypeId} {dx : TypeDesc} {size : Nat} {base : Option Addr} {sLen sCap : Nat} {uy : Value}
    (h0 : argTypes[0]? = some sT) (h1 : argTypes[1]? = some xT) (hs : P.underlying sT = some (.slice e)) (hx : P.underlying xT = some dx) (hni : ∀ k, dx ≠ .int k)
    (hsz : szOf P e = some size) (hn : (Builtin.lenOf uy).run P w = .ok 0 w) (hcap : sLen ≤ sCap)
    (hnew : (Builtin.firstCells size 0 uy).run P w = .ok #[] w) :
    (Builtin.append_ argTypes ty #[.slice base sLen sCap, uy]).run P w = .ok (.slice base sLen sCap) w := by
  simp only [Builtin.append_, h0, h1]
  cases dx with
  | int k => exact absurd rfl (hni k)
  | _ =>
    simp only [List.getElem?_toArray, List.getElem?_cons_zero, List.getElem?_cons_succ, Sem.run_bind, run_und hs, run_und hx, Result.andThen_ok, run_size hsz, Sem.run_pure, if_false, Bool.false_eq_true,
      hn, Nat.add_zero, hcap, Sem.run_ite, Bool.not_false, if_true, hnew]
    cases base <;> simp [storeCells]

/-- What an effect comes to: a value, and both memories further on. -/
def Comes1 (E : Env) (F : Nat → Prop) (φ : Phi) (st : St) (w : World) (s : Sem Value) (v : AV) (st' : St) : Prop :=
  ∃ u φ' w', s.run E.P w = .ok u w' ∧ Sess E F φ' st' w' ∧ Ext φ st w φ' st' w' ∧ VRel (Bd F φ' st') w' φ' v u

/-- A drawn number changes nothing that is looked at. -/
theorem drew_sess (hS : Sess E F φ st w) : Sess E F φ st { w with drawn := w.drawn + 1 } ∧ Ext φ st w φ st { w with drawn := w.drawn + 1 } :=
  hS.same_heap rfl ⟨rfl, rfl, rfl⟩

theorem grow_new (hS : Sess E F φ st w) {s need newCap : Nat} {cs : List AV} {us : List Value} {rest : Array Value} {e : TypeId} (hl : LRel (Bd F φ st) w φ cs us) (hlen : cs.length = need * s) (hle : need ≤ newCap)
    (hrest : rest.size = (newCap - need) * s) :
    ∃ φ', Sess E F φ' (st ++ [.own cs]) (pushed w (.cells (us ++ rest.toList).toArray e)) ∧ Ext φ st w φ' (st ++ [.own cs]) (pushed w (.cells (us ++ rest.toList).toArray e)) ∧
      VRel (Bd F φ' (st ++ [.own cs])) (pushed w (.cells (us ++ rest.toList).toArray e)) φ' (.sl st.length 0 need (.gr s)) (.slice (some ⟨w.heap.size, 0, none⟩) need newCap) := by
  obtain ⟨g1, g2⟩ := hS.ghost (.own cs)
  have hf := hS.fresh (Nat.le_refl st.length)
  obtain ⟨r1, r2⟩ := g1.realize (b := st.length) (ab := .own cs) (by simp) rfl hf (.cells (us ++ rest.toList).toArray e) (fun B' g => by
    refine ⟨_, e, pushed_new w _, fun j c hj => ?_⟩
    have hlt : j < us.length := by have := lt_of_get hj; have := hl.1; omega
    refine ⟨us[j], by simp [List.getElem?_append_left hlt, hlt], ?_⟩
    have := (hl.2 j c _ hj (List.getElem?_eq_getElem hlt))
    exact (g2.val this).mono g (phiSet_le hf))
  refine ⟨_, r1, ghost_real g2 r2 rfl, ?_⟩
  refine .sl (cb := w.heap.size) (co := 0) (by simp [phiSet]) (.inr rfl) hle (fun c e => by cases e) (fun sz e' => ?_)
  cases e'
  right
  refine ⟨_, e, (0, 0), pushed_new w _, ?_⟩
  have h1 := hl.1
  have : (newCap - need) * s + need * s = newCap * s := by rw [← Nat.add_mul]; congr 1; omega
  simp [hrest]
  omega

/-- An own row goes on under another number, from a place in it on. -/
theorem Sess.move (hS : Sess E F φ st w) {b cb co off : Nat} {cs : List AV} (hb : st[b]? = some (.own cs)) (hp : φ b = some (cb, co)) :
    Sess E F (phiSet φ st.length cb (co + off)) (st.set b .dead ++ [.own (cs.drop off)]) w ∧ Ext φ st w (phiSet φ st.length cb (co + off)) (st.set b .dead ++ [.own (cs.drop off)]) w := by
  have hf := hS.fresh (Nat.le_refl st.length)
  have hle := phiSet_le (cb := cb) (co := co + off) hf
  have hblt := lt_of_get hb
  have hget : ∀ (x : Nat) ax, (st.set b .dead ++ [.own (cs.drop off)])[x]? = some ax → (x = st.length ∧ ax = .own (cs.drop off)) ∨ (x = b ∧ ax = .dead) ∨ (x ≠ b ∧ x < st.length ∧ st[x]? = some ax) := by
    intro x ax hx
    rcases get_append hx with ⟨h1, h2⟩ | ⟨rfl, rfl⟩
    · simp at h1
      rw [List.getElem?_set] at h2
      by_cases e : b = x
      · subst e; simp [hblt] at h2; exact .inr (.inl ⟨rfl, h2.symm⟩)
      · simp [e] at h2; exact .inr (.inr ⟨fun e' => e e'.symm, h1, h2⟩)
    · exact .inl ⟨by simp, rfl⟩
  have hphi : ∀ x, x < st.length → phiSet φ st.length cb (co + off) x = φ x := fun x hx => by simp [phiSet, Nat.ne_of_lt hx]
  have hphiN : phiSet φ st.length cb (co + off) st.length = some (cb, co + off) := by simp [phiSet]
  have hown : ∀ c, Own (phiSet φ st.length cb (co + off)) (st.set b .dead ++ [.own (cs.drop off)]) c ↔ Own φ st c := by
    intro c
    constructor
    · rintro ⟨x, ax, co', h1, h2, h3⟩
      rcases hget x ax h1 with ⟨rfl, rfl⟩ | ⟨rfl, rfl⟩ | ⟨hne, hlt, h1⟩
      · rw [hphiN] at h3; cases h3; exact ⟨b, _, co, hb, rfl, hp⟩
      · cases h2
      · rw [hphi x hlt] at h3; exact ⟨x, ax, co', h1, h2, h3⟩
    · rintro ⟨x, ax, co', h1, h2, h3⟩
      by_cases e : x = b
      · subst e
        rw [hp] at h3; cases h3
        exact ⟨st.length, .own (cs.drop off), co + off, by simp, rfl, hphiN⟩
      · have hlt := lt_of_get h1
        exact ⟨x, ax, co', by rw [List.getElem?_append_left (by simpa using hlt), List.getElem?_set_ne (fun e' => e e'.symm)]; exact h1, h2, by rw [hphi x hlt]; exact h3⟩
  have hB : Bd F (phiSet φ st.length cb (co + off)) (st.set b .dead ++ [.own (cs.drop off)]) = Bd F φ st := funext fun c => by simp only [Bd, hown]
  have hext : Ext φ st w (phiSet φ st.length cb (co + off)) (st.set b .dead ++ [.own (cs.drop off)]) w :=
    ⟨⟨hle, Nat.le_refl _, fun _ _ _ => rfl, fun c _ o => (hown c).1 o, fun _ c _ _ h => ⟨c, h, rfl⟩, by simp, rfl, rfl, rfl, fun _ => rfl⟩, fun b hb => hphi b hb⟩
  have g : Goes (Bd F φ st) w (Bd F φ st) w := by have := hext.goes (F := F); rwa [hB] at this
  refine ⟨⟨?_, ?_, ?_, ?_, ?_⟩, hext⟩
  · intro x ax c co' h1 h2
    rw [hB]
    rcases hget x ax h1 with ⟨rfl, rfl⟩ | ⟨rfl, rfl⟩ | ⟨hne, hlt, h1⟩
    · rw [hphiN] at h2; cases h2
      obtain ⟨cells, t, q1, q2⟩ := hS.blk b _ cb co hb hp
      refine ⟨cells, t, q1, fun j c hj => ?_⟩
      obtain ⟨v, r1, r2⟩ := q2 (off + j) c (by simpa using hj)
      exact ⟨v, by rw [Nat.add_assoc]; exact r1, r2.mono g hle⟩
    · trivial
    · rw [hphi x hlt] at h2
      exact (hS.blk x ax c co' h1 h2).other g hle rfl (fun _ => (hS.lt x c co' h2).1)
  · intro x x' ax ax' c c1 c2 h1 h2 h3 h4 h5 h6
    rcases hget x ax h1 with ⟨rfl, rfl⟩ | ⟨rfl, rfl⟩ | ⟨hne, hlt, h1⟩
    · rw [hphiN] at h5; cases h5
      rcases hget x' ax' h3 with ⟨rfl, rfl⟩ | ⟨rfl, rfl⟩ | ⟨hne', hlt', h3⟩
      · rfl
      · cases h4
      · rw [hphi x' hlt'] at h6
        exact absurd (hS.inj x' b ax' _ cb c2 co h3 h4 hb rfl h6 hp) hne'
    · cases h2
    · rw [hphi x hlt] at h5
      rcases hget x' ax' h3 with ⟨rfl, rfl⟩ | ⟨rfl, rfl⟩ | ⟨hne', hlt', h3⟩
      · rw [hphiN] at h6; cases h6
        exact absurd (hS.inj x b ax _ cb c1 co h1 h2 hb rfl h5 hp) hne
      · cases h4
      · rw [hphi x' hlt'] at h6
        exact hS.inj x x' ax ax' c c1 c2 h1 h2 h3 h4 h5 h6
  · intro x c co' hx
    by_cases e : x = st.length
    · subst e; rw [hphiN] at hx; cases hx; exact ⟨(hS.lt b cb co hp).1, by simp⟩
    · have hx' : φ x = some (c, co') := by simpa [phiSet, e] using hx
      have := hS.lt x c co' hx'
      exact ⟨this.1, by simp; omega⟩
  · rw [hB]; intro gl cs' hg; exact (hS.glob gl cs' hg).mono g (fun _ _ h => h)
  · intro c hc; exact ⟨(hS.fout c hc).1, fun o => (hS.fout c hc).2 ((hown c).1 o)⟩

/-- A row is written behind what is known of a block. -/
theorem extend_sound (hS : Sess E F φ st w) {b cb co k : Nat} {cs new : List AV} {us : List Value} {cells : Array Value} {t : TypeId} (hb : st[b]? = some (.own cs)) (hp : φ b = some (cb, co))
    (hc : w.heap[cb]? = some (.cells cells t (0, 0))) (hk : k ≤ cs.length) (hfit : co + k + us.length ≤ cells.size) (hn : LRel (Bd F φ st) w φ new us) (hcell : new.all isCell = true) :
    ∃ w', (storeCells ⟨cb, co + k, none⟩ us).run E.P w = .ok () w' ∧ Sess E F φ (st.set b (.own (cs.take k ++ new))) w' ∧ Ext φ st w φ (st.set b (.own (cs.take k ++ new))) w' := by
  obtain ⟨cells', t', h1, h2⟩ := hS.blk b _ cb co hb hp
  rw [hc] at h1; cases h1
  have hrun := run_storeCells (P := E.P) us 0 w cells (o := co + k) hc (by omega) (hn.oneV hcell)
  simp only [Nat.add_zero] at hrun
  refine ⟨_, hrun, ?_⟩
  have hown : Own φ st cb := ⟨b, _, co, hb, rfl, hp⟩
  refine hS.change hb rfl rfl hp (fun c t' fz hc' => ?_) ?_
  · rw [hc] at hc'; cases hc'; exact ⟨_, rfl, writeArr_size _ _ _⟩
  · have g : Goes (Bd F φ st) w (Bd F φ st) (setAt w cb (.cells (writeArr cells (co + k) us) t (0, 0))) :=
      goes_setAt (.inr hown) hc (fun c t' fz hc => by cases hc; exact ⟨_, rfl, writeArr_size _ _ _⟩)
    refine ⟨_, t, setAt_same hc, fun j c hj => ?_⟩
    rw [writeArr_get us cells (co + k) (co + j) hfit]
    rcases Nat.lt_or_ge j k with hlt | hge
    · rw [if_neg (by omega)]
      rw [List.getElem?_append_left (by simp; omega), List.getElem?_take, if_pos hlt] at hj
      obtain ⟨v, hv1, hv2⟩ := h2 j c hj
      exact ⟨v, hv1, hv2.mono g (fun _ _ h => h)⟩
    · rw [List.getElem?_append_right (by simp; omega)] at hj
      have e1 : (cs.take k).length = k := by simp; omega
      rw [e1] at hj
      have hl := lt_of_get hj
      have hlen := hn.1
      rw [if_pos (by omega), show co + j - (co + k) = j - k by omega]
      have hlt : j - k < us.length := by omega
      exact ⟨us[j - k], List.getElem?_eq_getElem hlt, (hn.2 (j - k) c _ hj (List.getElem?_eq_getElem hlt)).mono g (fun _ _ h => h)⟩

end
end Go.Proofs.YtbjhjladdkbnmaaGreatDoor.Gx
