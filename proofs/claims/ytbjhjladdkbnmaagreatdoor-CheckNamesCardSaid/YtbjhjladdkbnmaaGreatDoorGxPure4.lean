/-
  Soundness of the operations that leave the memory as it is (4): strings, nil, the model's own rules on scalars, maps, interfaces; all of them.
-/
import Derived.Test.YtbjhjladdkbnmaaGreatDoorGxPure3
import Derived.Laws.Strings
namespace Go.Proofs.YtbjhjladdkbnmaaGreatDoor.Gx
open Go

section
variable {E : Env} {F : Nat → Prop} {φ : Phi} {st : St} {w : World} {B : Nat → Prop}

theorem bool_of {b c : Bool} (h : b = c) : VRel B w φ (.bool b) (.bool c) := by rw [h]; exact .bool c

theorem strBin_sound {P : Program} {op : BinOp} {t : TypeId} {a b : List UInt8} {v : AV} (h : strBin op a b = some v) :
    ∃ r, (binOp op t (.string ⟨a.toArray⟩) (.string ⟨b.toArray⟩)).run P w = .ok r w ∧ VRel B w φ v r := by
  cases op <;> simp [strBin] at h
  case add =>
    obtain ⟨h1, rfl⟩ := h
    have h2 : ¬(((⟨a.toArray⟩ : ByteArray).size + (⟨b.toArray⟩ : ByteArray).size : Nat) : Int) > IntKind.i64.max := by
      simp [ByteArray.size, IntKind.max, IntKind.signed, IntKind.bits]; omega
    have h3 : (⟨a.toArray⟩ : ByteArray) ++ (⟨b.toArray⟩ : ByteArray) = ⟨(a ++ b).toArray⟩ := by
      have : ((⟨a.toArray⟩ : ByteArray) ++ (⟨b.toArray⟩ : ByteArray)).data = (a ++ b).toArray := by simp [ByteArray.data_append]
      generalize (⟨a.toArray⟩ : ByteArray) ++ (⟨b.toArray⟩ : ByteArray) = z at this
      cases z; simp at this; simp [this]
    refine ⟨.string ⟨(a ++ b).toArray⟩, ?_, .str _⟩
    simp only [binOp, Op.stringOp]
    rw [if_neg h2, h3]; rfl
  all_goals (subst h; simp only [binOp, Op.stringOp, ByteArray.toList_mk, Sem.run_pure]; exact ⟨_, rfl, bool_of (by simp)⟩)

theorem slowBin_sound {P : Program} {op : BinOp} {t : TypeId} {ox oy : Operand} {x y v : AV} {a b : Value} (h : slowBin P op t ox oy x y = some v) (hx : VRel B w φ x a) (hy : VRel B w φ y b) :
    ∃ r, (do eqGuard op t ox oy a b; binOp op t a b : Sem Value).run P w = .ok r w ∧ VRel B w φ v r := by
  unfold slowBin at h
  split at h
  · rename_i a' b' h1 h2
    rw [toV_rel h1 hx, toV_rel h2 hy]
    split at h
    · rename_i r hr
      exact ⟨r, pureRun_run _ hr w, ofV_rel h⟩
    · cases h
  · cases h

/-- What two values are that are compared with nil. -/
theorem equal_of {P : Program} {t : TypeId} {a b : Value} {r : Bool} (h : ∀ d, (Op.equalIn (d + 1) t a b).run P w = .ok r w) : (Op.equal t a b).run P w = .ok r w := h 9999

theorem nilEq_sound {P : Program} {d : TypeDesc} {t : TypeId} {x y : AV} {a b : Value} {r : Bool} (hd : P.underlying t = some d) (h : nilEq d x y = some r) (hx : VRel B w φ x a) (hy : VRel B w φ y b) :
    (Op.equal t a b).run P w = .ok r w ∧ (∀ c d, ¬(a = .agg c ∧ b = .agg d)) ∧ ¬(a = .nilIface ∧ b = .nilIface) ∧
    (∀ op, op = .eql ∨ op = .neq → binOp op t a b = (match op with | .eql => do pure (.bool (← Op.equal t a b)) | _ => do pure (.bool (!(← Op.equal t a b))))) := by
  unfold nilEq at h
  split at h <;> try (cases h; done)
  all_goals
    split at h <;> first
      | (cases h; done)
      | (simp at h; subst h
         cases hx <;> cases hy <;>
         exact ⟨equal_of fun d => by simp [Op.equalIn, run_und hd], by simp, by simp, by rintro op (rfl | rfl) <;> rfl⟩)

theorem nilCmp_sound {P : Program} {op : BinOp} {t : TypeId} {ox oy : Operand} {x y v : AV} {a b : Value} (h : nilCmp op (P.underlying t) x y = some v) (hx : VRel B w φ x a) (hy : VRel B w φ y b) :
    ∃ r, (do eqGuard op t ox oy a b; binOp op t a b : Sem Value).run P w = .ok r w ∧ VRel B w φ v r := by
  unfold nilCmp at h
  split at h
  · cases h
  · rename_i d hd
    split at h
    · rename_i b' hb
      simp at h; subst h
      obtain ⟨h1, h2, h3, h4⟩ := nilEq_sound hd hb hx hy
      exact ⟨.bool b', by simp [eqGuard_run h2 h3, h4 .eql (.inl rfl), h1], .bool _⟩
    · rename_i b' hb
      simp at h; subst h
      obtain ⟨h1, h2, h3, h4⟩ := nilEq_sound hd hb hx hy
      exact ⟨.bool (!b'), by simp [eqGuard_run h2 h3, h4 .neq (.inr rfl), h1], .bool _⟩
    · cases h

theorem kIdx_inj {a b : IntKind} (h : Nat.beq (kIdx a) (kIdx b) = true) : a = b := by
  cases a <;> cases b <;> first | rfl | (simp [kIdx] at h)

theorem rngBin_sound {op : BinOp} {lo hi n b : Int} {r : Bool} {k : IntKind} (h : rngBin lo hi b op = some r) (h1 : lo ≤ n) (h2 : n ≤ hi) : intBin op k n b = some (.bool r) := by
  cases op <;> simp only [rngBin, ltI_eq, Bool.or_eq_true, decide_eq_true_eq] at h <;> first | (cases h; done) | skip
  all_goals simp only [intBin, ltI_eq, eqI_eq]
  all_goals repeat' split at h
  all_goals first | (cases h; done) | skip
  all_goals simp_all
  all_goals omega

theorem neBin_sound {op : BinOp} {ne : List (List UInt8)} {a b : List UInt8} {v : AV} (h : neBin op ne b = some v) (hn : a ∉ ne) : strBin op a b = some v ∧ strBin op b a = some v := by
  unfold neBin at h
  split at h
  · rename_i hany
    have hne : a ≠ b := by
      rintro rfl
      rw [List.any_eq_true] at hany
      obtain ⟨x, hx, he⟩ := hany
      simp at he; subst he
      exact hn hx
    split at h
    · simp at h; subst h; simp [strBin, hne, Ne.symm hne]
    · simp at h; subst h; simp [strBin, hne, Ne.symm hne]
    · cases h
  · cases h

theorem binE_sound {P : Program} {op : BinOp} {t : TypeId} {ox oy : Operand} {x y v : AV} {a b : Value} (h : binE P op t ox oy x y = some v) (hx : VRel B w φ x a) (hy : VRel B w φ y b) :
    ∃ r, (do eqGuard op t ox oy a b; binOp op t a b : Sem Value).run P w = .ok r w ∧ VRel B w φ v r := by
  unfold binE at h
  split at h
  · rename_i k a' j b'
    split at h
    · rename_i v' hk hv
      simp at h; subst h
      obtain rfl := kIdx_inj hk
      cases hx; cases hy
      obtain ⟨r, h1, h2⟩ := intBin_sound (P := P) (t := t) (w := w) (B := B) (φ := φ) hv
      exact ⟨r, by simp [eqGuard_run, h1], h2⟩
    · exact slowBin_sound h hx hy
  · cases hx; cases hy
    obtain ⟨r, h1, h2⟩ := strBin_sound (P := P) (t := t) (w := w) (B := B) (φ := φ) h
    exact ⟨r, by simp [eqGuard_run, h1], h2⟩
  · rename_i k lo hi j b'
    split at h
    · rename_i v' hk hv
      simp at h; subst h
      have hkj := kIdx_inj hk
      subst hkj
      cases hx with
      | oint g1 g2 =>
        cases hy
        obtain ⟨r, h1, h2⟩ := intBin_sound (P := P) (t := t) (w := w) (B := B) (φ := φ) (rngBin_sound (k := k) hv g1 g2)
        exact ⟨r, by simp [eqGuard_run, h1], h2⟩
    · cases h
  · cases hx with
    | ostr hn =>
      cases hy
      obtain ⟨r, h1, h2⟩ := strBin_sound (P := P) (t := t) (w := w) (B := B) (φ := φ) (neBin_sound h hn).1
      exact ⟨r, by simp [eqGuard_run, h1], h2⟩
  · cases hy with
    | ostr hn =>
      cases hx
      obtain ⟨r, h1, h2⟩ := strBin_sound (P := P) (t := t) (w := w) (B := B) (φ := φ) (neBin_sound h hn).2
      exact ⟨r, by simp [eqGuard_run, h1], h2⟩
  · split at h
    · rename_i v' hv
      simp at h; subst h
      exact nilCmp_sound hv hx hy
    · exact slowBin_sound h hx hy

theorem unE_sound {P : Program} {op : UnOp} {x v : AV} {a : Value} (h : unE P op x = some v) (hx : VRel B w φ x a) : ∃ r, (Op.unary op a).run P w = .ok r w ∧ VRel B w φ v r := by
  unfold unE at h
  split at h
  · simp at h; subst h; cases hx; exact ⟨_, rfl, .bool _⟩
  · split at h
    · rename_i a' ha
      rw [toV_rel ha hx]
      split at h
      · rename_i r hr; exact ⟨r, pureRun_run _ hr w, ofV_rel h⟩
      · cases h
    · cases h

theorem convE_sound {P : Program} {s d : TypeId} {x v : AV} {a : Value} (h : convE P s d x = some v) (hx : VRel B w φ x a) : ∃ r, (convert s d a).run P w = .ok r w ∧ VRel B w φ v r := by
  unfold convE at h
  split at h
  · split at h
    · rename_i ds k hs hd
      simp at h; subst h; cases hx
      exact ⟨_, by simp [convert, run_und hs, run_und hd, Conv.intToInt]; rfl, by rw [wrapF_eq]; exact .int _ _⟩
    · cases h
  · split at h
    · rename_i ds hs hd
      simp at h; subst h; cases hx
      exact ⟨_, by simp [convert, run_und hs, run_und hd], .str _⟩
    · cases h
  · cases h

theorem scalars_sound {P : Program} {f : Array TypeId → TypeId → Array Value → Sem Value} {ts : Array TypeId} {t : TypeId} {xs : List AV} {v : AV} {us : List Value} (h : scalars P f ts t xs = some v)
    (hx : LRel B w φ xs us) : ∃ r, (f ts t us.toArray).run P w = .ok r w ∧ VRel B w φ v r := by
  unfold scalars at h
  split at h
  · rename_i vs hvs
    rw [toL_rel hvs hx]
    split at h
    · rename_i r hr; exact ⟨r, pureRun_run _ hr w, ofV_rel h⟩
    · cases h
  · cases h

theorem getObj_run {P : Program} {r : Nat} {o : Obj} (h : w.heap[r]? = some o) (hc : ∀ c t f, o ≠ .cells c t f) : (getObj r).run P w = .ok o w := by
  cases o <;> first | exact absurd rfl (hc _ _ _) | simp [getObj, Sem.run, h]

theorem setObj_run {P : Program} {r : Nat} {o o' : Obj} (h : w.heap[r]? = some o) (hc : ∀ c t f, o ≠ .cells c t f) : (setObj r o').run P w = .ok () (setAt w r o') := by
  cases o <;> first | exact absurd rfl (hc _ _ _) | simp [setObj, Sem.run, h, setAt]

theorem lenE_sound (hS : Sess E F φ st w) {ts : Array TypeId} {t : TypeId} {x v : AV} {us : List Value} {a : Value} {y : TypeId} (ht : ts[0]? = some t) (h : lenE E.P st t x = some v)
    (hx : VRel (Bd F φ st) w φ x a) : ∃ r, (Builtin.len_ ts y (a :: us).toArray).run E.P w = .ok r w ∧ VRel (Bd F φ st) w φ v r := by
  unfold lenE at h
  have h0 : ((a :: us).toArray : Array Value)[0]? = some a := by simp
  split at h
  · rename_i s hu; simp at h; subst h; cases hx
    have hz : (⟨s.toArray⟩ : ByteArray).size = s.length := by simp [ByteArray.size]
    exact ⟨.int .i64 s.length, by simp only [Builtin.len_, ht, h0]; simp [run_und hu, goInt, hz], .int _ _⟩
  · rename_i n e hu
    simp at h; subst h
    exact ⟨.int .i64 n, by simp only [Builtin.len_, ht, h0]; simp [run_und hu, goInt], .int _ _⟩
  · rename_i hu; simp at h; subst h; cases hx
    exact ⟨.int .i64 0, by simp only [Builtin.len_, ht, h0]; simp [run_und hu, goInt], .int _ _⟩
  · rename_i n _ hu; simp at h; subst h; cases hx
    exact ⟨.int .i64 n, by simp only [Builtin.len_, ht, h0]; simp [run_und hu, goInt], .int _ _⟩
  · rename_i n _ _ hu; simp at h; subst h; cases hx
    exact ⟨.int .i64 n, by simp only [Builtin.len_, ht, h0]; simp [run_und hu, goInt], .int _ _⟩
  · rename_i hu; simp at h; subst h; cases hx
    exact ⟨.int .i64 0, by simp only [Builtin.len_, ht, h0]; simp [run_und hu, goInt], .int _ _⟩
  · rename_i k e b hu
    rw [get?_eq] at h
    split at h
    · rename_i es clock hb
      simp at h; subst h
      cases hx with
      | map hp =>
        rename_i cb co
        obtain ⟨ces, h1, h2, _⟩ := hS.blk b _ cb co hb hp
        exact ⟨.int .i64 es.length, by simp only [Builtin.len_, ht, h0]; simp [run_und hu, getObj_run h1, goInt, h2], .int _ _⟩
    · cases h
  · cases h

/-! ### Maps -/
theorem ba_beq (a b : List UInt8) : ((⟨a.toArray⟩ : ByteArray) == ⟨b.toArray⟩) = (a == b) := by
  show (a.toArray == b.toArray) = (a == b)
  rw [Bool.eq_iff_iff]; simp

theorem keyScalar_key {P : Program} {kT : TypeId} {k : AV} (h : keyScalar P kT k = true) :
    (∃ s, k = .str s ∧ P.underlying kT = some .string) ∨ (∃ j n, k = .int j n ∧ P.underlying kT = some (.int j)) ∨ (∃ b, k = .bool b ∧ P.underlying kT = some .bool) := by
  unfold keyScalar at h
  split at h
  · rename_i hu; exact .inl ⟨_, rfl, hu⟩
  · rename_i j k' n hu; simp at h; subst h; exact .inr (.inl ⟨_, _, rfl, hu⟩)
  · rename_i hu; exact .inr (.inr ⟨_, rfl, hu⟩)
  · cases h

theorem checkKey_run {P : Program} {kT : TypeId} {k : AV} {u : Value} (h : keyScalar P kT k = true) (hk : VRel B w φ k u) (e : Bool) : (Instr.checkKey e 10000 kT u).run P w = .ok () w := by
  have key : ∀ n, (Instr.checkKey e (n + 1) kT u).run P w = .ok () w := by
    intro n
    rcases keyScalar_key h with ⟨s, rfl, hu⟩ | ⟨j, m, rfl, hu⟩ | ⟨b, rfl, hu⟩ <;> cases hk <;> simp [Instr.checkKey, run_und hu]
  exact key 9999

theorem findE_sound {P : Program} {kT : TypeId} {d : TypeDesc} {k : AV} {u : Value} (hd : P.underlying kT = some d) (h : keyScalar P kT k = true) (hk : VRel B w φ k u) :
    ∀ (es : List AEnt) (ces : List MapEntry) (i : Nat), es.length = ces.length → (∀ (j : Nat) e c, es[j]? = some e → ces[j]? = some c → VRel B w φ e.key c.key ∧ VRel B w φ e.val c.val ∧ e.born = c.born) →
    es.all (fun e => keyScalar P kT e.key) = true →
    match findE k es i with
    | some (n, v) => ∃ uv, Instr.findNow d u ces i = some (some (n, uv)) ∧ VRel B w φ v uv
    | none => Instr.findNow d u ces i = some none
  | [], ces, i, hl, _, _ => by
    have : ces = [] := List.eq_nil_of_length_eq_zero hl.symm
    subst this; simp [findE, Instr.findNow]
  | e :: es, ces, i, hl, hr, ha => by
    cases ces with
    | nil => simp at hl
    | cons c ces =>
      simp at ha
      obtain ⟨ha1, ha2⟩ := ha
      obtain ⟨r1, r2, r3⟩ := hr 0 e c rfl rfl
      have ih := findE_sound hd h hk es ces (i + 1) (by simpa using hl) (fun j e c he hc => hr (j + 1) e c (by simpa using he) (by simpa using hc)) (by simpa using ha2)
      have hsame : Instr.sameNow d u c.key = some (sameKey k e.key) := by
        obtain ⟨ek, ev, eb⟩ := e
        obtain ⟨ck, cv, cb⟩ := c
        simp only at r1 ha1
        rcases keyScalar_key h with ⟨s, rfl, hu⟩ | ⟨j, m, rfl, hu⟩ | ⟨b, rfl, hu⟩ <;>
          rcases keyScalar_key ha1 with ⟨s', rfl, hu'⟩ | ⟨j', m', rfl, hu'⟩ | ⟨b', rfl, hu'⟩ <;>
          (rw [hu] at hd hu'; cases hd; cases hu' <;> cases hk <;> cases r1 <;> simp [Instr.sameNow, sameKey, ba_beq])
      unfold findE
      cases hsk : sameKey k e.key with
      | true =>
        simp only [if_true]
        exact ⟨c.val, by simp [Instr.findNow, hsame, hsk], r2⟩
      | false =>
        simp only [Bool.false_eq_true, if_false]
        rw [show Instr.findNow d u (c :: ces) i = Instr.findNow d u ces (i + 1) by simp [Instr.findNow, hsame, hsk]]
        exact ih

theorem lookupE_sound (hS : Sess E F φ st w) {t : TypeId} {m k v : AV} {um uk : Value} {ok : Bool} (h : lookupE E.P st t m k ok = some v) (hm : VRel (Bd F φ st) w φ m um)
    (hk : VRel (Bd F φ st) w φ k uk) : ∃ r, (Instr.lookup t um uk ok).run E.P w = .ok r w ∧ VRel (Bd F φ st) w φ v r := by
  unfold lookupE at h
  split at h
  · rename_i kT eT hu
    have hmap : ∀ es, (match m with
        | .nilmap => some []
        | .map b => match get? st b with
          | some (.map es _) => some es
          | _ => none
        | _ => none) = some es →
        ∃ ces : Array MapEntry, ((um = .map none ∧ ces = #[]) ∨ (∃ cb clock, um = .map (some cb) ∧ w.heap[cb]? = some (.map ces clock))) ∧ EntRel (Bd F φ st) w φ es ces := by
      intro es he
      split at he
      · simp at he; subst he
        cases hm
        exact ⟨#[], .inl ⟨rfl, rfl⟩, rfl, fun j e c he => by simp at he⟩
      · rename_i b
        rw [get?_eq] at he
        split at he
        · rename_i es' clock hb
          simp at he; subst he
          cases hm with
          | map hp =>
            rename_i cb co
            obtain ⟨ces, h1, h2⟩ := hS.blk b _ cb co hb hp
            exact ⟨ces, .inr ⟨cb, clock, rfl, h1⟩, h2⟩
        · cases he
      · cases he
    simp only at h
    split at h
    · rename_i es z hes hz
      obtain ⟨ces, h1, h2⟩ := hmap es hes
      split at h
      · rename_i hcond
        simp only [Bool.and_eq_true] at hcond
        have hd : ∃ d, E.P.underlying kT = some d := by
          rcases keyScalar_key hcond.1 with ⟨_, _, hu⟩ | ⟨_, _, _, hu⟩ | ⟨_, _, hu⟩ <;> exact ⟨_, hu⟩
        obtain ⟨d, hd⟩ := hd
        have hf := findE_sound hd hcond.1 hk es ces.toList 0 (by simpa using h2.1) (fun j e c he hc => h2.2 j e c he (by simpa using hc)) hcond.2
        obtain ⟨uz, hz1, hz2⟩ := run_zero (w := w) hz
        cases hfe : findE k es 0 with
        | some p =>
          obtain ⟨n, v'⟩ := p
          rw [hfe] at hf h
          obtain ⟨uv, q1, q2⟩ := hf
          simp at h
          refine ⟨if ok then .tuple #[uv, .bool true] else uv, ?_, ?_⟩
          · rcases h1 with ⟨rfl, rfl⟩ | ⟨cb, clock, rfl, hb⟩
            · simp at q1
              simp [Instr.lookup, run_und hu, checkKey_run hcond.1 hk, Instr.findKey, run_und hd, q1]
            · simp [Instr.lookup, run_und hu, getObj_run hb, checkKey_run hcond.1 hk, Instr.findKey, run_und hd, q1]
          · subst h
            cases ok
            · simpa using q2
            · simp only [if_true]
              exact .tup rfl (fun j x y hx hy => by
                match j with
                | 0 => simp at hx hy; subst hx; subst hy; exact q2
                | 1 => simp at hx hy; subst hx; subst hy; exact .bool _
                | j + 2 => simp at hx)
        | none =>
          rw [hfe] at hf h
          simp at h
          refine ⟨if ok then .tuple #[uz, .bool false] else uz, ?_, ?_⟩
          · rcases h1 with ⟨rfl, rfl⟩ | ⟨cb, clock, rfl, hb⟩
            · simp at hf
              simp [Instr.lookup, run_und hu, checkKey_run hcond.1 hk, Instr.findKey, run_und hd, hf, hz1]
            · simp only [] at hf
              simp [Instr.lookup, run_und hu, getObj_run hb, checkKey_run hcond.1 hk, Instr.findKey, run_und hd, hf, hz1]
          · subst h
            have hzr : VRel (Bd F φ st) w φ z uz := ofV_rel hz2
            cases ok
            · simpa using hzr
            · simp only [if_true]
              exact .tup rfl (fun j x y hx hy => by
                match j with
                | 0 => simp at hx hy; subst hx; subst hy; exact hzr
                | 1 => simp at hx hy; subst hx; subst hy; exact .bool _
                | j + 2 => simp at hx)
      · cases h
    · cases h
  · cases h

/-! ### Interfaces -/
theorem tup2 {x y : AV} {u v : Value} (hx : VRel B w φ x u) (hy : VRel B w φ y v) : VRel B w φ (.tup [x, y]) (.tuple #[u, v]) :=
  .tup rfl (fun j a b ha hb => by
    match j with
    | 0 => simp at ha hb; subst ha; subst hb; exact hx
    | 1 => simp at ha hb; subst ha; subst hb; exact hy
    | j + 2 => simp at ha)

theorem typeAssertE_sound {P : Program} {x v : AV} {xT aT : TypeId} {ok : Bool} {a : Value} (h : typeAssertE P x xT aT ok = some v) (hx : VRel B w φ x a) :
    ∃ r, (Instr.typeAssert a xT aT ok).run P w = .ok r w ∧ VRel B w φ v r := by
  have fails : ∀ (z : AV), zeroT P aT = some z → v = .tup [z, .bool false] → ok = true → ∃ uz, (zeroValue aT).run P w = .ok uz w ∧ VRel B w φ v (.tuple #[uz, .bool false]) := by
    intro z hz hv _
    obtain ⟨uz, h1, h2⟩ := run_zero (w := w) hz
    exact ⟨uz, h1, by rw [hv]; exact tup2 (ofV_rel h2) (.bool _)⟩
  unfold typeAssertE at h
  split at h
  · rename_i ms hu
    split at h
    · rename_i hok
      simp at h
      obtain ⟨z, hz, rfl⟩ := h
      obtain ⟨uz, h1, h2⟩ := fails z hz rfl hok
      cases hx
      exact ⟨_, by simp [Instr.typeAssert, run_und hu, hok, h1], h2⟩
    · cases h
  · rename_i want t x' hu
    cases hx with
    | iface hx' =>
      rename_i u'
      split at h
      · rename_i i hi
        split at h
        · rename_i hm
          simp at h
          refine ⟨if ok then .tuple #[.iface t u', .bool true] else .iface t u', by simp [Instr.typeAssert, run_und hu, run_info hi, hm], ?_⟩
          subst h
          cases ok
          · simpa using VRel.iface hx'
          · simpa using tup2 (VRel.iface hx') (.bool _)
        · rename_i m hm
          split at h
          · rename_i hok
            simp at h
            obtain ⟨z, hz, rfl⟩ := h
            obtain ⟨uz, h1, h2⟩ := fails z hz rfl hok
            exact ⟨_, by simp [Instr.typeAssert, run_und hu, run_info hi, hm, hok, h1], h2⟩
          · cases h
      · cases h
  · rename_i d _ hni hu
    split at h
    · rename_i hok
      simp at h
      obtain ⟨z, hz, rfl⟩ := h
      obtain ⟨uz, h1, h2⟩ := fails z hz rfl hok
      cases hx
      refine ⟨.tuple #[uz, .bool false], ?_, h2⟩
      cases d <;> first | exact absurd hu (hni _) | simp [Instr.typeAssert, run_und hu, hok, h1]
    · cases h
  · rename_i d t x' _ hni hu
    cases hx with
    | iface hx' =>
      rename_i u'
      split at h
      · rename_i ht
        subst ht
        simp at h
        refine ⟨if ok then .tuple #[u', .bool true] else u', ?_, ?_⟩
        · cases d <;> first | exact absurd hu (hni _) | simp [Instr.typeAssert, run_und hu]
        · subst h
          cases ok
          · simpa using hx'
          · simpa using tup2 hx' (.bool _)
      · rename_i ht
        split at h
        · rename_i hok
          simp at h
          obtain ⟨z, hz, rfl⟩ := h
          obtain ⟨uz, h1, h2⟩ := fails z hz rfl hok
          refine ⟨.tuple #[uz, .bool false], ?_, h2⟩
          cases d <;> first | exact absurd hu (hni _) | simp [Instr.typeAssert, run_und hu, ht, hok, h1]
        · cases h
  · cases h

end
end Go.Proofs.YtbjhjladdkbnmaaGreatDoor.Gx
