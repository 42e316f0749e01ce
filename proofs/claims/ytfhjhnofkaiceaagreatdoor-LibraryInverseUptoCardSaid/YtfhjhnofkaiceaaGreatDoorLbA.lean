/-
  Sets of keys as maps; plain laws of libraries; entries, key, the closure of index.
-/
import Derived.Test.YtfhjhnofkaiceaaGreatDoorDvS
import Derived.DeepKeys4
import Derived.Maps.OwnSet
import Derived.Maps.OwnIn
import Derived.Laws.StructEq
import Derived.Deep.RegionHeld3
namespace Go.Proofs.YtfhjhnofkaiceaaGreatDoor
open Go Go.RowKit Go.Maps

instance : LawfulBEq ByteArray where
  eq_of_beq {a b} h := by
    rw [beq_toListBytes] at h
    exact name_inj (by simpa using h)
  rfl {a} := by rw [beq_toListBytes]; simp

/-- A key as a value. -/
abbrev encKy (k : Ky) : Value := .agg #[.string k.1, .int .i64 k.2]
/-- A key that the reader reads. -/
def KyOk (k : Ky) : Prop := k.1.size ≤ maxLen ∧ (Lit.int .i64 k.2).wf = true
/-- What a key reads as. -/
def litK (k : Ky) : Lit := .string (keyBytes [.string k.1.data.toList, .int .i64 k.2])

theorem key_type : Tryz.prog.keyType 24 = true := by kernel_rfl
theorem key_cells : Tryz.prog.cellsOf 24 = 2 := by kernel_rfl
theorem key_str_cells : Tryz.prog.cellsOf 9 = 1 := by kernel_rfl
theorem key_int_cells : Tryz.prog.cellsOf 3 = 1 := by kernel_rfl
theorem key_types : ∃ m, Tryz.prog.types.size + 1 = m + 2 := ⟨641, by rw [show Tryz.prog.types.size = 642 from by kernel_rfl]⟩

theorem keyLits_str (m : Nat) (a : Value) : Tryz.prog.keyLits (m + 1) 9 [a] = match a with | .string s => (if s.size ≤ maxLen then some [.string s.data.toList] else none) | _ => none := by
  unfold Program.keyLits
  rw [Tryz.underlying9]
  cases a <;> rfl
theorem keyLits_int (m : Nat) (a : Value) : Tryz.prog.keyLits (m + 1) 3 [a] = match a with | .int q n => (if q = .i64 ∧ (Lit.int .i64 n).wf = true then some [.int .i64 n] else none) | _ => none := by
  unfold Program.keyLits
  rw [Tryz.underlying3]
  cases a <;> rfl
theorem keyLits_key (m : Nat) (a b : Value) : Tryz.prog.keyLits (m + 2) 24 [a, b] = (Tryz.prog.keyLits (m + 1) 9 [a]).bind fun x => (Tryz.prog.keyLits (m + 1) 3 [b]).bind fun y => some (x ++ y) := by
  conv => lhs; unfold Program.keyLits
  rw [Tryz.underlying24]
  simp only [key_cells, List.length_cons, List.length_nil]
  rw [if_pos ⟨trivial, by kernel_rfl⟩]
  simp only [List.mapM_cons, List.mapM_nil, key_str_cells, key_int_cells, List.drop_zero, List.take_succ_cons, List.take_zero, List.drop_succ_cons]
  generalize Tryz.prog.keyLits (m + 1) 9 [a] = u
  generalize Tryz.prog.keyLits (m + 1) 3 [b] = v
  cases u <;> cases v <;> simp

theorem keyOf_mk {k : Ky} (h : KyOk k) : keyOf Tryz.prog 24 (encKy k) = some (litK k) := by
  obtain ⟨m, hm⟩ := key_types
  obtain ⟨n, v⟩ := k
  obtain ⟨h1, h2⟩ := h
  simp only at h1 h2
  unfold keyOf
  rw [Tryz.underlying24]
  simp only [key_type, Bool.true_and, Value.formed, Tryz.underlying24, key_cells, Value.cells, hm]
  rw [if_pos (by rfl)]
  show Option.map _ (Tryz.prog.keyLits (m + 2) 24 [.string n, .int .i64 v]) = _
  rw [keyLits_key, keyLits_str, keyLits_int]
  simp only [h1, h2, if_true, and_self, Option.bind_some, Option.map_some]
  rfl

set_option maxRecDepth 100000 in
theorem keyOf_inv {v : Value} {l : Lit} (h : keyOf Tryz.prog 24 v = some l) : ∃ k, KyOk k ∧ v = encKy k ∧ l = litK k := by
  obtain ⟨m, hm⟩ := key_types
  unfold keyOf at h
  rw [Tryz.underlying24] at h
  simp only [key_type, Bool.true_and] at h
  by_cases hf : v.formed Tryz.prog 24 = true
  · rw [if_pos hf, hm] at h
    cases v with
    | agg cs =>
      simp only [Value.formed, Tryz.underlying24, key_cells, beq_iff_eq] at hf
      obtain ⟨cs⟩ := cs
      match cs, hf with
      | [a, b], _ =>
        replace h : Option.map (fun ls => Lit.string (keyBytes ls)) (Tryz.prog.keyLits (m + 2) 24 [a, b]) = some l := h
        rw [keyLits_key, keyLits_str, keyLits_int] at h
        cases a with
        | string s =>
          simp only at h
          by_cases h1 : s.size ≤ maxLen
          · rw [if_pos h1] at h
            cases b with
            | int q i =>
              simp only at h
              by_cases h2 : q = .i64 ∧ (Lit.int .i64 i).wf = true
              · rw [if_pos h2] at h
                simp only [Option.bind_some, Option.map_some, Option.some.injEq] at h
                obtain ⟨rfl, h2⟩ := h2
                exact ⟨(s, i), ⟨h1, h2⟩, rfl, h.symm⟩
              · rw [if_neg h2] at h
                simp at h
            | _ => simp at h
          · rw [if_neg h1] at h
            simp at h
        | _ => simp at h
    | _ => simp [Value.formed, Tryz.underlying24] at hf
  · rw [if_neg hf] at h
    cases h

theorem keyedK : Keyed Tryz.prog 24 := Keyed.of_law (deep_law (m := 2) (by omega) (by kernel_rfl) (by kernel_rfl) (by kernel_rfl))

theorem litK_inj {a b : Ky} (ha : KyOk a) (hb : KyOk b) (h : litK a = litK b) : a = b := by
  have h1 := keyOf_mk ha
  have h2 := keyOf_mk hb
  rw [← h] at h2
  have := keyedK.inj h1 h2
  obtain ⟨n, v⟩ := a
  obtain ⟨n', v'⟩ := b
  simp at this
  exact Prod.ext this.1 this.2

/-- A datum reads as the set of the keys S. -/
structure IsSet (D : DataW Unit) (S : List Ky) : Prop where
  ok : ∀ k ∈ S, KyOk k
  at_ : ∀ k, KyOk k → D.atKey (litK k) (.lit (.bool false)) = .lit (.bool (decide (k ∈ S)))
  has : ∀ k, KyOk k → has D (litK k) = decide (k ∈ S)

/-- Block b is a map that is the set of the keys S. -/
def SetAt (w : World) (b n : Nat) (S : List Ky) : Prop := S.length ≤ n ∧ ∃ D : DataW Unit, w.ownsMap Tryz.prog 24 (plainElem Tryz.prog 4) b n D ∧ IsSet D S

theorem SetAt.made (w : World) : SetAt (w.alloc (.map #[] 0)) w.heap.size 0 [] :=
  ⟨Nat.le_refl _, _, World.ownsMap_made w Tryz.prog 24 _, ⟨by simp, fun k _ => by simp [DataW.atKey], fun k _ => by simp [Maps.has]⟩⟩
theorem SetAt.lt {w : World} {b n : Nat} {S : List Ky} (h : SetAt w b n S) : b < w.heap.size := by
  obtain ⟨_, D, h, _⟩ := h
  exact h.lt
theorem SetAt.kept {w w' : World} {b n : Nat} {S : List Ky} {row : Option Nat} (h : SetAt w b n S) (hg : w.grownBy w' row) (hne : some b ≠ row) : SetAt w' b n S := by
  obtain ⟨hl, D, h, hS⟩ := h
  exact ⟨hl, D, h.kept hg hne, hS⟩
theorem SetAt.below {w w' : World} {b n c : Nat} {S : List Ky} (h : SetAt w b n S) (hb : Below c w w') (hc : b < c) : SetAt w' b n S := by
  obtain ⟨hl, D, ⟨es, clock, h1, h2⟩, hS⟩ := h
  exact ⟨hl, D, ⟨es, clock, (hb.block b hc).trans h1, h2⟩, hS⟩
theorem SetAt.drew {w : World} {b n : Nat} {S : List Ky} (h : SetAt w b n S) : SetAt w.drew b n S := h
theorem SetAt.alloc {w : World} {b n : Nat} {S : List Ky} (h : SetAt w b n S) (o : Obj) : SetAt (w.alloc o) b n S := h.kept (World.grownBy_alloc w o none) (by simp)
theorem SetAt.mono {w : World} {b n m : Nat} {S : List Ky} (h : SetAt w b n S) (hn : n ≤ m) : SetAt w b m S := by
  obtain ⟨hl, D, h, hS⟩ := h
  exact ⟨Nat.le_trans hl hn, D, h.mono hn, hS⟩

theorem SetAt.put {w : World} {b n : Nat} {S : List Ky} (h : SetAt w b n S) (hn : n < maxLen) {k : Ky} (hk : KyOk k) :
    ∃ w', (Instr.mapUpdate 61 (.map (some b)) (encKy k) (.bool true)).run Tryz.prog w = .ok () w' ∧ SetAt w' b (n + 1) (k :: S) ∧ w.grownBy w' (some b) := by
  obtain ⟨hl, D, h, hS⟩ := h
  obtain ⟨w', h1, h2, h3⟩ := h.update keyedK Tryz.underlying61 hn (keyOf_mk hk) (plainElem_bool Tryz.underlying4 true)
  refine ⟨w', h1, ⟨by simp only [List.length_cons]; omega, _, h2, ⟨fun x hx => ?_, fun x hx => ?_, fun x hx => ?_⟩⟩, h3⟩
  · rcases List.mem_cons.1 hx with rfl | hx
    · exact hk
    · exact hS.ok x hx
  · by_cases e : x = k
    · subst e
      rw [atKey_put_same h.isMap (keyedK.key (keyOf_mk hk))]
      simp
    · rw [atKey_put_other (fun e' => e (litK_inj hx hk e')), hS.at_ x hx]
      simp [e]
  · by_cases e : x = k
    · subst e
      rw [has_put_same h.isMap (keyedK.key (keyOf_mk hk))]
      simp
    · rw [has_put_other (fun e' => e (litK_inj hx hk e')), hS.has x hx]
      simp [e]

theorem SetAt.look {w : World} {b n : Nat} {S : List Ky} (h : SetAt w b n S) {k : Ky} (hk : KyOk k) :
    (Instr.lookup 61 (.map (some b)) (encKy k) false).run Tryz.prog w = .ok (.bool (decide (k ∈ S))) w := by
  obtain ⟨_, D, h, hS⟩ := h
  obtain ⟨v, ps, h1, h2⟩ := h.lookup keyedK Tryz.underlying61 (Tryz.zeroValue4 w) (plainElem_bool Tryz.underlying4 false) (keyOf_mk hk)
  rw [h1]
  rw [hS.at_ k hk] at h2
  cases v <;> simp [plainElem, Tryz.underlying4] at h2
  rw [h2.1]

/-- 'm[k] = true' at the operation. -/
theorem wpList_put {w : World} {ops : Array Oper} {rest : List Oper} {o : Oper} {a : Act} {Q : Exit → Act → World → Prop}
    (hg : o.guard = none) (m x v : Operand) (hop : o.op = Op.mapUpdate 61 m x v) (b n : Nat) (S : List Ky) (hm : a.eval m = .map (some b)) (h : SetAt w b n S) (hn : n < maxLen) (k : Ky) (hk : KyOk k)
    (hx : a.eval x = encKy k) (hv : a.eval v = .bool true)
    (hK : ∀ w', SetAt w' b (n + 1) (k :: S) → w.grownBy w' (some b) → wpList Tryz.prog ops Q rest (a.put o.dst undef) w') :
    wpList Tryz.prog ops Q (o :: rest) a w := by
  refine wpList_plain hg fun K' hK' => ?_
  obtain ⟨w', hrun, r1, r2⟩ := h.put hn hk
  unfold Oper.wp
  simp [execOp, hop, hm, hx, hv, hrun, Result.andThen]
  exact hK' _ _ (hK w' r1 r2)

theorem nodup_len : ∀ (ss S : List Ky), ss.Nodup → (∀ x ∈ ss, x ∈ S) → ss.length ≤ S.length
  | [], _, _, _ => Nat.zero_le _
  | a :: ss, S, h, hs => by
    obtain ⟨h1, h2⟩ := List.nodup_cons.1 h
    have ha := hs a (by simp)
    have hi := nodup_len ss (S.erase a) h2 fun x hx => (List.mem_erase_of_ne (fun e => h1 (by rw [← e]; exact hx))).2 (hs x (List.mem_cons_of_mem _ hx))
    rw [List.length_erase_of_mem ha] at hi
    have := List.length_pos_of_mem ha
    simp only [List.length_cons]
    omega

/-- The keys met so far: no key twice; a key is met just where the map has it and it is no longer to come. -/
def CollK (D : DataW Unit) (left : Lit → Bool) (ss : List Ky) : Prop := ss.Nodup ∧ (∀ x ∈ ss, KyOk x) ∧ ∀ x, KyOk x → (x ∈ ss ↔ (has D (litK x) = true ∧ left (litK x) = false))

theorem CollK.start (D : DataW Unit) : CollK D (has D) [] := ⟨List.nodup_nil, by simp, fun x _ => by cases has D (litK x) <;> simp⟩
theorem sameKey_litK {a b : Ky} (ha : KyOk a) (hb : KyOk b) : (litK a).sameKey (litK b) = decide (a = b) := by
  by_cases e : a = b
  · subst e
    rw [WideAt.sameKey_self (keyedK.key (keyOf_mk ha))]
    simp
  · rw [Maps.sameKey_ne (fun e' => e (litK_inj ha hb e'))]
    simp [e]
theorem CollK.step {D : DataW Unit} {left : Lit → Bool} {ss : List Ky} (h : CollK D left ss) {x : Ky} (hx : KyOk x) {y : DataW Unit} (hlk : left (litK x) = true) (hat : ∀ zd, D.atKey (litK x) zd = y) :
    CollK D (fun z => left z && !z.sameKey (litK x)) (ss ++ [x]) := by
  have hhas : has D (litK x) = true := has_true_of_atKey hat
  have hnew : x ∉ ss := fun h' => by have := ((h.2.2 x hx).1 h').2; rw [hlk] at this; cases this
  refine ⟨List.nodup_append.2 ⟨h.1, by simp, fun a ha b hb => by simp at hb; subst hb; exact fun e => hnew (e ▸ ha)⟩, fun y hy => ?_, fun y hy => ?_⟩
  · rcases List.mem_append.1 hy with hy | hy
    · exact h.2.1 y hy
    · simp at hy
      exact hy ▸ hx
  · simp only [sameKey_litK hy hx]
    by_cases e : y = x
    · subst e; simp [hhas]
    · simp [h.2.2 y hy, e]
theorem CollK.all {D : DataW Unit} {left : Lit → Bool} {ss S : List Ky} (h : CollK D left ss) (hS : IsSet D S) (hl : ∀ kl, left kl = false) : ss.Nodup ∧ ∀ x, x ∈ ss ↔ x ∈ S := by
  refine ⟨h.1, fun x => ⟨fun hx => ?_, fun hx => ?_⟩⟩
  · have := ((h.2.2 x (h.2.1 x hx)).1 hx).1
    rw [hS.has x (h.2.1 x hx)] at this
    exact of_decide_eq_true this
  · exact (h.2.2 x (hS.ok x hx)).2 ⟨by rw [hS.has x (hS.ok x hx)]; exact decide_eq_true hx, hl _⟩
end Go.Proofs.YtfhjhnofkaiceaaGreatDoor

namespace Go.Proofs.YtfhjhnofkaiceaaGreatDoor
open Go Go.RowKit

theorem foldK_asc : ∀ (ks L : List Ky), Asc L → Asc (foldK L ks)
  | [], _, h => h
  | k :: ks, L, h => foldK_asc ks (insK k L) (asc_insK k L h)
theorem mem_foldK (x : Ky) : ∀ (ks L : List Ky), x ∈ foldK L ks ↔ x ∈ ks ∨ x ∈ L
  | [], L => by simp [foldK]
  | k :: ks, L => by
    have h := mem_foldK x ks (insK k L)
    show x ∈ foldK (insK k L) ks ↔ _
    rw [h, mem_insK, List.mem_cons]
    constructor
    · rintro (h | h | h)
      · exact .inl (.inr h)
      · exact .inl (.inl h)
      · exact .inr h
    · rintro ((h | h) | h)
      · exact .inr (.inl h)
      · exact .inl h
      · exact .inr (.inr h)
/-- An ascending list is what inserting one by one gives, if it has the same members. -/
theorem asc_fold {l ks : List Ky} (h : Asc l) (hm : ∀ x, x ∈ l ↔ x ∈ ks) : l = foldK [] ks :=
  asc_unique l _ h (foldK_asc ks [] List.Pairwise.nil) fun x => by rw [hm x, mem_foldK]; simp
/-- A library, as its entries' keys and the keys that they use. -/
abbrev Lb := List (Ky × List Ky)
/-- The place of the first entry with a key. -/
def ixK (L : List Ky) (k : Ky) : Option Nat := L.findIdx? fun a => decide (a = k)
theorem ixK_some {L : List Ky} {k : Ky} {i : Nat} (h : L[i]? = some k) (hb : ∀ (j : Nat) (a : Ky), j < i → L[j]? = some a → ¬ a = k) : ixK L k = some i := by
  unfold ixK
  rw [List.findIdx?_eq_some_iff_getElem]
  obtain ⟨hi, he⟩ := List.getElem?_eq_some_iff.1 h
  refine ⟨hi, by simp [he], fun j hj => ?_⟩
  have := hb j (L[j]'(by omega)) hj (List.getElem?_eq_getElem _)
  simpa using this
theorem ixK_none {L : List Ky} {k : Ky} (hb : ∀ (j : Nat) (a : Ky), L[j]? = some a → ¬ a = k) : ixK L k = none := by
  unfold ixK
  rw [List.findIdx?_eq_none_iff]
  intro x hx
  obtain ⟨j, hj⟩ := List.getElem?_of_mem hx
  simpa using hb j x hj
theorem ixK_get {L : List Ky} {k : Ky} {i : Nat} (h : ixK L k = some i) : L[i]? = some k := by
  unfold ixK at h
  obtain ⟨hi, he, _⟩ := List.findIdx?_eq_some_iff_getElem.1 h
  rw [List.getElem?_eq_getElem hi]
  simpa using he
theorem ixK_isSome {L : List Ky} {k : Ky} : (ixK L k).isSome = decide (k ∈ L) := by
  cases h : ixK L k with
  | none =>
    unfold ixK at h
    rw [List.findIdx?_eq_none_iff] at h
    have : ¬ k ∈ L := fun hk => by simpa using h k hk
    simp [this]
  | some i =>
    have := List.mem_of_getElem? (ixK_get h)
    simp [this]
/-- What index returns. -/
def ixI (L : List Ky) (k : Ky) : Int := match ixK L k with | some i => i | none => -1

/-- The greatest version of a name. -/
def latK (L : List Ky) (n : ByteArray) : Int := L.foldl (fun m k => if k.1.toList = n.toList then (if m < k.2 then k.2 else m) else m) 0
theorem latK_snoc (L : List Ky) (k : Ky) (n : ByteArray) : latK (L ++ [k]) n = if k.1.toList = n.toList then (if latK L n < k.2 then k.2 else latK L n) else latK L n := by
  unfold latK
  rw [List.foldl_append]
  rfl

/-- The keys that an entry uses, by its key. -/
def Lb.of (L : Lb) (k : Ky) : List Ky := match ixK (L.map (·.1)) k with | some i => (L[i]?.map (·.2)).getD [] | none => []
/-- What can be reached from s. -/
inductive Rch (L : Lb) (s : List Ky) : Ky → Prop
  | base {k : Ky} : k ∈ s → Rch L s k
  | step {y k : Ky} : Rch L s y → k ∈ L.of y → Rch L s k
theorem Rch.mono {L : Lb} {s t : List Ky} (h : ∀ k ∈ s, Rch L t k) {k : Ky} (hk : Rch L s k) : Rch L t k := by
  induction hk with
  | base hb => exact h _ hb
  | step _ hm ih => exact .step ih hm
theorem Rch.within {L : Lb} {s S : List Ky} (h1 : ∀ k ∈ s, k ∈ S) (h2 : ∀ k ∈ S, ∀ x ∈ L.of k, x ∈ S) {k : Ky} (hk : Rch L s k) : k ∈ S := by
  induction hk with
  | base hb => exact h1 _ hb
  | step _ hm ih => exact h2 _ ih _ hm

/-- What a walk from the keys us does to a set. -/
structure Reached (L : Lb) (us S S' : List Ky) : Prop where
  old : ∀ k ∈ S, k ∈ S'
  new : ∀ k ∈ S', k ∈ S ∨ Rch L us k
  all : ∀ k ∈ us, k ∈ S'
  closed : ∀ k ∈ S', k ∉ S → ∀ x ∈ L.of k, x ∈ S'

theorem Reached.nil (L : Lb) (S : List Ky) : Reached L [] S S := ⟨fun _ h => h, fun _ h => .inl h, by simp, fun k h h' => absurd h h'⟩
theorem Reached.skip {L : Lb} {us S S' : List Ky} {k : Ky} (h : Reached L us S S') (hk : k ∈ S') : Reached L (us ++ [k]) S S' := by
  refine ⟨h.old, fun x hx => (h.new x hx).imp id (Rch.mono fun y hy => .base (by simp [hy])), fun x hx => ?_, h.closed⟩
  rcases List.mem_append.1 hx with hx | hx
  · exact h.all x hx
  · simp at hx; exact hx ▸ hk
theorem Reached.leaf {L : Lb} {us S S' : List Ky} {k : Ky} (h : Reached L us S S') (h0 : L.of k = []) : Reached L (us ++ [k]) S (k :: S') := by
  refine ⟨fun x hx => List.mem_cons_of_mem _ (h.old x hx), fun x hx => ?_, fun x hx => ?_, fun x hx hS y hy => ?_⟩
  · rcases List.mem_cons.1 hx with rfl | hx
    · exact .inr (.base (by simp))
    · exact (h.new x hx).imp id (Rch.mono fun y hy => .base (by simp [hy]))
  · rcases List.mem_append.1 hx with hx | hx
    · exact List.mem_cons_of_mem _ (h.all x hx)
    · simp at hx; simp [hx]
  · rcases List.mem_cons.1 hx with rfl | hx
    · rw [h0] at hy; cases hy
    · exact List.mem_cons_of_mem _ (h.closed x hx hS y hy)
theorem Reached.deep {L : Lb} {us S S' S'' : List Ky} {k : Ky} (h : Reached L us S S') (h' : Reached L (L.of k) (k :: S') S'') : Reached L (us ++ [k]) S S'' := by
  have hk : k ∈ S'' := h'.old k (by simp)
  have o : ∀ x ∈ S', x ∈ S'' := fun x hx => h'.old x (List.mem_cons_of_mem _ hx)
  refine ⟨fun x hx => o x (h.old x hx), fun x hx => ?_, fun x hx => ?_, fun x hx hS y hy => ?_⟩
  · rcases h'.new x hx with h1 | h1
    · rcases List.mem_cons.1 h1 with rfl | h1
      · exact .inr (.base (by simp))
      · exact (h.new x h1).imp id (Rch.mono fun y hy => .base (by simp [hy]))
    · exact .inr (Rch.mono (fun y hy => .step (y := k) (.base (by simp)) hy) h1)
  · rcases List.mem_append.1 hx with hx | hx
    · exact o x (h.all x hx)
    · simp at hx; exact hx ▸ hk
  · by_cases e : x = k
    · subst e; exact h'.all y hy
    · by_cases hx' : x ∈ S'
      · exact o y (h.closed x hx' hS y hy)
      · exact h'.closed x hx (by simp [e, hx']) y hy
/-- From the empty set: just what can be reached. -/
theorem Reached.iff {L : Lb} {us S' : List Ky} (h : Reached L us [] S') (k : Ky) : k ∈ S' ↔ Rch L us k :=
  ⟨fun hk => (h.new k hk).resolve_left (by simp), fun hk => hk.within h.all fun x hx y hy => h.closed x hx (by simp) y hy⟩

/-- How many of U's members a set lacks. -/
def lack (U S : List Ky) : Nat := (U.filter fun k => decide (k ∉ S)).length
theorem lack_mono (U : List Ky) {S S' : List Ky} (h : ∀ k ∈ S, k ∈ S') : lack U S' ≤ lack U S := by
  unfold lack
  induction U with
  | nil => simp
  | cons a U ih =>
    simp only [List.filter_cons]
    by_cases h1 : a ∈ S'
    · by_cases h2 : a ∈ S
      · simp only [h1, h2, not_true_eq_false, decide_false, Bool.false_eq_true, if_false]
        exact ih
      · simp only [h1, h2, not_true_eq_false, not_false_eq_true, decide_false, decide_true, Bool.false_eq_true, if_false, if_true, List.length_cons]
        omega
    · have h2 : a ∉ S := fun h2 => h1 (h a h2)
      simp only [h1, h2, not_false_eq_true, decide_true, if_true, List.length_cons]
      omega
theorem lack_cons {U S : List Ky} {k : Ky} (hU : k ∈ U) (hS : k ∉ S) : lack U (k :: S) + 1 ≤ lack U S := by
  unfold lack
  induction U with
  | nil => cases hU
  | cons a U ih =>
    simp only [List.filter_cons]
    by_cases e : a = k
    · subst e
      have := lack_mono U (S := S) (S' := a :: S) (fun x hx => List.mem_cons_of_mem _ hx)
      unfold lack at this
      have h3 : a ∈ a :: S := by simp
      simp only [h3, hS, not_true_eq_false, not_false_eq_true, decide_false, decide_true, Bool.false_eq_true, if_false, if_true, List.length_cons]
      omega
    · have hU' : k ∈ U := by
        rcases List.mem_cons.1 hU with h | h
        · exact absurd h.symm e
        · exact h
      have := ih hU'
      by_cases h2 : a ∈ S
      · have h3 : a ∈ k :: S := List.mem_cons_of_mem _ h2
        simp only [h3, h2, not_true_eq_false, decide_false, Bool.false_eq_true, if_false]
        exact this
      · have h3 : a ∉ k :: S := by simp [e, h2]
        simp only [h3, h2, not_false_eq_true, decide_true, if_true, List.length_cons]
        omega
end Go.Proofs.YtfhjhnofkaiceaaGreatDoor

namespace Go.Proofs.YtfhjhnofkaiceaaGreatDoor
open Go Go.RowKit

theorem en_row : ∃ d, Tryz.prog.underlying 55 = some d ∧ d.isRow = true := by
  have h : (Tryz.prog.underlying 55).map TypeDesc.isRow = some true := by kernel_rfl
  cases hd : Tryz.prog.underlying 55 with
  | none => rw [hd] at h; cases h
  | some d => rw [hd] at h; exact ⟨d, rfl, by simpa using h⟩
theorem en_size : (Tryz.prog.info? 55).map (·.size) = some 33 := by kernel_rfl
theorem ky_row : ∃ d, Tryz.prog.underlying 24 = some d ∧ d.isRow = true := by
  have h : (Tryz.prog.underlying 24).map TypeDesc.isRow = some true := by kernel_rfl
  cases hd : Tryz.prog.underlying 24 with
  | none => rw [hd] at h; cases h
  | some d => rw [hd] at h; exact ⟨d, rfl, by simpa using h⟩
theorem ky_size : (Tryz.prog.info? 24).map (·.size) = some 2 := by kernel_rfl

/-- An entry: its key and the rest of its cells. -/
structure En where
  k : Ky
  r : List Value
def En.cells (e : En) : List Value := .string e.k.1 :: .int .i64 e.k.2 :: e.r
structure En.Ok (e : En) : Prop where
  len : e.r.length = 31
  one : ∀ u ∈ e.r, u.oneCell' = true
  key : KyOk e.k
theorem En.Ok.len' {e : En} (h : e.Ok) : e.cells.length = 33 := by simp [En.cells, h.len]
theorem En.Ok.one' {e : En} (h : e.Ok) : e.cells.toArray.all (·.oneCell') = true := by
  rw [List.all_toArray, List.all_eq_true]
  intro u hu
  rcases List.mem_cons.1 hu with rfl | hu
  · rfl
  · rcases List.mem_cons.1 hu with rfl | hu
    · rfl
    · exact h.one u hu
theorem En.c0 (e : En) : e.cells[0]? = some (.string e.k.1) := rfl
theorem En.c1 (e : En) : e.cells[1]? = some (.int .i64 e.k.2) := rfl

/-- A library in memory. -/
def LibOk (w : World) (q : Option Addr) (n : Nat) (L : List En) : Prop :=
  L.length = n ∧ n ≤ 1048576 ∧ (∀ e ∈ L, e.Ok) ∧ (n = 0 ∨ ∃ b o, q = some ⟨b, o, none⟩ ∧ b < w.heap.size ∧ ∀ i e, L[i]? = some e → w.rangeAt b (o + i * 33) e.cells)
theorem LibOk.below {w w' : World} (hb : Below w.heap.size w w') {q : Option Addr} {n : Nat} {L : List En} (h : LibOk w q n L) : LibOk w' q n L := by
  refine ⟨h.1, h.2.1, h.2.2.1, h.2.2.2.imp id ?_⟩
  rintro ⟨b, o, e, hlt, hc⟩
  exact ⟨b, o, e, Nat.lt_of_lt_of_le hlt hb.size, fun i k hk => rangeAt_below (hc i k hk) hb hlt⟩

theorem ky_struct : Tryz.prog.underlying 24 = some (.struct (Tryz.prog.fieldsOf 24)) := by kernel_rfl
theorem ky_held : Tryz.prog.stoodInHeld 24 = false := by kernel_rfl
/-- The ways in which two keys differ. -/
theorem ky_ne {a b : Ky} (h : ¬ a = b) : (a.1.toList == b.1.toList) = false ∨ ((a.1.toList == b.1.toList) = true ∧ ¬ a.2 = b.2) := by
  by_cases h1 : a.1.toList = b.1.toList
  · exact .inr ⟨by simpa using h1, fun h2 => h (Prod.ext (name_inj h1) h2)⟩
  · exact .inl (by simpa using h1)
theorem ky_eq (a b : Ky) : decide (a = b) = (a.1.toList == b.1.toList && a.2 == b.2) := by
  obtain ⟨n, v⟩ := a
  obtain ⟨n', v'⟩ := b
  by_cases h1 : n.toList = n'.toList
  · by_cases h2 : v = v'
    · simp [name_inj h1, h2]
    · simp [h2]
  · have : ¬ n = n' := fun e => h1 (by rw [e])
    simp [h1, this]
/-- '==' of keys. -/
theorem run_eqK (a b : Ky) (w : World) : (binOp .eql 24 (.agg #[.string a.1, .int .i64 a.2]) (.agg #[.string b.1, .int .i64 b.2])).run Tryz.prog w = .ok (.bool (decide (a = b))) w := by
  have u3 := Tryz.underlying3
  have a3 := Tryz.isAgg3
  have z3 := Tryz.sizeOf3
  have u9 := Tryz.underlying9
  have a9 := Tryz.isAgg9
  have z9 := Tryz.sizeOf9
  rw [run_eql_struct, show (10000 : Nat) = 9999 + 1 from rfl, run_equalIn_agg w 9999 24 _ _ ky_struct ky_held, ky_eq]
  simp only [Program.fieldsOf, Tryz.underlying24]
  go_simp
  by_cases h1 : a.1.toList = b.1.toList <;> by_cases h2 : a.2 = b.2 <;> simp [h1, h2]

set_option maxRecDepth 100000 in
/-- The key of an entry. -/
theorem key28_ok (e : En) (he : e.Ok) (w : World) : Calls Tryz.prog 28 #[.agg e.cells.toArray] w fun x w' => x = .returned (.agg #[.string e.k.1, .int .i64 e.k.2]) ∧ Below w.heap.size w w' := by
  have h0 := e.c0
  have h1 := e.c1
  have hl := he.len'
  obtain ⟨⟨n, v⟩, r⟩ := e
  simp only at h0 h1 ⊢
  generalize En.cells _ = cs at *
  have hr := range_new w cs 55
  have c0 : ∀ ob, ((w.alloc (.cells cs.toArray 55)).alloc ob).cell? ⟨w.heap.size, 0, none⟩ = some (.string n) := fun ob => by
    have := World.rangeAt_alloc hr ob 0 _ h0
    simpa using this
  have c1 : ∀ ob, ((w.alloc (.cells cs.toArray 55)).alloc ob).cell? ⟨w.heap.size, 1, none⟩ = some (.int .i64 v) := fun ob => by
    have := World.rangeAt_alloc hr ob 1 _ h1
    simpa using this
  have hb : ∀ ob, Below w.heap.size w ((w.alloc (.cells cs.toArray 55)).alloc ob) := fun ob => below_two w _ _
  clear hr
  go_enter Tryz.func28, Tryz.ntmps28
  go_wp2_with fail
  exact bodyPost_ret (v := .agg #[.string n, .int .i64 v]) (by simp [results, Tryz.results28, go_sem]) rfl ⟨rfl, hb _⟩

set_option maxRecDepth 100000 in
/-- The key of an entry. -/
theorem key27_ok (e : En) (he : e.Ok) (w : World) : Calls Tryz.prog 27 #[.agg e.cells.toArray] w fun x w' => x = .returned (.agg #[.string e.k.1, .int .i64 e.k.2]) ∧ Below w.heap.size w w' := by
  have h0 := e.c0
  have h1 := e.c1
  have hl := he.len'
  obtain ⟨⟨n, v⟩, r⟩ := e
  simp only at h0 h1 ⊢
  generalize En.cells _ = cs at *
  have hr := range_new w cs 55
  have c0 : ∀ ob, ((w.alloc (.cells cs.toArray 55)).alloc ob).cell? ⟨w.heap.size, 0, none⟩ = some (.string n) := fun ob => by
    have := World.rangeAt_alloc hr ob 0 _ h0
    simpa using this
  have c1 : ∀ ob, ((w.alloc (.cells cs.toArray 55)).alloc ob).cell? ⟨w.heap.size, 1, none⟩ = some (.int .i64 v) := fun ob => by
    have := World.rangeAt_alloc hr ob 1 _ h1
    simpa using this
  have hb : ∀ ob, Below w.heap.size w ((w.alloc (.cells cs.toArray 55)).alloc ob) := fun ob => below_two w _ _
  clear hr
  go_enter Tryz.func27, Tryz.ntmps27
  go_wp2_with fail
  exact bodyPost_ret (v := .agg #[.string n, .int .i64 v]) (by simp [results, Tryz.results27, go_sem]) rfl ⟨rfl, hb _⟩

set_option maxRecDepth 100000 in
/-- The closure of index. -/
theorem idx1_ok {w : World} (e : En) (he : e.Ok) (k : Ky) (B : Nat) (hB : B < w.heap.size) (hk : w.rangeAt B 0 (kcells k)) :
    Calls Tryz.prog 42 #[.agg e.cells.toArray, .pointer (some ⟨B, 0, none⟩)] w fun x w' => x = .returned (.bool (decide (e.k = k))) ∧ Below w.heap.size w w' := by
  have hcall := fun z => key28_ok e he z
  have hl := he.len'
  obtain ⟨dd, hu, hd⟩ := en_row
  have hHu : Hid (Tryz.prog.underlying 55 = some dd) := hu
  obtain ⟨dk, hku, hkd⟩ := ky_row
  have hHk : Hid (Tryz.prog.underlying 24 = some dk) := hku
  have hq : (e.k.1.toList == k.1.toList && e.k.2 == k.2) = decide (e.k = k) := (ky_eq _ _).symm
  clear hu hku he
  generalize decide (e.k = k) = eq at *
  generalize e.k = ek at *
  generalize e.cells = cs at *
  have hb0 : Below w.heap.size w (w.alloc (.cells cs.toArray 55)) := below_one _ _
  have hz0 : (w.alloc (.cells cs.toArray 55)).heap.size = w.heap.size + 1 := by simp
  have D0 : Hid ((w.alloc (.cells cs.toArray 55)).rangeAt w.heap.size 0 cs) := range_new w cs 55
  have B0 : Hid ((w.alloc (.cells cs.toArray 55)).rangeAt B 0 (kcells k)) := World.rangeAt_alloc hk _
  clear hk
  go_enter Tryz.func42, Tryz.ntmps42
  go_wp2_with fail
  try simp only [Act.put]
  refine wp_region_held_drew (S := fun z => z.rangeAt w.heap.size 0 cs ∧ z.rangeAt B 0 (kcells k)) (by kernel_rfl) (by exact ⟨D0.out, B0.out⟩) (fun hHeld => ?_)
  refine wpAnyH_take (i := 0) (oi := ?op0x1) (v := .agg cs.toArray) ?ta0x1 ?tb0x1 ?tc0x1 ?td0x1 ?tq0x1 ?ty0x1 hHeld ?_
  case ta0x1 => rfl
  case tb0x1 => kernel_rfl
  case tc0x1 => kernel_rfl
  case td0x1 => kernel_rfl
  case tq0x1 => exact fun _ _ _ h => h
  case ty0x1 =>
    refine yieldsIf_load_mid ?tw0x1 55 (.tmp 2) ?to0x1 w.heap.size 0 ?tx0x1 cs dd (fun z hz => hz.1) hHu.out hd (by rw [hl]; exact en_size)
    case tw0x1 => kernel_rfl
    case to0x1 => rfl
    case tx0x1 => kernel_rfl
  simp only [Act.put, List.getElem_toArray, List.getElem_cons_zero, List.setIfInBounds_toArray, List.set_cons_zero, List.set_cons_succ]
  refine wpAnyH_take (i := 2) (oi := ?op2x2) (v := .agg (kcells k).toArray) ?ta2x2 ?tb2x2 ?tc2x2 ?td2x2 ?tq2x2 ?ty2x2 hHeld ?_
  case ta2x2 => rfl
  case tb2x2 => kernel_rfl
  case tc2x2 => kernel_rfl
  case td2x2 => kernel_rfl
  case tq2x2 => exact fun _ _ _ h => h
  case ty2x2 =>
    refine yieldsIf_load_mid ?tw2x2 24 (.tmp 1) ?to2x2 B 0 ?tx2x2 (kcells k) dk (fun z hz => hz.2) hHk.out hkd ky_size
    case tw2x2 => kernel_rfl
    case to2x2 => rfl
    case tx2x2 => kernel_rfl
  simp only [Act.put, List.getElem_toArray, List.getElem_cons_succ, List.getElem_cons_zero, List.setIfInBounds_toArray, List.set_cons_zero, List.set_cons_succ]
  refine wpAnyH_ready (rs := [1]) (by kernel_rfl) (by simp) ?_
  refine AllReadyH.cons rfl (fun K' hKK => ?_) AllReadyH.nil
  go_simp
  refine (hcall _).mono ?_
  rintro x w2 ⟨rfl, hb2⟩
  have hs2 := hb2.size
  have W2 : Below w.heap.size w w2 := hb0.drew.trans (hb2.mono (by show w.heap.size ≤ (w.alloc (.cells cs.toArray 55)).heap.size; omega))
  have D2 : w2.rangeAt w.heap.size 0 cs := rangeAt_below (w := (w.alloc (.cells cs.toArray 55)).drew) D0.out hb2 (by show w.heap.size < (w.alloc (.cells cs.toArray 55)).heap.size; omega)
  have B2 : w2.rangeAt B 0 (kcells k) := rangeAt_below (w := (w.alloc (.cells cs.toArray 55)).drew) B0.out hb2 (by show B < (w.alloc (.cells cs.toArray 55)).heap.size; omega)
  refine hKK.out _ _ ⟨D2, B2⟩ (fun hHeld2 => ?_)
  clear hKK K'
  refine wpAnyH_take (i := 3) (oi := ?op3x3) (v := .bool eq) ?ta3x3 ?tb3x3 ?tc3x3 ?td3x3 ?tq3x3 ?ty3x3 hHeld2 ?_
  case ta3x3 => rfl
  case tb3x3 => kernel_rfl
  case tc3x3 => kernel_rfl
  case td3x3 => kernel_rfl
  case tq3x3 => exact fun _ _ _ h => h
  case ty3x3 =>
    refine Or.inl ⟨by rfl, ?_⟩
    intro z hSz
    have u3 := Tryz.underlying3
    have u9 := Tryz.underlying9
    simp only [kcells]
    go_simp
    rw [← hq]
    by_cases h1 : ek.1.toList = k.1.toList <;> by_cases h2 : ek.2 = k.2 <;> simp [h1, h2]
  simp only [Act.put, List.getElem_toArray, List.getElem_cons_succ, List.getElem_cons_zero, List.setIfInBounds_toArray, List.set_cons_zero, List.set_cons_succ]
  refine wpAnyH_take (i := 4) (oi := ?op4x4) (v := .bool eq) ?ta4x4 ?tb4x4 ?tc4x4 ?td4x4 ?tq4x4 ?ty4x4 hHeld2 ?_
  case ta4x4 => rfl
  case tb4x4 => kernel_rfl
  case tc4x4 => kernel_rfl
  case td4x4 => kernel_rfl
  case tq4x4 => exact fun _ _ _ h => h
  case ty4x4 => exact Or.inl ⟨by rfl, by intro z hSz; go_simp⟩
  simp only [Act.put, List.getElem_toArray, List.getElem_cons_succ, List.getElem_cons_zero, List.setIfInBounds_toArray, List.set_cons_zero, List.set_cons_succ]
  refine wpAnyH_done (by kernel_rfl) ?_ _
  go_wp2_with fail
  go_ret
  exact ⟨rfl, W2⟩
end Go.Proofs.YtfhjhnofkaiceaaGreatDoor
