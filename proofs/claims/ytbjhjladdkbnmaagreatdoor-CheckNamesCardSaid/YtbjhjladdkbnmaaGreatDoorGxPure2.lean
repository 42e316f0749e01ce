/-
  Soundness of the operations that leave the memory as it is (2).
-/
import Derived.Test.YtbjhjladdkbnmaaGreatDoorGxPure
namespace Go.Proofs.YtbjhjladdkbnmaaGreatDoor.Gx
open Go

section
variable {E : Env} {F : Nat → Prop} {φ : Phi} {st : St} {w : World} {B : Nat → Prop}

theorem partE_sound {t : TypeId} {cs : List AV} {off : Nat} {v : AV} {us : Array Value} (h : partE E.P t cs off = some v) (hl : LRel B w φ cs us.toList) :
    ∃ r, (part t us off).run E.P w = .ok r w ∧ VRel B w φ v r := by
  unfold partE at h
  split at h
  · rename_i ha
    split at h
    · rename_i n hn
      simp at h
      obtain ⟨r, hr, rfl⟩ := h
      obtain ⟨e1, e2⟩ := takeN_some _ _ _ hr
      rw [dropN_eq] at e1
      refine ⟨.agg (us.extract off (off + n)), by simp [part, run_agg ha, run_size hn], ?_⟩
      have := VRel.of_list ((hl.drop off).take n)
      rw [← e1] at this
      have e3 : ((us.toList.drop off).take n).toArray = us.extract off (off + n) := by
        apply Array.ext'
        simp [Array.toList_extract, List.extract_eq_take_drop]
      rwa [e3] at this
    · cases h
  · rename_i ha
    rw [get?_eq] at h
    have hlen := hl.1
    have hlt := lt_of_get h
    have hlt' : off < us.size := by simp at hlen; omega
    have e1 : us.toList[off]? = some us[off] := by simp [hlt']
    have h2 : us[off]? = some us[off] := by simp [hlt']
    exact ⟨us[off], by simp [part, run_agg ha, h2], hl.2 off v _ h e1⟩
  · cases h

theorem agg_list {cs : List AV} {u : Value} (h : VRel B w φ (.agg cs) u) : ∃ us : Array Value, u = .agg us ∧ LRel B w φ cs us.toList := by
  cases h with
  | agg hl hv => exact ⟨_, rfl, by simpa using hl, fun j x v hx hv' => hv j x v hx (by simpa using hv')⟩

theorem tup_list {cs : List AV} {u : Value} (h : VRel B w φ (.tup cs) u) : ∃ us : Array Value, u = .tuple us ∧ LRel B w φ cs us.toList := by
  cases h with
  | tup hl hv => exact ⟨_, rfl, by simpa using hl, fun j x v hx hv' => hv j x v hx (by simpa using hv')⟩

theorem fieldE_sound {t : TypeId} {f : Nat} {a v : AV} {u : Value} (h : fieldE E.P t a f = some v) (ha : VRel B w φ a u) :
    ∃ r, (Instr.field t u f).run E.P w = .ok r w ∧ VRel B w φ v r := by
  unfold fieldE at h
  split at h
  · rename_i o ft cs hf
    unfold fieldOf at hf
    split at hf
    · rename_i fs hu
      simp at hf
      obtain ⟨fld, hfld, rfl, rfl⟩ := hf
      obtain ⟨us, rfl, hl⟩ := agg_list ha
      obtain ⟨r, h1, h2⟩ := partE_sound h hl
      exact ⟨r, by simp [Instr.field, run_und hu, hfld, asAgg, h1], h2⟩
    · cases hf
  · cases h

theorem indexE_sound {t : TypeId} {x i v : AV} {ux ui : Value} (h : indexE E.P t x i = some v) (hx : VRel B w φ x ux) (hi : VRel B w φ i ui) :
    ∃ r, (Instr.index t ux ui).run E.P w = .ok r w ∧ VRel B w φ v r := by
  unfold indexE at h
  split at h
  · rename_i len e cs hu
    split at h
    · rename_i s n hs hn
      obtain ⟨k, rfl, hlt⟩ := idx_some hn
      cases hi
      obtain ⟨us, rfl, hl⟩ := agg_list hx
      obtain ⟨r, h1, h2⟩ := partE_sound h hl
      exact ⟨r, by simp [Instr.index, asIntOf, run_und hu, hlt, run_size hs, h1], h2⟩
    · cases h
  · rename_i s hu
    split at h
    · rename_i k n
      cases hi
      cases hx
      simp at h
      obtain ⟨b, hb, rfl⟩ := h
      rw [get?_eq] at hb
      have hlt := lt_of_get hb
      have h1 : (⟨s.toArray⟩ : ByteArray)[n]? = some b := by
        have h2 : n < (⟨s.toArray⟩ : ByteArray).size := by simpa [ByteArray.size] using hlt
        rw [getElem?_pos (⟨s.toArray⟩ : ByteArray) n h2]
        have : s[n] = b := by simpa [List.getElem?_eq_getElem hlt] using hb
        simp [← this, ByteArray.getElem_eq_getElem_data]
      exact ⟨.int .u8 b.toNat, by simp [Instr.index, asIntOf, run_und hu, h1], .int _ _⟩
    · cases h
  · cases h

/-! ### Slices -/
theorem bnd_some {x : Option AV} {d y n : Nat} (h : bnd x d y = some n) : (x = none ∧ n = d) ∨ (∃ k, x = some (.int k n) ∧ n ≤ y) := by
  unfold bnd at h
  split at h
  · simp at h; exact .inl ⟨rfl, h.symm⟩
  · rename_i k m
    split at h
    · rename_i hb
      simp at h; subst h
      exact .inr ⟨k, rfl, by simpa using hb⟩
    · cases h
  · cases h

/-- An optional operand's values. -/
def ORl (B : Nat → Prop) (w : World) (φ : Phi) (x : Option AV) (u : Option Value) : Prop :=
  match x, u with
  | none, none => True
  | some x, some u => VRel B w φ x u
  | _, _ => False

theorem ORl.int {k : IntKind} {n : Int} {u : Option Value} (h : ORl B w φ (some (.int k n)) u) : u = some (.int k n) := by
  cases u with
  | none => exact h.elim
  | some u => have h : VRel B w φ (.int k n) u := h; cases h; rfl

theorem ORl.none {u : Option Value} (h : ORl B w φ none u) : u = none := by
  cases u with
  | none => rfl
  | some u => exact h.elim

theorem run_bound {P : Program} {w : World} {k : IntKind} {n y : Nat} (c : BoundsCode) (h : n ≤ y) : (Instr.sliceBound (.int k n) y c).run P w = .ok n w := by
  simp [Instr.sliceBound, asIntOf, h]

theorem sliceB_sound {len : Nat} {cap : Option Nat} {ccap : Nat} {lo hi mx : Option AV} {l h : Nat} {m : Option Nat} {ulo uhi umx : Option Value} (isS : Bool)
    (hx : ∀ c, cap = some c → ccap = c) (hlen : len ≤ ccap) (hs : sliceB len cap lo hi mx = some (l, h, m))
    (h1 : ORl B w φ lo ulo) (h2 : ORl B w φ hi uhi) (h3 : ORl B w φ mx umx) :
    ∃ cm, (Instr.sliceBounds isS len ccap ulo uhi umx).run E.P w = .ok (l, h, cm) w ∧ l ≤ h ∧ h ≤ cm ∧ cm ≤ ccap ∧ (∀ c, m = some c → cm - l = c) ∧ (m = none → cm = ccap ∧ h ≤ len) := by
  unfold sliceB at hs
  have hcl : ∀ n, n ≤ cap.getD len → n ≤ ccap := by
    intro n hn
    cases cap with
    | none => simp at hn; omega
    | some c => simp at hn; have := hx c rfl; omega
  cases mx with
  | none =>
    have e3 := h3.none; subst e3
    simp only [sliceLH] at hs
    split at hs
    · cases hs
    · rename_i h' hh
      split at hs
      · cases hs
      · rename_i l' hl'
        simp at hs
        obtain ⟨rfl, rfl, rfl⟩ := hs
        have hhi : (∃ x, (match uhi, (none : Option Value) with
            | some v, some _ => Instr.sliceBound v ccap .slice3B
            | some v, none => Instr.sliceBound v ccap (if isS then .sliceAcap else .sliceAlen)
            | none, none => pure len
            | none, some _ => stuck x : Sem Nat).run E.P w = .ok h' w) ∧ h' ≤ ccap ∧ (cap = none → h' ≤ len) := by
          rcases bnd_some hh with ⟨rfl, rfl⟩ | ⟨k, rfl, hle⟩
          · have e2 := h2.none; subst e2
            exact ⟨⟨"", by simp⟩, hlen, fun _ => Nat.le_refl _⟩
          · have e2 := h2.int; subst e2
            exact ⟨⟨"", by simp [run_bound _ (hcl _ hle)]⟩, hcl _ hle, fun e => by subst e; simpa using hle⟩
        obtain ⟨⟨_, hr1⟩, hle1, hle2⟩ := hhi
        rcases bnd_some hl' with ⟨rfl, rfl⟩ | ⟨k, rfl, hle⟩
        · have e1 := h1.none; subst e1
          refine ⟨ccap, ?_, by omega, hle1, Nat.le_refl _, ?_, ?_⟩
          · cases uhi with
            | none => simp [Instr.sliceBounds] at hr1 ⊢; exact hr1
            | some v => simp [Instr.sliceBounds] at hr1 ⊢; rw [hr1]; rfl
          · intro c hc; simp only [Option.map_eq_some_iff] at hc; obtain ⟨c', hc', rfl⟩ := hc; rw [hx c' hc']
          · intro hn; simp at hn; exact ⟨rfl, hle2 hn⟩
        · have e1 := h1.int; subst e1
          refine ⟨ccap, ?_, hle, hle1, Nat.le_refl _, ?_, ?_⟩
          · cases uhi with
            | none => simp [Instr.sliceBounds] at hr1 ⊢; subst hr1; simp [run_bound _ hle]
            | some v => simp [Instr.sliceBounds] at hr1 ⊢; rw [hr1]; simp [run_bound _ hle]
          · intro c hc; simp at hc; obtain ⟨c', hc', rfl⟩ := hc; rw [hx c' hc']
          · intro hn; simp at hn; exact ⟨rfl, hle2 hn⟩
  | some mv =>
    simp only at hs
    split at hs
    · rename_i hv mm hm1
      rcases bnd_some hm1 with ⟨e, _⟩ | ⟨k, e, hle⟩
      · cases e
      · simp at e; subst e
        have e3 := h3.int; subst e3
        have hm2 := hcl _ hle
        unfold sliceLH at hs
        split at hs
        · cases hs
        · rename_i h' hh
          split at hs
          · cases hs
          · rename_i l' hl'
            simp at hs
            obtain ⟨rfl, rfl, rfl⟩ := hs
            simp at hh
            rcases bnd_some hh with ⟨e, _⟩ | ⟨k2, e, hle2⟩
            · cases e
            · simp at e; subst e
              have e2 := h2.int; subst e2
              rcases bnd_some hl' with ⟨rfl, rfl⟩ | ⟨k3, rfl, hle3⟩
              · have e1 := h1.none; subst e1
                refine ⟨mm, ?_, by omega, hle2, hm2, by simp, by simp⟩
                simp [Instr.sliceBounds, run_bound _ hm2, run_bound _ hle2]
              · have e1 := h1.int; subst e1
                refine ⟨mm, ?_, hle3, hle2, hm2, by simp, by simp⟩
                simp [Instr.sliceBounds, run_bound _ hm2, run_bound _ hle2, run_bound _ hle3]
    · cases hs

/-- A slice of a slice of one's own. -/
theorem sl_slice {b off s l h len cb co o ccap cm : Nat} {cap' : Cap} (hp : φ b = some (cb, co)) (ho : ccap = 0 ∨ o = co + off) (_hl : len ≤ ccap)
    (h1 : l ≤ h) (h2 : h ≤ cm) (h3 : cm ≤ ccap) (hx : ∀ c, cap' = .ex c → cm - l = c)
    (hg : ∀ sz, cap' = .gr sz → sz = s ∧ cm = ccap ∧ (ccap = 0 ∨ ∃ cells t fz, w.heap[cb]? = some (.cells cells t fz) ∧ co + off + ccap * s ≤ cells.size)) :
    VRel B w φ (.sl b (off + l * s) (h - l) cap') (.slice (some (if cm = l then ⟨cb, o, none⟩ else (⟨cb, o, none⟩ : Addr).add (l * s))) (h - l) (cm - l)) := by
  by_cases e : cm = l
  · rw [if_pos e]
    exact .sl hp (.inl (by omega)) (by omega) hx (fun sz _ => .inl (by omega))
  · rw [if_neg e, addr_add]
    have ho' : o = co + off := ho.resolve_left (by omega)
    refine .sl hp (.inr (by omega)) (by omega) hx (fun sz e' => ?_)
    obtain ⟨rfl, rfl, hh⟩ := hg sz e'
    rcases hh with hh | ⟨cells, t, fz, e1, e2⟩
    · exact .inl (by omega)
    · refine .inr ⟨cells, t, fz, e1, ?_⟩
      have : (cm - l) * sz + l * sz = cm * sz := by rw [← Nat.add_mul]; congr 1; omega
      omega

theorem isl_slice {s l h ccap cm : Nat} {cs : List AV} {cap' : Option Nat} {a : Addr} {vs : Nat → Value}
    (h1 : l ≤ h) (h2 : h ≤ cm) (_h3 : cm ≤ ccap) (hx : ∀ c, cap' = some c → cm - l = c)
    (hb : cs ≠ [] → ¬B a.block ∧ a.spot = none) (hc : ∀ (j : Nat) c, cs[j]? = some c → w.cell? ⟨a.block, a.off + j, none⟩ = some (vs j))
    (hv : ∀ (j : Nat) c, cs[j]? = some c → VRel B w phi0 c (vs j)) :
    VRel B w φ (.isl (h - l) (if h - l = 0 then [] else dropN cs (l * s)) cap') (.slice (some (if cm = l then a else a.add (l * s))) (h - l) (cm - l)) := by
  by_cases e : h - l = 0
  · rw [if_pos e]
    exact .isl (fun _ => .nilIface) hx (by omega) (fun e => absurd rfl e) (fun j c hj => by simp at hj) (fun j c hj => by simp at hj)
  · rw [if_neg e, if_neg (by omega), dropN_eq]
    by_cases hne : cs.drop (l * s) = []
    · rw [hne]
      exact .isl (fun _ => .nilIface) hx (by omega) (fun e => absurd rfl e) (fun j c hj => by simp at hj) (fun j c hj => by simp at hj)
    · have hcs : cs ≠ [] := fun e => by subst e; simp at hne
      obtain ⟨hb1, hb2⟩ := hb hcs
      obtain ⟨ab, ao, asp⟩ := a
      simp only at hb1 hb2 hc
      subst hb2
      rw [addr_add]
      refine .isl (fun j => vs (l * s + j)) hx (by omega) (fun _ => ⟨hb1, rfl⟩) (fun j c hj => ?_) (fun j c hj => hv _ c (by simpa using hj))
      simp only [Nat.add_assoc]
      exact hc _ c (by simpa using hj)

theorem sliceE_sound {t : TypeId} {x v : AV} {lo hi mx : Option AV} {ux : Value} {ulo uhi umx : Option Value} (h : sliceE E.P t x lo hi mx = some v) (hx : VRel B w φ x ux)
    (h1 : ORl B w φ lo ulo) (h2 : ORl B w φ hi uhi) (h3 : ORl B w φ mx umx) :
    ∃ r, (Instr.sliceAt t ux ulo uhi umx).run E.P w = .ok r w ∧ VRel B w φ v r := by
  unfold sliceE at h
  split at h
  · rename_i s hu
    cases hx
    unfold sliceStr at h
    split at h
    · cases h
    · have e3 := h3.none; subst e3
      split at h
      · rename_i hh hhe
        simp at h
        obtain ⟨ll, hll, rfl⟩ := h
        have hsb : sliceB s.length (some s.length) lo hi none = some (ll, hh, some (s.length - ll)) := by
          simp [sliceB, sliceLH, hhe, hll]
        obtain ⟨cm, hr, q1, q2, q3, _, _⟩ := sliceB_sound (E := E) (B := B) (w := w) (φ := φ) false (ccap := s.length) (by simp) (Nat.le_refl _) hsb h1 h2 h3
        refine ⟨.string ((⟨s.toArray⟩ : ByteArray).extract ll hh), ?_, ?_⟩
        · have hsz : (⟨s.toArray⟩ : ByteArray).size = s.length := by simp [ByteArray.size]
          simp [Instr.sliceAt, run_und hu, Instr.slice, hsz, hr]
        · have : (⟨s.toArray⟩ : ByteArray).extract ll hh = ⟨((s.drop ll).take (hh - ll)).toArray⟩ := by
            have e1 : ((⟨s.toArray⟩ : ByteArray).extract ll hh).data = ((s.drop ll).take (hh - ll)).toArray := by
              apply Array.ext'
              simp [ByteArray.data_extract, List.extract_eq_take_drop]
            generalize (⟨s.toArray⟩ : ByteArray).extract ll hh = z at e1
            cases z
            simp at e1
            simp [e1]
          rw [this]
          exact .str _
      · cases h
  · rename_i e b off len cap hu
    cases hx with
    | sl hp ho hl hxx hg =>
      rename_i cb co o ccap
      have hcx : ∀ c, capOpt cap = some c → ccap = c := by
        intro c hc
        cases cap with
        | ex c' => simp [capOpt] at hc; subst hc; exact hxx _ rfl
        | gr z => simp [capOpt] at hc
      split at h
      · rename_i s l hh c hs hb
        simp at h; subst h
        obtain ⟨cm, hr, q1, q2, q3, q4, _⟩ := sliceB_sound (E := E) true hcx hl hb h1 h2 h3
        exact ⟨_, by simp [Instr.sliceAt, run_und hu, Instr.slice, hr, run_size hs]; split <;> rfl, sl_slice hp ho hl q1 q2 q3 (fun c' e => by cases e; exact q4 c rfl) (fun sz e => by cases e)⟩
      · rename_i s l hh hs hb
        split at h
        · rename_i z
          split at h
          · rename_i hz
            subst hz
            simp at h; subst h
            obtain ⟨cm, hr, q1, q2, q3, _, q5⟩ := sliceB_sound (E := E) true hcx hl hb h1 h2 h3
            exact ⟨_, by simp [Instr.sliceAt, run_und hu, Instr.slice, hr, run_size hs]; split <;> rfl,
              sl_slice hp ho hl q1 q2 q3 (fun c' e => by cases e) (fun sz e => by cases e; exact ⟨rfl, (q5 rfl).1, hg _ rfl⟩)⟩
          · cases h
        · cases h
      · cases h
  · rename_i e len cs cap hu
    cases hx with
    | isl vs hxx hl hb hc hv =>
      rename_i a ccap
      split at h
      · rename_i s l hh m hs hsb
        simp at h; subst h
        obtain ⟨cm, hr, q1, q2, q3, q4, _⟩ := sliceB_sound (E := E) true hxx hl hsb h1 h2 h3
        exact ⟨_, by simp [Instr.sliceAt, run_und hu, Instr.slice, hr, run_size hs]; split <;> rfl, isl_slice q1 q2 q3 q4 hb hc hv⟩
      · cases h
  · rename_i e hu
    cases hx
    split at h
    · rename_i s x hs hsb
      obtain ⟨l, hh, m⟩ := x
      simp at h; subst h
      obtain ⟨cm, hr, q1, q2, q3, _, _⟩ := sliceB_sound (E := E) (B := B) (w := w) (φ := φ) true (ccap := 0) (by simp) (Nat.le_refl _) hsb h1 h2 h3
      obtain rfl : cm = 0 := by omega
      obtain rfl : hh = 0 := by omega
      obtain rfl : l = 0 := by omega
      exact ⟨.slice none 0 0, by simp [Instr.sliceAt, run_und hu, Instr.slice, hr, run_size hs], .nilsl⟩
    · cases h
  · rename_i n e b off hu
    cases hx with
    | ptr hp =>
      rename_i cb co
      split at h
      · rename_i s l hh c hs hb
        simp at h; subst h
        obtain ⟨cm, hr, q1, q2, q3, q4, _⟩ := sliceB_sound (E := E) (B := B) (w := w) (φ := φ) false (ccap := n) (by simp) (Nat.le_refl _) hb h1 h2 h3
        exact ⟨_, by simp [Instr.sliceAt, run_und hu, Instr.sureAddr, hr, run_size hs],
          sl_slice (len := n) hp (.inr rfl) (Nat.le_refl _) q1 q2 q3 (fun c' e => by cases e; exact q4 c rfl) (fun sz e => by cases e)⟩
      · cases h
  · rename_i n e cs hu
    cases hx with
    | iptr vs hb hl hc hv =>
      rename_i cb o
      split at h
      · rename_i s l hh c hs hsb
        simp at h; subst h
        obtain ⟨cm, hr, q1, q2, q3, q4, _⟩ := sliceB_sound (E := E) (B := B) (w := w) (φ := φ) false (ccap := n) (by simp) (Nat.le_refl _) hsb h1 h2 h3
        exact ⟨_, by simp [Instr.sliceAt, run_und hu, Instr.sureAddr, hr, run_size hs],
          isl_slice (a := ⟨cb, o, none⟩) q1 q2 q3 (fun c' e => by cases e; exact q4 c rfl) (fun _ => ⟨hb, rfl⟩) hc hv⟩
      · cases h
  · cases h

end
end Go.Proofs.YtbjhjladdkbnmaaGreatDoor.Gx
