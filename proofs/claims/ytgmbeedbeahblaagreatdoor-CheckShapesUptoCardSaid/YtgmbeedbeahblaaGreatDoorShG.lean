/-
  Closed calls: the rules' tables; words and names of both sides.
-/
import Derived.Test.YtgmbeedbeahblaaGreatDoorShF
import Derived.Test.YtgmbeedbeahblaaGreatDoorGxF
namespace Go.Proofs.YtgmbeedbeahblaaGreatDoor
open Go Go.Proofs.YtgmbeedbeahblaaGreatDoor.Gx Go.RowKit

def GK : Nat → Option (List AV) := fun _ => none
def XK : FuncId → Option Ent := fun _ => none
noncomputable def PK : Program := Tryz.prog
/-- The reserved words. -/
def resL : List (List UInt8) := [[101, 120, 112], [108, 111, 103], [115, 105, 110], [99, 111, 115], [116, 97, 110], [97, 115, 105, 110], [97, 99, 111, 115], [97, 116, 97, 110], [112, 105], [97, 98, 115], [109, 105, 110], [109, 97, 120], [114, 111, 111, 116], [115, 113, 114, 116], [105, 102], [105, 110, 102], [102, 111, 114], [105, 110], [119, 104, 101, 114, 101]]
/-- A row of a table of rules: number, name, fields, kids, function. -/
structure KR where
  n : Int
  nm : List UInt8
  fl : List UInt8
  k : Int
  f : FuncId
/-- The program's rules. -/
def kR : List KR := [⟨1, [114, 97, 110, 103, 101], [112], 0, 46⟩,
  ⟨2, [109, 101, 97, 110], [112], 0, 47⟩,
  ⟨3, [116, 97, 121, 108, 111, 114], [112], 0, 48⟩,
  ⟨4, [108, 105, 110, 101, 97, 114], [112], 0, 49⟩,
  ⟨5, [101, 109, 112, 116, 121], [107, 112], 0, 50⟩,
  ⟨6, [99, 117, 116], [120, 97], 2, 51⟩,
  ⟨7, [114, 105, 115, 101], [120, 112], 1, 52⟩,
  ⟨8, [102, 97, 108, 108], [120, 112], 1, 53⟩,
  ⟨9, [99, 97, 118, 101], [120, 112], 2, 54⟩,
  ⟨10, [110, 97, 114, 114, 111, 119], [120, 107, 110, 112], 1, 55⟩,
  ⟨11, [98, 114, 97, 110, 99, 104], [112], 2, 56⟩,
  ⟨12, [116, 117, 114, 110], [120, 97], 1, 57⟩,
  ⟨13, [115, 119, 97, 112], [120, 121, 112], 1, 58⟩,
  ⟨14, [122, 101, 114, 111], [113, 112], 0, 59⟩,
  ⟨15, [108, 101, 97, 100], [120, 97, 110, 112], 0, 60⟩,
  ⟨16, [115, 97, 109, 101], [101, 112], 1, 61⟩,
  ⟨17, [118, 105, 97], [101], 2, 62⟩,
  ⟨18, [115, 99, 97, 108, 101], [101], 2, 63⟩,
  ⟨19, [97, 100, 100], [107, 97], 1, 64⟩,
  ⟨20, [108, 101, 109, 109, 97], [108, 118, 98, 112], 1, 65⟩,
  ⟨21, [102, 97, 114], [120, 110, 101, 112], 1, 66⟩]
/-- The reference's. -/
def kQ : List KR := [⟨1, [114, 97, 110, 103, 101], [112], 0, 0⟩,
  ⟨2, [109, 101, 97, 110], [112], 0, 0⟩,
  ⟨3, [116, 97, 121, 108, 111, 114], [112], 0, 0⟩,
  ⟨4, [108, 105, 110, 101, 97, 114], [112], 0, 0⟩,
  ⟨5, [101, 109, 112, 116, 121], [107, 112], 0, 0⟩,
  ⟨6, [99, 117, 116], [110, 97], 2, 0⟩,
  ⟨7, [114, 105, 115, 101], [110, 112], 1, 0⟩,
  ⟨8, [102, 97, 108, 108], [110, 112], 1, 0⟩,
  ⟨9, [99, 97, 118, 101], [110, 112], 2, 0⟩,
  ⟨10, [110, 97, 114, 114, 111, 119], [110, 107, 99, 112], 1, 0⟩,
  ⟨11, [98, 114, 97, 110, 99, 104], [112], 2, 0⟩,
  ⟨12, [116, 117, 114, 110], [110, 97], 1, 0⟩,
  ⟨13, [115, 119, 97, 112], [110, 111, 112], 1, 0⟩,
  ⟨14, [122, 101, 114, 111], [116, 112], 0, 0⟩,
  ⟨15, [108, 101, 97, 100], [110, 97, 99, 112], 0, 0⟩,
  ⟨16, [115, 97, 109, 101], [101, 112], 1, 0⟩,
  ⟨17, [118, 105, 97], [101], 2, 0⟩,
  ⟨18, [115, 99, 97, 108, 101], [101], 2, 0⟩,
  ⟨19, [97, 100, 100], [107, 97], 1, 0⟩,
  ⟨20, [108, 101, 109, 109, 97], [121, 118, 98, 112], 1, 0⟩,
  ⟨21, [102, 97, 114], [110, 99, 101, 112], 1, 0⟩]
/-- The letters of the fields, of the program and of the reference, in one order. -/
def letP : List UInt8 := [120, 121, 97, 107, 110, 112, 101, 113, 108, 118, 98]
def letQ : List UInt8 := [110, 111, 97, 107, 99, 112, 101, 116, 121, 118, 98]
def KR.av (r : KR) : AV := .agg [.str r.nm, .str r.fl, .int .i64 r.k, .func r.f [] []]
def noAv : AV := .agg [.str [], .str [], .int .i64 0, .nilfn]
/-- How many kids a kind has. -/
def kK : List (Int × Int) := [(1, 0), (2, 0), (3, 0), (4, 1), (5, 2), (6, 2), (7, 2), (8, 2), (9, 1), (10, 1), (11, 1), (12, 1), (13, 2), (14, 2), (15, 3)]
def loI : Int := (-9223372036854775808)
def hiI : Int := 9223372036854775807
def kT1 : Tab := resL.map fun l => (334, [.str l], .bool true)
def kT2 : Tab := kK.map fun x => (245, [.int .i64 x.1], .tup [.int .i64 x.2, .bool true])
def kT3 : Tab := kK.map fun x => (246, [.int .i64 x.1], .int .i64 x.2)
def kT4 : Tab := kR.map fun r => (20, [.int .i64 r.n], .tup [r.av, .bool true])
def kT5 : Tab := kQ.map fun r => (36, [.int .i64 r.n], .agg [.str r.nm, .str r.fl, .int .i64 r.k])
def kT6 : Tab := [(334, [.ostr resL], .bool false),
  (245, [.oint .i64 loI 0], .tup [.int .i64 0, .bool false]), (245, [.oint .i64 16 hiI], .tup [.int .i64 0, .bool false]),
  (246, [.oint .i64 loI 0], .int .i64 (-1)), (246, [.oint .i64 16 hiI], .int .i64 (-1)),
  (20, [.oint .i64 loI 0], .tup [noAv, .bool false]), (20, [.oint .i64 22 hiI], .tup [noAv, .bool false]),
  (34, [.oint .i64 loI 0], .str []), (34, [.oint .i64 22 hiI], .str []), (332, [], .isl 19 (resL.map .str) (some 19)),
  (29, [], .isl 21 (kR.flatMap fun r => [.str r.nm, .str r.fl, .int .i64 r.k, .func r.f [] []]) (some 21))]
def kTab1 : Tab := kT1 ++ (kT2 ++ (kT3 ++ (kT4 ++ (kT5 ++ kT6))))
def kTab2 : Tab := kR.flatMap fun r => letP.map fun c => (23, [r.av, .int .u8 c.toNat], .bool (decide (c ∈ r.fl)))
def kT7 : Tab := kQ.map fun r => (34, [.int .i64 r.n], .str r.nm)
def kT8 : Tab := kQ.flatMap fun r => letQ.map fun c => (38, [.int .i64 r.n, .int .u8 c.toNat], .bool (decide (c ∈ r.fl)))
def kTab3 : Tab := kT7 ++ kT8
theorem kMixed : Tryz.prog.follows .mixedOrders = true := by kernel_rfl
theorem kNoNum : NoNum Tryz.prog := by
  have h : (Tryz.prog.funcs.toList.all fun fn => !fn.body.isSome || !(fn.name == "runtime.NumGoroutine")) = true := by kernel_rfl
  intro f fn hf hb
  have hm : fn ∈ Tryz.prog.funcs.toList := by
    rw [Array.mem_toList_iff]; exact Array.mem_of_getElem? hf
  have := List.all_eq_true.1 h fn hm
  simp only [hb, Bool.not_true, Bool.false_or, Bool.not_eq_true'] at this
  exact this
theorem kNoX : XOk PK XK := fun f k h => by cases h
theorem kChk1 : chkT PK GK XK (fun _ => true) 6000 [] kTab1 = true := by decide +kernel
theorem kChk2 : chkT PK GK XK (fun _ => true) 6000 (kTab1 ++ []) kTab2 = true := by decide +kernel
theorem kChk3 : chkT PK GK XK (fun _ => true) 6000 (kTab1 ++ []) kTab3 = true := by decide +kernel
theorem kOk1 : TabOk PK GK (kTab1 ++ []) := TabOk.chk (TabOk.nil PK GK) kNoNum kMixed kNoX kChk1
theorem kOk2 : TabOk PK GK (kTab2 ++ (kTab1 ++ [])) := TabOk.chk kOk1 kNoNum kMixed kNoX kChk2
theorem kOk3 : TabOk PK GK (kTab3 ++ (kTab1 ++ [])) := TabOk.chk kOk1 kNoNum kMixed kNoX kChk3
theorem kGlob {w : World} : ∀ g cs, GK g = some cs → VRel (fun _ => False) w phi0 (.iptr cs) (.pointer (some ⟨g, 0, none⟩)) := fun g cs h => by cases h
theorem kUse {f : FuncId} {args : List AV} {v : AV} (h : SealOk (tenv PK GK (fun _ => none) (fun _ => true) []) f args (.ret v)) {w : World} {us : Array Value} (hA : LRel (fun _ => False) w phi0 args us.toList) :
    Calls Tryz.prog f us w fun e w' => (∃ u, e = .returned u ∧ VRel (fun _ => False) w' phi0 v u) ∧ Below w.heap.size w w' :=
  SealOk.use h (sess0 kGlob) (by rw [bd0]; exact hA) (Below.refl _ _)
/-- A closed call of a table in any world. -/
theorem kCall1 {f : FuncId} {args : List AV} {v : AV} (h : (f, args, v) ∈ kTab1) {w : World} {us : Array Value} (hA : LRel (fun _ => False) w phi0 args us.toList) :
    Calls Tryz.prog f us w fun e w' => (∃ u, e = .returned u ∧ VRel (fun _ => False) w' phi0 v u) ∧ Below w.heap.size w w' :=
  kUse (kOk1 _ (List.mem_append_left _ h)) hA
theorem kCall2 {f : FuncId} {args : List AV} {v : AV} (h : (f, args, v) ∈ kTab2) {w : World} {us : Array Value} (hA : LRel (fun _ => False) w phi0 args us.toList) :
    Calls Tryz.prog f us w fun e w' => (∃ u, e = .returned u ∧ VRel (fun _ => False) w' phi0 v u) ∧ Below w.heap.size w w' :=
  kUse (kOk2 _ (List.mem_append_left _ h)) hA
theorem kCall3 {f : FuncId} {args : List AV} {v : AV} (h : (f, args, v) ∈ kTab3) {w : World} {us : Array Value} (hA : LRel (fun _ => False) w phi0 args us.toList) :
    Calls Tryz.prog f us w fun e w' => (∃ u, e = .returned u ∧ VRel (fun _ => False) w' phi0 v u) ∧ Below w.heap.size w w' :=
  kUse (kOk3 _ (List.mem_append_left _ h)) hA
end Go.Proofs.YtgmbeedbeahblaaGreatDoor

namespace Go.Proofs.YtgmbeedbeahblaaGreatDoor
open Go Go.RowKit

/-! ### Names -/
/-- The byte of a text at a place. -/
def bt (s : ByteArray) (i : Nat) : Nat := if h : i < s.size then (s[i]'h).toNat else 0
theorem bt_eq {s : ByteArray} {i : Nat} (h : i < s.size) : (s[i]'h).toNat = bt s i := by
  unfold bt
  rw [dif_pos h]
theorem bt_le (s : ByteArray) (i : Nat) : bt s i ≤ 255 := by
  unfold bt
  split
  · have := (s[i]).toNat_lt
    omega
  · omega
def lowB (c : Nat) : Bool := decide (97 ≤ c) && decide (c ≤ 122)
def digB (c : Nat) : Bool := decide (48 ≤ c) && decide (c ≤ 57)
/-- A word: a small letter, then small letters and digits. -/
def wordB (s : ByteArray) : Bool := decide (0 < s.size) && lowB (bt s 0) && (List.range s.size).all fun i => lowB (bt s i) || digB (bt s i)
set_option maxRecDepth 100000 in
theorem letter_ok (c : Nat) (w : World) : Calls Tryz.prog 395 #[.int .u8 c] w fun e w' => e = .returned (.bool (lowB c)) ∧ w' = w := by
  unfold lowB
  by_cases h1 : 97 ≤ c
  · have h1' : (c : Int) ≥ 97 := by omega
    by_cases h2 : c ≤ 122
    · have h2' : (c : Int) ≤ 122 := by omega
      go_enter Tryz.func395, Tryz.ntmps395
      go_wp2
      go_ret
      exact ⟨by simp [h1, h2], rfl⟩
    · have h2' : ¬ (c : Int) ≤ 122 := by omega
      go_enter Tryz.func395, Tryz.ntmps395
      go_wp2
      go_ret
      exact ⟨by simp [h1, h2], rfl⟩
  · have h1' : ¬ (c : Int) ≥ 97 := by omega
    go_enter Tryz.func395, Tryz.ntmps395
    go_wp2
    go_ret
    exact ⟨by simp [h1], rfl⟩
set_option maxRecDepth 100000 in
theorem isdig_ok (c : Nat) (w : World) : Calls Tryz.prog 396 #[.int .u8 c] w fun e w' => e = .returned (.bool (digB c)) ∧ w' = w := by
  unfold digB
  by_cases h1 : 48 ≤ c
  · have h1' : (c : Int) ≥ 48 := by omega
    by_cases h2 : c ≤ 57
    · have h2' : (c : Int) ≤ 57 := by omega
      go_enter Tryz.func396, Tryz.ntmps396
      go_wp2
      go_ret
      exact ⟨by simp [h1, h2], rfl⟩
    · have h2' : ¬ (c : Int) ≤ 57 := by omega
      go_enter Tryz.func396, Tryz.ntmps396
      go_wp2
      go_ret
      exact ⟨by simp [h1, h2], rfl⟩
  · have h1' : ¬ (c : Int) ≥ 48 := by omega
    go_enter Tryz.func396, Tryz.ntmps396
    go_wp2
    go_ret
    exact ⟨by simp [h1], rfl⟩

theorem empty_list (s : ByteArray) : (s.toList == []) = decide (s.size = 0) := by
  have h : s.toList.length = s.size := by rw [ByteArray.toList_eq, Array.length_toList]; rfl
  cases hl : s.toList with
  | nil =>
    rw [hl] at h
    have h2 : s.size = 0 := by simpa using h.symm
    rw [decide_eq_true h2]
    rfl
  | cons a l =>
    rw [hl] at h
    have h2 : ¬ s.size = 0 := by simp at h; omega
    rw [decide_eq_false h2]
    rfl
set_option maxRecDepth 100000 in
set_option maxHeartbeats 1000000 in
/-- syntax.word. -/
theorem wordP_ok (s : ByteArray) (w : World) (hl : s.size ≤ 1099511627776) :
    Calls Tryz.prog 333 #[.string s] w fun e w' => ∃ n : Nat, e = .returned (.int .i64 n) ∧ n ≤ s.size ∧ (n = s.size ↔ s.size = 0 ∨ wordB s = true) ∧ w' = w := by
  by_cases h0 : s.size = 0
  · have he : (s.toList == []) = true := by rw [empty_list]; simp [h0]
    go_enter Tryz.func333, Tryz.ntmps333
    go_wp2
    go_ret
    exact ⟨0, rfl, by omega, by simp [h0], rfl⟩
  · have he : (s.toList == []) = false := by rw [empty_list]; simp [h0]
    have hp : (0 : Int) < s.size := by omega
    have hp' : 0 < s.size := by omega
    have hb := bt_eq hp'
    have hw0 : Hid (lowB (bt s 0) = false → wordB s = false) := fun h => by unfold wordB; simp [h]
    have hc0 := letter_ok (bt s 0) w
    cases hl0 : lowB (bt s 0) with
    | false =>
      rw [hl0] at hc0
      have hwf := hw0.out hl0
      clear hw0 hl0
      go_enter Tryz.func333, Tryz.ntmps333
      go_wp2_with (go_at_call 395; with_reducible refine hc0.mono ?_; rintro e w1 ⟨rfl, rfl⟩)
      go_ret
      exact ⟨0, rfl, by omega, ⟨fun h => absurd h.symm h0, fun h => h.elim (fun h => absurd h h0) (fun h => by rw [hwf] at h; cases h)⟩, rfl⟩
    | true =>
      rw [hl0] at hc0
      have hw1 : Hid ((∀ i, i < s.size → (lowB (bt s i) || digB (bt s i)) = true) → wordB s = true) := fun h => by
        unfold wordB
        rw [decide_eq_true hp', hl0]
        simp only [Bool.true_and, List.all_eq_true]
        intro i hi
        exact h i (List.mem_range.1 hi)
      have hw2 : Hid (∀ i, i < s.size → (lowB (bt s i) || digB (bt s i)) = false → wordB s = false) := fun i hi h => by
        unfold wordB
        have : ((List.range s.size).all fun i => lowB (bt s i) || digB (bt s i)) = false := by
          rw [List.all_eq_false]
          exact ⟨i, List.mem_range.2 hi, by rw [h]; simp⟩
        rw [this]
        simp
      have hl0' : Hid (lowB (bt s 0) = true) := hl0
      clear hw0 hl0
      go_enter Tryz.func333, Tryz.ntmps333
      go_wp2_with (go_at_call 395; with_reducible refine hc0.mono ?_; rintro e w1 ⟨rfl, hw⟩; subst w1)
      clear hb hc0
      go_loop [3] (fun v => ∃ k : Nat, 1 ≤ k ∧ k ≤ s.size ∧ v = .int .i64 k ∧ Hid (∀ i, i < k → (lowB (bt s i) || digB (bt s i)) = true)) (fun v => s.size - (intOf v).toNat)
      case atStart => exact ⟨1, Nat.le_refl _, hp', rfl, fun i hi => by
        have : i = 0 := by omega
        subst this
        rw [hl0'.out]; rfl⟩
      case round =>
        obtain ⟨k, hk1, hk, rfl, hz⟩ := hrel
        by_cases hlt : k < s.size
        · have hlt' : (k : Int) < s.size := by omega
          have hb := bt_eq hlt
          have hc := letter_ok (bt s k) w
          have hd := isdig_ok (bt s k) w
          cases h1 : lowB (bt s k) with
          | true =>
            rw [h1] at hc
            have h1' : Hid (lowB (bt s k) = true) := h1
            clear h1 hd
            go_wp2_with (go_at_call 395; with_reducible refine hc.mono ?_; rintro e w1 ⟨rfl, hw⟩; subst w1)
            go_round
            case rel =>
              refine ⟨k + 1, by omega, by omega, by go_num, fun i hi => ?_⟩
              rcases Nat.lt_or_ge i k with h | h
              · exact hz.out i h
              · have : i = k := by omega
                subst this
                rw [h1'.out]; rfl
            case measure => simp [intOf]; omega
          | false =>
            rw [h1] at hc
            cases h2 : digB (bt s k) with
            | true =>
              rw [h2] at hd
              have h2' : Hid (digB (bt s k) = true) := h2
              clear h1 h2
              go_wp2_with (first
                | (go_at_call 395; with_reducible refine hc.mono ?_; rintro e w1 ⟨rfl, hw⟩; subst w1)
                | (go_at_call 396; with_reducible refine hd.mono ?_; rintro e w1 ⟨rfl, hw⟩; subst w1))
              go_round
              case rel =>
                refine ⟨k + 1, by omega, by omega, by go_num, fun i hi => ?_⟩
                rcases Nat.lt_or_ge i k with h | h
                · exact hz.out i h
                · have : i = k := by omega
                  subst this
                  rw [h2'.out, Bool.or_true]
              case measure => simp [intOf]; omega
            | false =>
              rw [h2] at hd
              have hwf := hw2.out k hlt (by rw [h1, h2]; rfl)
              clear h1 h2
              go_wp2_with (first
                | (go_at_call 395; with_reducible refine hc.mono ?_; rintro e w1 ⟨rfl, hw⟩; subst w1)
                | (go_at_call 396; with_reducible refine hd.mono ?_; rintro e w1 ⟨rfl, hw⟩; subst w1))
              go_ret
              exact ⟨k, rfl, by omega, ⟨fun h => absurd h (by omega), fun h => h.elim (fun h => absurd h h0) (fun h => by rw [hwf] at h; cases h)⟩, rfl⟩
        · obtain rfl : k = s.size := by omega
          have hwt : Hid _ := hw1.out hz.out
          go_wp2
          go_ret
          exact ⟨s.size, rfl, Nat.le_refl _, ⟨fun _ => hwt.out, fun _ => rfl⟩, rfl⟩
end Go.Proofs.YtgmbeedbeahblaaGreatDoor

namespace Go.Proofs.YtgmbeedbeahblaaGreatDoor
open Go Go.Proofs.YtgmbeedbeahblaaGreatDoor.Gx Go.RowKit

/-- A name. -/
def nameB (s : ByteArray) : Bool := decide (s.size ≤ 8) && (wordB s && !decide (s.toList ∈ resL))

theorem string_eq (s : ByteArray) : (Value.string s) = .string ⟨s.toList.toArray⟩ := by
  rw [ByteArray.toList_eq]
theorem lrel_one {w : World} {x : AV} {v : Value} (h : VRel (fun _ => False) w phi0 x v) : LRel (fun _ => False) w phi0 [x] #[v].toList := LRel.cons h .nil
theorem lrel_two {w : World} {x y : AV} {v u : Value} (h : VRel (fun _ => False) w phi0 x v) (h2 : VRel (fun _ => False) w phi0 y u) : LRel (fun _ => False) w phi0 [x, y] #[v, u].toList := LRel.cons h (LRel.cons h2 .nil)

/-- syntax.Reserved. -/
theorem reserved_ok (s : ByteArray) (w : World) : Calls Tryz.prog 334 #[.string s] w fun e w' => e = .returned (.bool (decide (s.toList ∈ resL))) ∧ Below w.heap.size w w' := by
  rw [string_eq]
  by_cases h : s.toList ∈ resL
  · refine (kCall1 (f := 334) (args := [.str s.toList]) (v := .bool true) (List.mem_append_left _ (List.mem_map.2 ⟨_, h, rfl⟩)) (lrel_one (.str _))).mono ?_
    rintro e w' ⟨⟨u, rfl, hu⟩, hb⟩
    rw [hu.bool_inv, decide_eq_true h]
    exact ⟨rfl, hb⟩
  · refine (kCall1 (f := 334) (args := [.ostr resL]) (v := .bool false) (List.mem_append_right _ (List.mem_append_right _ (List.mem_append_right _ (List.mem_append_right _ (List.mem_append_right _ (by unfold kT6; simp)))))) (lrel_one (.ostr h))).mono ?_
    rintro e w' ⟨⟨u, rfl, hu⟩, hb⟩
    rw [hu.bool_inv, decide_eq_false h]
    exact ⟨rfl, hb⟩

set_option maxRecDepth 100000 in
set_option maxHeartbeats 1000000 in
/-- syntax.IsName. -/
theorem isName_ok (s : ByteArray) (w : World) : Calls Tryz.prog 250 #[.string s] w fun e w' => e = .returned (.bool (nameB s)) ∧ Below w.heap.size w w' := by
  unfold nameB
  by_cases h8 : s.size ≤ 8
  · have h8' : (s.size : Int) ≤ 8 := by omega
    have hw := wordP_ok s w (by omega)
    have hr := reserved_ok s w
    rw [decide_eq_true h8]
    by_cases h0 : s.size = 0
    · have he : (s.toList == []) = true := by rw [empty_list, decide_eq_true h0]
      have hwf : wordB s = false := by unfold wordB; rw [decide_eq_false (by omega)]; rfl
      rw [hwf]
      clear hr hwf
      go_enter Tryz.func250, Tryz.ntmps250
      go_wp2_with (go_at_call 333; with_reducible refine hw.mono ?_; rintro e w1 ⟨n, rfl, hn1, hn2, hw1⟩; subst w1
                   have hn : n = 0 := by omega
                   subst hn
                   clear hn1 hn2)
      go_ret
      exact ⟨rfl, Below.refl _ _⟩
    · have he : (s.toList == []) = false := by rw [empty_list, decide_eq_false h0]
      cases hb : wordB s with
      | true =>
        go_enter Tryz.func250, Tryz.ntmps250
        go_wp2_with (first
          | (go_at_call 333; with_reducible refine hw.mono ?_; rintro e w1 ⟨n, rfl, hn1, hn2, hw1⟩; subst w1
             have hn : ((n : Int) == (s.size : Int)) = true := by
               have := hn2.2 (.inr hb)
               simp; omega
             clear hn1 hn2)
          | (go_at_call 334; with_reducible refine hr.mono ?_; rintro e w2 ⟨rfl, hb2⟩))
        go_ret
        exact ⟨by simp, hb2⟩
      | false =>
        go_enter Tryz.func250, Tryz.ntmps250
        go_wp2_with (go_at_call 333; with_reducible refine hw.mono ?_; rintro e w1 ⟨n, rfl, hn1, hn2, hw1⟩; subst w1
                     have hn : ((n : Int) == (s.size : Int)) = false := by
                       have : ¬ n = s.size := fun h => (hn2.1 h).elim h0 (fun h => by rw [hb] at h; cases h)
                       simp; omega
                     clear hn1 hn2)
        go_ret
        exact ⟨rfl, Below.refl _ _⟩
  · have h8' : ¬ (s.size : Int) ≤ 8 := by omega
    rw [decide_eq_false h8]
    go_enter Tryz.func250, Tryz.ntmps250
    go_wp2
    go_ret
    exact ⟨rfl, Below.refl _ _⟩
set_option maxRecDepth 100000 in
/-- expr.IsName. -/
theorem eIsName_ok (s : ByteArray) (w : World) : Calls Tryz.prog 145 #[.string s] w fun e w' => e = .returned (.bool (nameB s)) ∧ Below w.heap.size w w' := by
  have h := isName_ok s w
  go_enter Tryz.func145, Tryz.ntmps145
  go_wp2_with (go_at_call 250; with_reducible refine h.mono ?_; rintro e w1 ⟨rfl, hb⟩)
  go_ret
  exact ⟨rfl, hb⟩

set_option maxRecDepth 100000 in
set_option maxHeartbeats 1000000 in
/-- The reference's word. -/
theorem wordQ_ok (s : ByteArray) (w : World) (hl : s.size ≤ 1099511627776) :
    Calls Tryz.prog 331 #[.string s] w fun e w' => e = .returned (.bool (wordB s)) ∧ w' = w := by
  have hw1 : Hid ((∀ i, i < s.size → (lowB (bt s i) || digB (bt s i)) = true) → (0 < s.size → lowB (bt s 0) = true) → wordB s = decide (0 < s.size)) := fun h h2 => by
    unfold wordB
    have : ((List.range s.size).all fun i => lowB (bt s i) || digB (bt s i)) = true := by
      rw [List.all_eq_true]
      intro i hi
      exact h i (List.mem_range.1 hi)
    rw [this]
    by_cases h0 : 0 < s.size
    · rw [decide_eq_true h0, h2 h0]; rfl
    · rw [decide_eq_false h0]; rfl
  have hw2 : Hid (∀ i, i < s.size → (lowB (bt s i) || digB (bt s i)) = false → wordB s = false) := fun i hi h => by
    unfold wordB
    have : ((List.range s.size).all fun i => lowB (bt s i) || digB (bt s i)) = false := by
      rw [List.all_eq_false]
      exact ⟨i, List.mem_range.2 hi, by rw [h]; simp⟩
    rw [this]
    simp
  have hw3 : Hid (lowB (bt s 0) = false → wordB s = false) := fun h => by
    unfold wordB
    rw [h]; simp
  obtain ⟨R, hR⟩ : ∃ R, Hid (wordB s = R) := ⟨_, rfl⟩
  rw [hR.out]
  go_enter Tryz.func331, Tryz.ntmps331
  go_wp2
  go_loop [3, 4] (fun v _ => ∃ k : Nat, k ≤ s.size ∧ v = .int .i64 k ∧ Hid ((∀ i, i < k → (lowB (bt s i) || digB (bt s i)) = true) ∧ (0 < k → lowB (bt s 0) = true))) (fun v _ => s.size - (intOf v).toNat)
  case atStart => exact ⟨0, Nat.zero_le _, rfl, fun i hi => by omega, fun h => by omega⟩
  case round =>
    obtain ⟨k, hk, rfl, hz⟩ := hrel
    by_cases hlt : k < s.size
    · have hlt' : (k : Int) < s.size := by omega
      have hb := bt_eq hlt
      have hstep : Hid ((lowB (bt s k) = true ∨ 0 < k ∧ digB (bt s k) = true) → (∀ i, i < k + 1 → (lowB (bt s i) || digB (bt s i)) = true) ∧ (0 < k + 1 → lowB (bt s 0) = true)) := fun h => by
        refine ⟨fun i hi => ?_, fun _ => ?_⟩
        · rcases Nat.lt_or_ge i k with h2 | h2
          · exact hz.out.1 i h2
          · have : i = k := by omega
            subst this
            rcases h with h | h
            · rw [h]; rfl
            · rw [h.2, Bool.or_true]
        · rcases Nat.eq_zero_or_pos k with h2 | h2
          · subst h2
            exact h.elim id (fun h => absurd h.1 (by omega))
          · exact hz.out.2 h2
      have hbad : Hid (lowB (bt s k) = false → (k = 0 ∨ digB (bt s k) = false) → R = false) := fun h1 h2 => by
        rw [← hR.out]
        rcases h2 with h2 | h2
        · subst h2; exact hw3.out h1
        · exact hw2.out k hlt (by rw [h1, h2]; rfl)
      clear hz
      generalize hc : bt s k = c at *
      have hc' : Hid (bt s k = c) := hc
      clear hc
      have tail : (¬ 97 ≤ c ∨ ¬ c ≤ 122) → Hid (lowB c = false) := fun h => (by unfold lowB; rcases h with h | h <;> simp [h] : lowB c = false)
      have dg : (¬ 48 ≤ c ∨ ¬ c ≤ 57) → Hid (digB c = false) := fun h => (by unfold digB; rcases h with h | h <;> simp [h] : digB c = false)
      have dg1 : 48 ≤ c → c ≤ 57 → Hid (digB c = true) := fun h1 h2 => (by unfold digB; simp [h1, h2] : digB c = true)
      by_cases h1 : 97 ≤ c
      · have h1' : (c : Int) ≥ 97 := by omega
        by_cases h2 : c ≤ 122
        · have h2' : (c : Int) ≤ 122 := by omega
          have hl : Hid (lowB c = true) := (by unfold lowB; simp [h1, h2] : lowB c = true)
          go_wp2
          go_round
          case rel => exact ⟨k + 1, by omega, by go_num, hstep.out (.inl hl.out)⟩
          case measure => simp [intOf]; omega
        · have h2' : ¬ (c : Int) ≤ 122 := by omega
          have hl := tail (.inr h2)
          have hd := dg (.inr (by omega))
          have hRf := hbad.out hl.out (.inr hd.out)
          have h3 : ¬ (c : Int) < 48 := by omega
          have h4 : (c : Int) > 57 := by omega
          subst hRf
          by_cases hk0 : k = 0
          · subst hk0
            go_wp2
            go_ret
            exact ⟨rfl, rfl⟩
          · have hk1 : ((k : Int) == 0) = false := by simp; omega
            go_wp2
            go_ret
            exact ⟨rfl, rfl⟩
      · have h1' : ¬ (c : Int) ≥ 97 := by omega
        have hl := tail (.inl h1)
        by_cases hk0 : k = 0
        · have hRf := hbad.out hl.out (.inl hk0)
          subst hRf
          subst hk0
          go_wp2
          go_ret
          exact ⟨rfl, rfl⟩
        · have hk1 : ((k : Int) == 0) = false := by simp; omega
          by_cases h3 : c < 48
          · have h3' : (c : Int) < 48 := by omega
            have hRf := hbad.out hl.out (.inr (dg (.inl (by omega))).out)
            subst hRf
            go_wp2
            go_ret
            exact ⟨rfl, rfl⟩
          · have h3' : ¬ (c : Int) < 48 := by omega
            by_cases h4 : c ≤ 57
            · have h4' : ¬ (c : Int) > 57 := by omega
              go_wp2
              go_round
              case rel => exact ⟨k + 1, by omega, by go_num, hstep.out (.inr ⟨by omega, (dg1 (by omega) h4).out⟩)⟩
              case measure => simp [intOf]; omega
            · have h4' : (c : Int) > 57 := by omega
              have hRf := hbad.out hl.out (.inr (dg (.inr h4)).out)
              subst hRf
              go_wp2
              go_ret
              exact ⟨rfl, rfl⟩
    · obtain rfl : k = s.size := by omega
      have hwt := hw1.out hz.out.1 hz.out.2
      rw [hR.out] at hwt
      have hwt' : Hid (R = decide (0 < s.size)) := hwt
      clear hwt
      go_wp2
      go_ret
      exact ⟨by rw [hwt'.out]; simp, rfl⟩
end Go.Proofs.YtgmbeedbeahblaaGreatDoor

namespace Go.Proofs.YtgmbeedbeahblaaGreatDoor
open Go Go.Proofs.YtgmbeedbeahblaaGreatDoor.Gx Go.RowKit

theorem resL_get {j : Nat} (hj : j < 19) : (resL.map AV.str)[j]? = some (.str (resL.getD j [])) := by
  have hl : resL.length = 19 := rfl
  rw [List.getElem?_map, List.getElem?_eq_getElem (by omega)]
  simp [List.getD, List.getElem?_eq_getElem (by omega : j < resL.length)]
/-- The reference's reserved words. -/
theorem resQ_ok (w : World) : Calls Tryz.prog 332 #[] w fun e w' => ∃ b o cap, e = .returned (.slice (some ⟨b, o, none⟩) 19 cap) ∧ (∀ i, i < 19 → w'.cell? ⟨b, o + i, none⟩ = some (.string ⟨(resL.getD i []).toArray⟩)) ∧ Below w.heap.size w w' := by
  refine (kCall1 (f := 332) (args := []) (v := .isl 19 (resL.map .str) (some 19)) (List.mem_append_right _ (List.mem_append_right _ (List.mem_append_right _ (List.mem_append_right _ (List.mem_append_right _ (by unfold kT6; simp)))))) .nil).mono ?_
  rintro e w' ⟨⟨u, rfl, hu⟩, hb⟩
  cases hu with
  | @isl _ _ _ _ a ccap vs hx hl hbk hc hv =>
    obtain ⟨ab, ao, asp⟩ := a
    have hsp := (hbk (by simp [resL])).2
    simp only at hsp
    subst hsp
    refine ⟨ab, ao, ccap, rfl, fun i hi => ?_, hb⟩
    have h1 := resL_get hi
    have h2 := hv i _ h1
    rw [hc i _ h1, h2.str_inv]

theorem resL_end {s : ByteArray} (h : ∀ j, j < 19 → resL.getD j [] ≠ s.toList) : s.toList ∉ resL := fun hm => by
  obtain ⟨j, hj, he⟩ := List.getElem_of_mem hm
  have hl : resL.length = 19 := rfl
  refine h j (by omega) ?_
  simp [List.getD, List.getElem?_eq_getElem hj, he]
theorem resL_hit {s : ByteArray} {j : Nat} (hj : j < 19) (h : resL.getD j [] = s.toList) : s.toList ∈ resL := by
  have hl : resL.length = 19 := rfl
  rw [← h]
  simp [List.getD, List.getElem?_eq_getElem (by omega : j < resL.length)]

set_option maxRecDepth 100000 in
set_option maxHeartbeats 1000000 in
/-- The reference's IsName. -/
theorem nameQ_ok (s : ByteArray) (w : World) : Calls Tryz.prog 249 #[.string s] w fun e w' => e = .returned (.bool (nameB s)) ∧ Below w.heap.size w w' := by
  have hr := resQ_ok w
  by_cases h8 : s.size ≤ 8
  · have h8' : ¬ (s.size : Int) > 8 := by omega
    have hw := wordQ_ok s w (by omega)
    cases hb : wordB s with
    | false =>
      have hn : nameB s = false := by unfold nameB; rw [hb]; simp
      rw [hn]
      rw [hb] at hw
      clear hr hn
      go_enter Tryz.func249, Tryz.ntmps249
      go_wp2_with (go_at_call 331; with_reducible refine hw.mono ?_; rintro e w1 ⟨rfl, hw1⟩; subst w1)
      go_ret
      exact ⟨rfl, Below.refl _ _⟩
    | true =>
      have hn : nameB s = !decide (s.toList ∈ resL) := by unfold nameB; rw [hb, decide_eq_true h8]; rfl
      rw [hn]
      rw [hb] at hw
      obtain ⟨R, hR⟩ : ∃ R, Hid ((!decide (s.toList ∈ resL)) = R) := ⟨_, rfl⟩
      rw [hR.out]
      clear hn
      go_enter Tryz.func249, Tryz.ntmps249
      go_wp2_with (first
        | (go_at_call 331; with_reducible refine hw.mono ?_; rintro e w1 ⟨rfl, hw1⟩; subst w1)
        | (go_at_call 332; with_reducible refine hr.mono ?_; rintro e w2 ⟨b, o, cap, rfl, hc, hb2⟩
           have hc' : Hid (∀ i, i < 19 → w2.cell? ⟨b, o + i, none⟩ = some (.string ⟨(resL.getD i []).toArray⟩)) := hc
           clear hc))
      go_loop [4] (fun v => ∃ k : Nat, k ≤ 19 ∧ v = .int .i64 k ∧ Hid (∀ j, j < k → resL.getD j [] ≠ s.toList)) (fun v => 19 - (intOf v).toNat)
      case atStart => exact ⟨0, Nat.zero_le _, rfl, fun j hj => by omega⟩
      case round =>
        obtain ⟨k, hk, rfl, hz⟩ := hrel
        by_cases hlt : k < 19
        · have hlt' : (k : Int) < 19 := by omega
          have c0 := hc'.out k hlt
          by_cases he : resL.getD k [] = s.toList
          · have hRf : R = false := by rw [← hR.out, decide_eq_true (resL_hit hlt he)]; rfl
            subst hRf
            have he' : (resL.getD k [] == s.toList) = true := beq_iff_eq.2 he
            clear he
            generalize resL.getD k [] = L at *
            go_wp2
            go_ret
            exact ⟨rfl, hb2⟩
          · have he' : (resL.getD k [] == s.toList) = false := beq_eq_false_iff_ne.2 he
            have hz' : Hid (∀ j, j < k + 1 → resL.getD j [] ≠ s.toList) := fun j hj => by
              rcases Nat.lt_or_ge j k with h | h
              · exact hz.out j h
              · have : j = k := by omega
                subst this; exact he
            clear he hz
            generalize resL.getD k [] = L at *
            go_wp2
            go_round
            case rel => exact ⟨k + 1, by omega, by go_num, hz'⟩
            case measure => simp [intOf]; omega
        · obtain rfl : k = 19 := by omega
          have hRt : R = true := by rw [← hR.out, decide_eq_false (resL_end hz.out)]; rfl
          subst hRt
          clear hz
          go_wp2
          go_ret
          exact ⟨rfl, hb2⟩
  · have h8' : (s.size : Int) > 8 := by omega
    have hn : nameB s = false := by unfold nameB; rw [decide_eq_false h8]; rfl
    rw [hn]
    go_enter Tryz.func249, Tryz.ntmps249
    go_wp2
    go_ret
    exact ⟨rfl, Below.refl _ _⟩
end Go.Proofs.YtgmbeedbeahblaaGreatDoor
