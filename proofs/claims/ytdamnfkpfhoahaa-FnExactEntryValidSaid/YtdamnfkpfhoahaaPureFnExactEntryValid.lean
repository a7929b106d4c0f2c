/- The program's EntryValid answers as the reference's for every entry. No condition beyond the row's own. -/
import Derived.Test.YtdamnfkpfhoahaaStmFnExactEntryValid
import Derived.Laws.BytesArg
import Derived.Lib.Strings
namespace Go.Proofs.Ytdamnfkpfhoahaa.Pure
open Go.RowKit Go.Proofs.Ytdamnfkpfhoahaa.PFnExactEntryValid Go.Proofs.YtdamnfkpfhoahaaW.PrintWords Go.Proofs.YtdamnfkpfhoahaaW.PrintLast
set_option linter.unusedVariables false
set_option linter.unusedSimpArgs false

/-! Eventually: for all large enough numbers of rounds; small lemmas on numbers and lists. -/
def Evn (P : Nat → Prop) : Prop := ∃ K, ∀ k, K ≤ k → P k

theorem Evn.all {P : Nat → Prop} (h : ∀ k, P k) : Evn P := ⟨0, fun k _ => h k⟩

theorem Evn.mp {P Q : Nat → Prop} (hp : Evn P) (hq : Evn fun k => P k → Q k) : Evn Q := by
  obtain ⟨K1, h1⟩ := hp
  obtain ⟨K2, h2⟩ := hq
  exact ⟨max K1 K2, fun k hk => h2 k (by omega) (h1 k (by omega))⟩

theorem Evn.succ {P : Nat → Prop} (h : Evn fun k => P (k + 1)) : Evn P := by
  obtain ⟨K, h⟩ := h
  refine ⟨K + 1, fun k hk => ?_⟩
  obtain ⟨m, rfl⟩ : ∃ m, k = m + 1 := ⟨k - 1, by omega⟩
  exact h m (by omega)

theorem Evn.some {P : Nat → Prop} (h : Evn P) : ∃ k, P k := by
  obtain ⟨K, h⟩ := h
  exact ⟨K, h K (Nat.le_refl K)⟩

theorem w64 {x : Int} (h0 : -9223372036854775808 ≤ x) (h1 : x ≤ 9223372036854775807) : wrap64 x = x := by
  unfold wrap64
  omega

theorem rd_drop {xs : List Int} {j : Nat} (h : j < xs.length) : xs.drop j = rd xs (j : Int) :: xs.drop (j + 1) := by
  rw [List.drop_eq_getElem_cons h]
  simp [rd, List.getD_eq_getElem?_getD, List.getElem?_eq_getElem h]

theorem rd_nat {xs : List Int} {j : Nat} (h : j < xs.length) : rd xs (j : Int) = xs[j] := by
  simp [rd, List.getD_eq_getElem?_getD, List.getElem?_eq_getElem h]

theorem wf64 {x : Int} (h : (Lit.int .i64 x).wf = true) : -9223372036854775808 ≤ x ∧ x ≤ 9223372036854775807 := by
  have h' : (decide (IntKind.i64.min ≤ x) && decide (x ≤ IntKind.i64.max)) = true := h
  rw [Bool.and_eq_true, decide_eq_true_eq, decide_eq_true_eq] at h'
  exact h'

/-! Strings and their bytes. -/
theorem str_nil : strOfNums [] = (⟨#[]⟩ : ByteArray) := rfl
theorem ba_ext {a b : ByteArray} (h : a.data.toList = b.data.toList) : a = b := by
  cases a; cases b; simp only [ByteArray.mk.injEq]; exact Array.toList_inj.mp h
theorem ba_append (a b : ByteArray) : (a ++ b).data.toList = a.data.toList ++ b.data.toList := by
  rw [ByteArray.data_append, Array.toList_append]
theorem str_append (xs ys : List Int) : strOfNums (xs ++ ys) = strOfNums xs ++ strOfNums ys := by
  refine ba_ext ?_
  rw [ba_append, strOfNums_data, strOfNums_data, strOfNums_data, List.map_append]
theorem str_bytes (s : ByteArray) : strOfNums (bytesOf s) = s := by
  refine ba_ext ?_
  rw [strOfNums_data, bytesOf, List.map_map]
  exact (List.map_congr_left (g := id) fun b _ => by simp).trans (List.map_id _)
theorem bytes_str {xs : List Int} (h : ∀ x ∈ xs, 0 ≤ x ∧ x ≤ 255) : bytesOf (strOfNums xs) = xs := by
  rw [bytesOf, strOfNums_data, List.map_map]
  refine (List.map_congr_left (g := id) fun x hx => ?_).trans (List.map_id _)
  have := h x hx
  simp only [Function.comp, id]
  rw [UInt8.toNat_ofNat_of_lt' (by simp [UInt8.size]; omega)]
  omega
theorem ba_toList (s : ByteArray) : s.toList = s.data.toList := Lib.toList_data s
theorem ba_toList_inj {s t : ByteArray} : s.toList = t.toList ↔ s = t := by
  refine ⟨fun h => ba_ext ?_, fun h => by rw [h]⟩
  rwa [ba_toList, ba_toList] at h
theorem bytes_byte (s : ByteArray) : ∀ x ∈ bytesOf s, 0 ≤ x ∧ x ≤ 255 := by
  intro x hx
  unfold bytesOf at hx
  obtain ⟨b, _, rfl⟩ := List.mem_map.mp hx
  have := b.toNat_lt
  omega

/-! The model of keys. -/
def lowB (x : Int) : Bool := decide (97 ≤ x) && decide (x ≤ 122)
def keyB (s : ByteArray) : Bool := decide (1 ≤ s.size) && decide (s.size ≤ 4) && (bytesOf s).all lowB
theorem bt_drop' {s : ByteArray} {j : Nat} (h : j < s.size) : (bytesOf s).drop j = bt s (j : Int) :: (bytesOf s).drop (j + 1) := by
  rw [rd_drop (by rw [bytesOf_length]; exact h), rd_bytesOf]
theorem bytesOf_tail (s : ByteArray) : bytesOf (s.extract 1 s.size) = (bytesOf s).drop 1 := by
  unfold bytesOf
  rw [← List.map_drop]
  refine congrArg _ ?_
  rw [ByteArray.data_extract, Array.toList_extract]
  rw [List.extract_eq_take_drop, List.take_of_length_le (by rw [List.length_drop, data_length]; omega)]
theorem nil_iff (s : ByteArray) : s.toList = ([] : List UInt8) ↔ s.size = 0 := by
  rw [ba_toList]
  refine ⟨fun h => ?_, fun h => ?_⟩
  · have := data_length s
    rw [h] at this
    exact this.symm
  · exact List.eq_nil_of_length_eq_zero (by rw [data_length]; exact h)

/-! The model of commands. -/
def valB (x : Int) : Bool := decide (0 ≤ x ∧ x ≤ 999)
def cmdB (kind : Int) (key : ByteArray) (value old : Int) : Bool :=
  (keyB key || (decide (kind = 5) && decide (key.size = 0))) &&
  (if kind = 2 then valB value && decide (old = 0) else if kind = 4 then valB value && (decide (old = -1) || valB old) else decide (1 ≤ kind ∧ kind ≤ 5) && (decide (value = 0) && decide (old = 0)))
theorem nil_dec (s : ByteArray) : decide (s.toList = ([] : List UInt8)) = decide (s.size = 0) := decide_eq_decide.mpr (nil_iff s)

/-! The model of entries. -/
def entB (client seq kind : Int) (key : ByteArray) (value old : Int) : Bool := decide (0 ≤ client ∧ client ≤ 3) && (decide (1 ≤ seq ∧ seq ≤ 999) && cmdB kind key value old)

theorem implLetters (n : Nat) : ∀ s : ByteArray, s.size = n → Evn fun k => impl_lettersOnly.f k s = some ((bytesOf s).all lowB) := by
  induction n with
  | zero =>
    intro s hs
    refine Evn.succ (Evn.all fun k => ?_)
    simp only [impl_lettersOnly.f]
    rw [if_pos ((nil_iff s).mpr hs), List.eq_nil_of_length_eq_zero (l := bytesOf s) (by rw [bytesOf_length]; exact hs)]
    rfl
  | succ n ih =>
    intro s hs
    have hx := bt_drop' (s := s) (j := 0) (by omega)
    rw [List.drop_zero] at hx
    refine Evn.succ (Evn.mp (ih (s.extract 1 s.size) (by rw [ByteArray.size_extract]; omega)) (Evn.all fun k e => ?_))
    simp only [impl_lettersOnly.f]
    rw [if_neg (fun h => by have := (nil_iff s).mp h; omega), if_pos (by omega), e, bytesOf_tail, hx]
    simp only [Option.bind_some, List.all_cons, Nat.zero_add]
    unfold lowB
    rw [if_pos (show (1 : Int) ≤ (s.size : Int) by omega)]
    simp only [Int.ofNat_zero]
    by_cases h1 : bt s 0 ≥ 97
    · rw [if_pos h1]
      by_cases h2 : bt s 0 ≤ 122
      · rw [if_pos h2]
        have : (97 : Int) ≤ bt s 0 := h1
        simp [this, h2]
      · rw [if_neg h2]
        simp [h2]
    · rw [if_neg h1]
      have : ¬ (97 : Int) ≤ bt s 0 := h1
      simp [this]

theorem implKey (s : ByteArray) : Evn fun k => impl_KeyValid.f k s = some (keyB s) := by
  refine Evn.mp (implLetters s.size s rfl) (Evn.all fun k e => ?_)
  unfold impl_KeyValid.f keyB
  by_cases h1 : s.size < 1
  · rw [if_pos (by omega)]
    have : ¬ 1 ≤ s.size := by omega
    simp [this]
  · rw [if_neg (by omega)]
    have a1 : 1 ≤ s.size := by omega
    by_cases h2 : s.size > 4
    · rw [if_pos (by omega)]
      have : ¬ s.size ≤ 4 := by omega
      simp [this]
    · rw [if_neg (by omega), e]
      have a2 : s.size ≤ 4 := by omega
      simp [a1, a2]

theorem implCmd (kind : Int) (key : ByteArray) (value old : Int) : Evn fun k => impl_CommandValid.f k kind key value old = some (cmdB kind key value old) := by
  refine Evn.mp (implKey key) (Evn.all fun k e => ?_)
  unfold impl_CommandValid.f cmdB
  rw [e, nil_dec]
  rfl

theorem implSeq (x : Int) : impl_seqValid.f x = some (decide (1 ≤ x ∧ x ≤ 999)) := by
  unfold impl_seqValid.f
  by_cases h : x ≥ 1
  · rw [if_pos h]
    exact congrArg some (decide_eq_decide.mpr (by omega))
  · rw [if_neg h, decide_eq_false (by omega)]
theorem implEnt (client seq kind : Int) (key : ByteArray) (value old : Int) : Evn fun k => impl_EntryValid.f k client seq kind key value old = some (entB client seq kind key value old) := by
  refine Evn.mp (implCmd kind key value old) (Evn.all fun k e => ?_)
  unfold impl_EntryValid.f entB
  rw [implSeq]
  by_cases h1 : client ≥ 0
  · rw [if_pos h1]
    by_cases h2 : client < 4
    · rw [if_pos h2, decide_eq_true (show 0 ≤ client ∧ client ≤ 3 by omega)]
      by_cases h3 : 1 ≤ seq ∧ seq ≤ 999
      · rw [decide_eq_true h3]
        simp [e]
      · rw [decide_eq_false h3]
        simp
    · rw [if_neg h2, decide_eq_false (show ¬ (0 ≤ client ∧ client ≤ 3) by omega)]
      rfl
  · rw [if_neg h1, decide_eq_false (show ¬ (0 ≤ client ∧ client ≤ 3) by omega)]
    rfl

theorem l1In (a b c : Int) : spec_l1In.f a b c = some (decide (b ≤ a ∧ a ≤ c)) := by
  unfold spec_l1In.f
  by_cases h : a ≥ b
  · rw [if_pos h]
    simp [h]
  · rw [if_neg h]
    simp [h]


theorem specKey_loop (s : ByteArray) (hs : s.size ≤ 4) (d : Nat) : ∀ j : Nat, j + d = s.size → Evn fun k => spec_KeyValid.l0 k s (j : Int) = some (((bytesOf s).drop j).all lowB) := by
  induction d with
  | zero =>
    intro j hj
    refine Evn.succ (Evn.all fun k => ?_)
    simp only [spec_KeyValid.l0]
    rw [if_neg (by omega), List.drop_of_length_le (by rw [bytesOf_length]; omega)]
    rfl
  | succ d ih =>
    intro j hj
    refine Evn.succ (Evn.mp (ih (j + 1) (by omega)) (Evn.all fun k e => ?_))
    simp only [spec_KeyValid.l0]
    rw [if_pos (by omega), if_pos (by omega), w64 (by omega) (by omega), bt_drop' (show j < s.size by omega), show ((j : Int) + 1) = ((j + 1 : Nat) : Int) by omega, e]
    unfold lowB
    by_cases h1 : bt s (j : Int) < 97
    · rw [if_pos h1]
      have : ¬ (97 : Int) ≤ bt s (j : Int) := by omega
      simp [this]
    · rw [if_neg h1]
      have a1 : (97 : Int) ≤ bt s (j : Int) := by omega
      by_cases h2 : bt s (j : Int) > 122
      · rw [if_pos h2]
        have : ¬ bt s (j : Int) ≤ 122 := by omega
        simp [this]
      · rw [if_neg h2]
        have : bt s (j : Int) ≤ 122 := by omega
        simp [a1, this]

theorem specKey (s : ByteArray) : Evn fun k => spec_KeyValid.f k s = some (keyB s) := by
  unfold keyB
  by_cases h : 1 ≤ s.size ∧ s.size ≤ 4
  · refine Evn.mp (specKey_loop s h.2 s.size 0 (by omega)) (Evn.all fun k e => ?_)
    unfold spec_KeyValid.f
    rw [l1In, decide_eq_true (by omega)]
    simp only [Option.bind_some, if_true]
    refine Eq.trans e ?_
    simp [h.1, h.2]
  · refine Evn.all fun k => ?_
    unfold spec_KeyValid.f
    rw [l1In, decide_eq_false (by omega)]
    simp only [Option.bind_some]
    rw [if_neg (by simp)]
    by_cases h1 : 1 ≤ s.size
    · have : ¬ s.size ≤ 4 := fun h2 => h ⟨h1, h2⟩
      simp [this]
    · simp [h1]

theorem specCmd (kind : Int) (key : ByteArray) (value old : Int) : Evn fun k => spec_CommandValid.f k kind key value old = some (cmdB kind key value old) := by
  refine Evn.mp (specKey key) (Evn.all fun k e => ?_)
  unfold spec_CommandValid.f cmdB
  rw [e, nil_dec]
  simp only [Option.bind_some, Option.some.injEq]
  refine congrArg _ ?_
  unfold spec_CommandValid.rest valB
  by_cases h1 : kind = 1 ∨ kind = 3 ∨ kind = 5
  · rw [if_pos h1, if_neg (by omega), if_neg (by omega), decide_eq_true (show 1 ≤ kind ∧ kind ≤ 5 by omega), Bool.true_and]
  · rw [if_neg h1]
    by_cases h2 : kind = 2
    · rw [if_pos h2, if_pos h2]
    · rw [if_neg h2, if_neg h2]
      by_cases h4 : kind = 4
      · rw [if_pos h4, if_pos h4]
        refine congrArg _ ?_
        rw [← Bool.decide_or]
        exact decide_eq_decide.mpr (by omega)
      · rw [if_neg h4, if_neg h4, decide_eq_false (by omega), Bool.false_and]

theorem specEnt (client seq kind : Int) (key : ByteArray) (value old : Int) : Evn fun k => spec_EntryValid.f k client seq kind key value old = some (entB client seq kind key value old) := by
  refine Evn.mp (specCmd kind key value old) (Evn.all fun k e => ?_)
  unfold spec_EntryValid.f entB
  rw [l1In, l1In]
  by_cases h1 : 0 ≤ client ∧ client ≤ 3
  · rw [decide_eq_true h1]
    simp only [Option.bind_some, if_true]
    by_cases h2 : 1 ≤ seq ∧ seq ≤ 999
    · rw [decide_eq_true h2]
      simp [e]
    · rw [decide_eq_false h2]
      simp
  · rw [decide_eq_false h1]
    simp

theorem FnExactEntryValid : FnExactEntryValid.Said := by
  intro client seq kind key value old _ _ _ _ _ _
  refine Evn.some (Evn.mp (implEnt client seq kind key value old) (Evn.mp (specEnt client seq kind key value old) (Evn.all fun k e2 e1 => ?_)))
  have hs : ∃ t, laws_szEntry.f client seq kind key value old 1048576 = some t := by
    unfold laws_szEntry.f laws_szCommand.f
    by_cases h : wrap64 (1048576 - (key.size : Int)) < 0
    · rw [if_pos h]
      exact ⟨_, rfl⟩
    · rw [if_neg h]
      simp only [Option.bind_some]
      rw [if_neg h]
      exact ⟨_, rfl⟩
  obtain ⟨t, ht⟩ := hs
  unfold laws_FnExactEntryValid.f
  rw [ht]
  simp only [Option.bind_some]
  by_cases h : t < 0
  · rw [if_pos h]
  · rw [if_neg h]
    simp only [laws_toEntry.f, laws_toCommand.f, Option.bind_some, e1, e2]
    simp

end Go.Proofs.Ytdamnfkpfhoahaa.Pure
