/- Without a number no entry is valid; with the same command of client 0 a valid entry is valid; and the reference says the same. No condition beyond the row's own. -/
import Derived.Test.YtdamnfkpfhoahaaStmFnEntryValid
import Derived.Laws.BytesArg
import Derived.Lib.Strings
namespace Go.Proofs.Ytdamnfkpfhoahaa.Pure
open Go.RowKit Go.Proofs.Ytdamnfkpfhoahaa.PFnEntryValid Go.Proofs.YtdamnfkpfhoahaaW.PrintWords Go.Proofs.YtdamnfkpfhoahaaW.PrintLast
set_option linter.unusedVariables false
set_option linter.unusedSimpArgs false

/-! Eventually: for all large enough numbers of rounds; small lemmas on numbers and lists. -/
def Evn (P : Nat → Prop) : Prop := ∃ K, ∀ k, K ≤ k → P k

theorem Evn.all {P : Nat → Prop} (h : ∀ k, P k) : Evn P := ⟨0, fun k _ => h k⟩

theorem Evn.mp {P Q : Nat → Prop} (hp : Evn P) (hq : Evn fun k => P k → Q k) : Evn Q := by
  obtain ⟨K1, h1⟩ := hp
  obtain ⟨K2, h2⟩ := hq
  exact ⟨max K1 K2, fun k hk => h2 k (by omega) (h1 k (by omega))⟩

theorem Evn.succ {P : Nat → Prop} (h : Evn fun k => P (k + 1)) : Evn P := by
  obtain ⟨K, h⟩ := h
  refine ⟨K + 1, fun k hk => ?_⟩
  obtain ⟨m, rfl⟩ : ∃ m, k = m + 1 := ⟨k - 1, by omega⟩
  exact h m (by omega)

theorem Evn.some {P : Nat → Prop} (h : Evn P) : ∃ k, P k := by
  obtain ⟨K, h⟩ := h
  exact ⟨K, h K (Nat.le_refl K)⟩

theorem w64 {x : Int} (h0 : -9223372036854775808 ≤ x) (h1 : x ≤ 9223372036854775807) : wrap64 x = x := by
  unfold wrap64
  omega

theorem rd_drop {xs : List Int} {j : Nat} (h : j < xs.length) : xs.drop j = rd xs (j : Int) :: xs.drop (j + 1) := by
  rw [List.drop_eq_getElem_cons h]
  simp [rd, List.getD_eq_getElem?_getD, List.getElem?_eq_getElem h]

theorem rd_nat {xs : List Int} {j : Nat} (h : j < xs.length) : rd xs (j : Int) = xs[j] := by
  simp [rd, List.getD_eq_getElem?_getD, List.getElem?_eq_getElem h]

theorem wf64 {x : Int} (h : (Lit.int .i64 x).wf = true) : -9223372036854775808 ≤ x ∧ x ≤ 9223372036854775807 := by
  have h' : (decide (IntKind.i64.min ≤ x) && decide (x ≤ IntKind.i64.max)) = true := h
  rw [Bool.and_eq_true, decide_eq_true_eq, decide_eq_true_eq] at h'
  exact h'

/-! Strings and their bytes. -/
theorem str_nil : strOfNums [] = (⟨#[]⟩ : ByteArray) := rfl
theorem ba_ext {a b : ByteArray} (h : a.data.toList = b.data.toList) : a = b := by
  cases a; cases b; simp only [ByteArray.mk.injEq]; exact Array.toList_inj.mp h
theorem ba_append (a b : ByteArray) : (a ++ b).data.toList = a.data.toList ++ b.data.toList := by
  rw [ByteArray.data_append, Array.toList_append]
theorem str_append (xs ys : List Int) : strOfNums (xs ++ ys) = strOfNums xs ++ strOfNums ys := by
  refine ba_ext ?_
  rw [ba_append, strOfNums_data, strOfNums_data, strOfNums_data, List.map_append]
theorem str_bytes (s : ByteArray) : strOfNums (bytesOf s) = s := by
  refine ba_ext ?_
  rw [strOfNums_data, bytesOf, List.map_map]
  exact (List.map_congr_left (g := id) fun b _ => by simp).trans (List.map_id _)
theorem bytes_str {xs : List Int} (h : ∀ x ∈ xs, 0 ≤ x ∧ x ≤ 255) : bytesOf (strOfNums xs) = xs := by
  rw [bytesOf, strOfNums_data, List.map_map]
  refine (List.map_congr_left (g := id) fun x hx => ?_).trans (List.map_id _)
  have := h x hx
  simp only [Function.comp, id]
  rw [UInt8.toNat_ofNat_of_lt' (by simp [UInt8.size]; omega)]
  omega
theorem ba_toList (s : ByteArray) : s.toList = s.data.toList := Lib.toList_data s
theorem ba_toList_inj {s t : ByteArray} : s.toList = t.toList ↔ s = t := by
  refine ⟨fun h => ba_ext ?_, fun h => by rw [h]⟩
  rwa [ba_toList, ba_toList] at h
theorem bytes_byte (s : ByteArray) : ∀ x ∈ bytesOf s, 0 ≤ x ∧ x ≤ 255 := by
  intro x hx
  unfold bytesOf at hx
  obtain ⟨b, _, rfl⟩ := List.mem_map.mp hx
  have := b.toNat_lt
  omega

/-! The model of keys. -/
def lowB (x : Int) : Bool := decide (97 ≤ x) && decide (x ≤ 122)
def keyB (s : ByteArray) : Bool := decide (1 ≤ s.size) && decide (s.size ≤ 4) && (bytesOf s).all lowB
theorem bt_drop' {s : ByteArray} {j : Nat} (h : j < s.size) : (bytesOf s).drop j = bt s (j : Int) :: (bytesOf s).drop (j + 1) := by
  rw [rd_drop (by rw [bytesOf_length]; exact h), rd_bytesOf]
theorem bytesOf_tail (s : ByteArray) : bytesOf (s.extract 1 s.size) = (bytesOf s).drop 1 := by
  unfold bytesOf
  rw [← List.map_drop]
  refine congrArg _ ?_
  rw [ByteArray.data_extract, Array.toList_extract]
  rw [List.extract_eq_take_drop, List.take_of_length_le (by rw [List.length_drop, data_length]; omega)]
theorem nil_iff (s : ByteArray) : s.toList = ([] : List UInt8) ↔ s.size = 0 := by
  rw [ba_toList]
  refine ⟨fun h => ?_, fun h => ?_⟩
  · have := data_length s
    rw [h] at this
    exact this.symm
  · exact List.eq_nil_of_length_eq_zero (by rw [data_length]; exact h)

/-! The model of commands. -/
def valB (x : Int) : Bool := decide (0 ≤ x ∧ x ≤ 999)
def cmdB (kind : Int) (key : ByteArray) (value old : Int) : Bool :=
  (keyB key || (decide (kind = 5) && decide (key.size = 0))) &&
  (if kind = 2 then valB value && decide (old = 0) else if kind = 4 then valB value && (decide (old = -1) || valB old) else decide (1 ≤ kind ∧ kind ≤ 5) && (decide (value = 0) && decide (old = 0)))
theorem nil_dec (s : ByteArray) : decide (s.toList = ([] : List UInt8)) = decide (s.size = 0) := decide_eq_decide.mpr (nil_iff s)

/-! The model of entries. -/
def entB (client seq kind : Int) (key : ByteArray) (value old : Int) : Bool := decide (0 ≤ client ∧ client ≤ 3) && (decide (1 ≤ seq ∧ seq ≤ 999) && cmdB kind key value old)

theorem implLetters (n : Nat) : ∀ s : ByteArray, s.size = n → Evn fun k => impl_lettersOnly.f k s = some ((bytesOf s).all lowB) := by
  induction n with
  | zero =>
    intro s hs
    refine Evn.succ (Evn.all fun k => ?_)
    simp only [impl_lettersOnly.f]
    rw [if_pos ((nil_iff s).mpr hs), List.eq_nil_of_length_eq_zero (l := bytesOf s) (by rw [bytesOf_length]; exact hs)]
    rfl
  | succ n ih =>
    intro s hs
    have hx := bt_drop' (s := s) (j := 0) (by omega)
    rw [List.drop_zero] at hx
    refine Evn.succ (Evn.mp (ih (s.extract 1 s.size) (by rw [ByteArray.size_extract]; omega)) (Evn.all fun k e => ?_))
    simp only [impl_lettersOnly.f]
    rw [if_neg (fun h => by have := (nil_iff s).mp h; omega), if_pos (by omega), e, bytesOf_tail, hx]
    simp only [Option.bind_some, List.all_cons, Nat.zero_add]
    unfold lowB
    rw [if_pos (show (1 : Int) ≤ (s.size : Int) by omega)]
    simp only [Int.ofNat_zero]
    by_cases h1 : bt s 0 ≥ 97
    · rw [if_pos h1]
      by_cases h2 : bt s 0 ≤ 122
      · rw [if_pos h2]
        have : (97 : Int) ≤ bt s 0 := h1
        simp [this, h2]
      · rw [if_neg h2]
        simp [h2]
    · rw [if_neg h1]
      have : ¬ (97 : Int) ≤ bt s 0 := h1
      simp [this]

theorem implKey (s : ByteArray) : Evn fun k => impl_KeyValid.f k s = some (keyB s) := by
  refine Evn.mp (implLetters s.size s rfl) (Evn.all fun k e => ?_)
  unfold impl_KeyValid.f keyB
  by_cases h1 : s.size < 1
  · rw [if_pos (by omega)]
    have : ¬ 1 ≤ s.size := by omega
    simp [this]
  · rw [if_neg (by omega)]
    have a1 : 1 ≤ s.size := by omega
    by_cases h2 : s.size > 4
    · rw [if_pos (by omega)]
      have : ¬ s.size ≤ 4 := by omega
      simp [this]
    · rw [if_neg (by omega), e]
      have a2 : s.size ≤ 4 := by omega
      simp [a1, a2]

theorem implCmd (kind : Int) (key : ByteArray) (value old : Int) : Evn fun k => impl_CommandValid.f k kind key value old = some (cmdB kind key value old) := by
  refine Evn.mp (implKey key) (Evn.all fun k e => ?_)
  unfold impl_CommandValid.f cmdB
  rw [e, nil_dec]
  rfl

theorem implSeq (x : Int) : impl_seqValid.f x = some (decide (1 ≤ x ∧ x ≤ 999)) := by
  unfold impl_seqValid.f
  by_cases h : x ≥ 1
  · rw [if_pos h]
    exact congrArg some (decide_eq_decide.mpr (by omega))
  · rw [if_neg h, decide_eq_false (by omega)]
theorem implEnt (client seq kind : Int) (key : ByteArray) (value old : Int) : Evn fun k => impl_EntryValid.f k client seq kind key value old = some (entB client seq kind key value old) := by
  refine Evn.mp (implCmd kind key value old) (Evn.all fun k e => ?_)
  unfold impl_EntryValid.f entB
  rw [implSeq]
  by_cases h1 : client ≥ 0
  · rw [if_pos h1]
    by_cases h2 : client < 4
    · rw [if_pos h2, decide_eq_true (show 0 ≤ client ∧ client ≤ 3 by omega)]
      by_cases h3 : 1 ≤ seq ∧ seq ≤ 999
      · rw [decide_eq_true h3]
        simp [e]
      · rw [decide_eq_false h3]
        simp
    · rw [if_neg h2, decide_eq_false (show ¬ (0 ≤ client ∧ client ≤ 3) by omega)]
      rfl
  · rw [if_neg h1, decide_eq_false (show ¬ (0 ≤ client ∧ client ≤ 3) by omega)]
    rfl

theorem l1In (a b c : Int) : spec_l1In.f a b c = some (decide (b ≤ a ∧ a ≤ c)) := by
  unfold spec_l1In.f
  by_cases h : a ≥ b
  · rw [if_pos h]
    simp [h]
  · rw [if_neg h]
    simp [h]


theorem specKey_loop (s : ByteArray) (hs : s.size ≤ 4) (d : Nat) : ∀ j : Nat, j + d = s.size → Evn fun k => spec_KeyValid.l0 k s (j : Int) = some (((bytesOf s).drop j).all lowB) := by
  induction d with
  | zero =>
    intro j hj
    refine Evn.succ (Evn.all fun k => ?_)
    simp only [spec_KeyValid.l0]
    rw [if_neg (by omega), List.drop_of_length_le (by rw [bytesOf_length]; omega)]
    rfl
  | succ d ih =>
    intro j hj
    refine Evn.succ (Evn.mp (ih (j + 1) (by omega)) (Evn.all fun k e => ?_))
    simp only [spec_KeyValid.l0]
    rw [if_pos (by omega), if_pos (by omega), w64 (by omega) (by omega), bt_drop' (show j < s.size by omega), show ((j : Int) + 1) = ((j + 1 : Nat) : Int) by omega, e]
    unfold lowB
    by_cases h1 : bt s (j : Int) < 97
    · rw [if_pos h1]
      have : ¬ (97 : Int) ≤ bt s (j : Int) := by omega
      simp [this]
    · rw [if_neg h1]
      have a1 : (97 : Int) ≤ bt s (j : Int) := by omega
      by_cases h2 : bt s (j : Int) > 122
      · rw [if_pos h2]
        have : ¬ bt s (j : Int) ≤ 122 := by omega
        simp [this]
      · rw [if_neg h2]
        have : bt s (j : Int) ≤ 122 := by omega
        simp [a1, this]

theorem specKey (s : ByteArray) : Evn fun k => spec_KeyValid.f k s = some (keyB s) := by
  unfold keyB
  by_cases h : 1 ≤ s.size ∧ s.size ≤ 4
  · refine Evn.mp (specKey_loop s h.2 s.size 0 (by omega)) (Evn.all fun k e => ?_)
    unfold spec_KeyValid.f
    rw [l1In, decide_eq_true (by omega)]
    simp only [Option.bind_some, if_true]
    refine Eq.trans e ?_
    simp [h.1, h.2]
  · refine Evn.all fun k => ?_
    unfold spec_KeyValid.f
    rw [l1In, decide_eq_false (by omega)]
    simp only [Option.bind_some]
    rw [if_neg (by simp)]
    by_cases h1 : 1 ≤ s.size
    · have : ¬ s.size ≤ 4 := fun h2 => h ⟨h1, h2⟩
      simp [this]
    · simp [h1]

theorem specCmd (kind : Int) (key : ByteArray) (value old : Int) : Evn fun k => spec_CommandValid.f k kind key value old = some (cmdB kind key value old) := by
  refine Evn.mp (specKey key) (Evn.all fun k e => ?_)
  unfold spec_CommandValid.f cmdB
  rw [e, nil_dec]
  simp only [Option.bind_some, Option.some.injEq]
  refine congrArg _ ?_
  unfold spec_CommandValid.rest valB
  by_cases h1 : kind = 1 ∨ kind = 3 ∨ kind = 5
  · rw [if_pos h1, if_neg (by omega), if_neg (by omega), decide_eq_true (show 1 ≤ kind ∧ kind ≤ 5 by omega), Bool.true_and]
  · rw [if_neg h1]
    by_cases h2 : kind = 2
    · rw [if_pos h2, if_pos h2]
    · rw [if_neg h2, if_neg h2]
      by_cases h4 : kind = 4
      · rw [if_pos h4, if_pos h4]
        refine congrArg _ ?_
        rw [← Bool.decide_or]
        exact decide_eq_decide.mpr (by omega)
      · rw [if_neg h4, if_neg h4, decide_eq_false (by omega), Bool.false_and]

theorem specEnt (client seq kind : Int) (key : ByteArray) (value old : Int) : Evn fun k => spec_EntryValid.f k client seq kind key value old = some (entB client seq kind key value old) := by
  refine Evn.mp (specCmd kind key value old) (Evn.all fun k e => ?_)
  unfold spec_EntryValid.f entB
  rw [l1In, l1In]
  by_cases h1 : 0 ≤ client ∧ client ≤ 3
  · rw [decide_eq_true h1]
    simp only [Option.bind_some, if_true]
    by_cases h2 : 1 ≤ seq ∧ seq ≤ 999
    · rw [decide_eq_true h2]
      simp [e]
    · rw [decide_eq_false h2]
      simp
  · rw [decide_eq_false h1]
    simp

/-! The reader of a code: a pick is in its range; the place goes on by one. -/
def Code (b : List Int) : Prop := b.length ≤ 2000 ∧ ∀ x ∈ b, 0 ≤ x ∧ x ≤ 255

theorem rd_code {b : List Int} (h : Code b) (i : Int) : 0 ≤ rd b i ∧ rd b i ≤ 255 := by
  unfold rd
  rw [List.getD_eq_getElem?_getD]
  by_cases hi : i.toNat < b.length
  · rw [List.getElem?_eq_getElem hi]
    exact h.2 _ (List.getElem_mem hi)
  · rw [List.getElem?_eq_none (by omega)]
    simp

theorem xor_pos (a b : Int) (ha0 : 0 ≤ a) (ha1 : a < 4611686018427387904) (hb0 : 0 ≤ b) (hb1 : b < 4611686018427387904) : 0 ≤ Go.bits .xor .i64 a b := by
  obtain ⟨n, rfl⟩ := Int.eq_ofNat_of_zero_le ha0
  obtain ⟨m, rfl⟩ := Int.eq_ofNat_of_zero_le hb0
  have hn : n < 2 ^ 62 := by omega
  have hm : m < 2 ^ 62 := by omega
  have hx := Nat.xor_lt_two_pow hn hm
  have n64 : n % 2 ^ 64 = n := Nat.mod_eq_of_lt (by omega)
  have m64 : m % 2 ^ 64 = m := Nat.mod_eq_of_lt (by omega)
  have e : Go.bits .xor .i64 (n : Int) (m : Int) = IntKind.i64.wrap ((n ^^^ m : Nat) : Int) := by
    show IntKind.i64.wrap (((BitVec.ofInt 64 (n : Int) ^^^ BitVec.ofInt 64 (m : Int)).toNat : Nat) : Int) = _
    rw [BitVec.ofInt_natCast, BitVec.ofInt_natCast, BitVec.toNat_xor, BitVec.toNat_ofNat, BitVec.toNat_ofNat, n64, m64]
  rw [e, IntKind.wrap_i64]
  omega

theorem spec_pick (b : List Int) (hb : Code b) (p n : Int) (h0 : 0 ≤ p) (h1 : p ≤ 1099511627776) :
    ∃ r, 0 ≤ r ∧ (1 ≤ n → r < n) ∧ (n ≤ 1 → r = 0) ∧ Evn fun k => spec_l20Rd_pick.f k b p n = some (r, p + 1) := by
  have hw : wrap64 (p + 1) = p + 1 := w64 (by omega) (by omega)
  by_cases hn : n < 1
  · refine ⟨0, by omega, by omega, by omega, Evn.succ (Evn.all fun k => ?_)⟩
    unfold spec_l20Rd_pick.f
    rw [if_pos hn, hw]
    simp only [spec_l20Rd_pick.j0]
    rw [if_pos trivial]
  · by_cases hl : b.length = 0
    · refine ⟨0, by omega, by omega, by omega, Evn.succ (Evn.all fun k => ?_)⟩
      unfold spec_l20Rd_pick.f
      rw [if_neg hn, hw, hl]
      simp only [spec_l20Rd_pick.j0]
      rw [if_pos (by rfl)]
    · have hl1 : 1 ≤ (b.length : Int) := by omega
      have hle : ((b.length : Int) == 0) = false := by simpa using hl
      have e1 : wrap64 (p + 1 - 1) = p := by rw [show p + 1 - 1 = p by omega]; exact w64 (by omega) (by omega)
      by_cases hp : p < (b.length : Int)
      · have hr := rd_code hb p
        refine ⟨Int.tmod (rd b p) n, Int.tmod_nonneg n hr.1, fun h => Int.tmod_lt_of_pos _ (by omega), fun h => ?_, Evn.succ (Evn.all fun k => ?_)⟩
        · have : n = 1 := by omega
          subst this
          exact Int.tmod_one _
        · unfold spec_l20Rd_pick.f
          rw [if_neg hn, hw, hle]
          simp only [spec_l20Rd_pick.j0]
          rw [if_neg (by simp), e1, if_pos hp, if_pos h0, if_neg (by omega), w64 (x := rd b p) (by omega) (by omega)]
      · have ei : Int.tmod p (b.length : Int) = p % (b.length : Int) := Int.tmod_eq_emod_of_nonneg h0
        have i0 : 0 ≤ p % (b.length : Int) := Int.emod_nonneg _ (by omega)
        have i1 : p % (b.length : Int) < (b.length : Int) := Int.emod_lt_of_pos _ (by omega)
        have e7 : wrap64 (wrap64 (p * 7) + 3) = p * 7 + 3 := by rw [w64 (x := p * 7) (by omega) (by omega), w64 (by omega) (by omega)]
        have ej : Int.tmod (p * 7 + 3) (b.length : Int) = (p * 7 + 3) % (b.length : Int) := Int.tmod_eq_emod_of_nonneg (by omega)
        have j0 : 0 ≤ (p * 7 + 3) % (b.length : Int) := Int.emod_nonneg _ (by omega)
        have j1 : (p * 7 + 3) % (b.length : Int) < (b.length : Int) := Int.emod_lt_of_pos _ (by omega)
        have eq : Int.tdiv p (b.length : Int) = p / (b.length : Int) := Int.tdiv_eq_ediv_of_nonneg h0
        have q0 : 0 ≤ p / (b.length : Int) := Int.ediv_nonneg h0 (by omega)
        have q1 : p / (b.length : Int) ≤ p := Int.ediv_le_self _ h0
        have hu := rd_code hb (p % (b.length : Int))
        have hv := rd_code hb ((p * 7 + 3) % (b.length : Int))
        have main : ∀ u v q : Int, 0 ≤ u → u ≤ 255 → 0 ≤ v → v ≤ 255 → 0 ≤ q → q ≤ p →
            ∃ x, wrap64 ((wrap64 ((wrap64 ((wrap64 ((wrap64 u) * 131)) + (wrap64 ((wrap64 v) * 1117)))) + (wrap64 (p * 29)))) + (wrap64 ((wrap64 q) * 53))) = x ∧ 0 ≤ x ∧ x < 4611686018427387904 ∧ 0 ≤ wrap64 (Int.tdiv x 64) ∧ wrap64 (Int.tdiv x 64) < 4611686018427387904 := by
          intro u v q u0 u1 v0 v1 q0 q1
          refine ⟨u * 131 + v * 1117 + p * 29 + q * 53, ?_, by omega, by omega, ?_, ?_⟩
          · rw [w64 (x := u) (by omega) (by omega), w64 (x := v) (by omega) (by omega), w64 (x := q) (by omega) (by omega), w64 (x := u * 131) (by omega) (by omega), w64 (x := v * 1117) (by omega) (by omega), w64 (x := p * 29) (by omega) (by omega), w64 (x := q * 53) (by omega) (by omega), w64 (x := u * 131 + v * 1117) (by omega) (by omega), w64 (x := u * 131 + v * 1117 + p * 29) (by omega) (by omega), w64 (by omega) (by omega)]
          all_goals
            rw [Int.tdiv_eq_ediv_of_nonneg (by omega), w64 (by omega) (by omega)]
            omega
        obtain ⟨x, hx, x0, x1, y0, y1⟩ := main _ _ _ hu.1 hu.2 hv.1 hv.2 q0 q1
        refine ⟨Int.tmod (Go.bits .xor .i64 x (wrap64 (Int.tdiv x 64))) n, Int.tmod_nonneg n (xor_pos _ _ x0 x1 y0 y1), fun h => Int.tmod_lt_of_pos _ (by omega), fun h => ?_, Evn.succ (Evn.all fun k => ?_)⟩
        · have : n = 1 := by omega
          subst this
          exact Int.tmod_one _
        · unfold spec_l20Rd_pick.f
          rw [if_neg hn, hw, hle]
          simp only [spec_l20Rd_pick.j0]
          rw [if_neg (by simp), e1, if_neg hp, if_neg (by omega), ei, if_pos i0, if_pos i1, e7, ej, if_pos j0, if_pos j1, if_neg (by omega), eq, hx]

theorem spec_odd (b : List Int) (hb : Code b) (p n : Int) (h0 : 0 ≤ p) (h1 : p ≤ 1099511627776) (hn : n ≤ 1000000) :
    ∃ r q, p ≤ q ∧ q ≤ p + 1 ∧ (n ≤ 0 → r = false) ∧ Evn fun k => spec_l20Rd_odd.f k b p n = some (r, q) := by
  by_cases h : n > 0
  · obtain ⟨r, _, _, _, e⟩ := spec_pick b hb p n h0 h1
    refine ⟨r == wrap64 (n - 1), p + 1, by omega, by omega, by omega, Evn.mp e (Evn.all fun k e => ?_)⟩
    unfold spec_l20Rd_odd.f
    rw [if_pos h, e]
    rfl
  · refine ⟨false, p, by omega, by omega, fun _ => rfl, Evn.all fun k => ?_⟩
    unfold spec_l20Rd_odd.f
    rw [if_neg h]

theorem spec_open (l : List Int) (hl : ∀ x ∈ l, (Lit.int .u8 x).wf = true) : ∃ b, Code b ∧ spec_l20Open.f l = some (b, 0) := by
  have hx : ∀ x ∈ l, 0 ≤ x ∧ x ≤ 255 := fun x hx => by
    have h' : (decide (IntKind.u8.min ≤ x) && decide (x ≤ IntKind.u8.max)) = true := hl x hx
    rw [Bool.and_eq_true, decide_eq_true_eq, decide_eq_true_eq] at h'
    exact h'
  unfold spec_l20Open.f
  by_cases h : (l.length : Int) > 2000
  · refine ⟨l.take 2000, ⟨by rw [List.length_take]; omega, fun x hm => hx x (List.mem_of_mem_take hm)⟩, ?_⟩
    rw [if_pos h, if_pos (by omega)]
  · exact ⟨l, ⟨by omega, hx⟩, by rw [if_neg h]⟩

/-! What a reader draws: a value with what is known of it, and the place behind it, not far. -/
def Dr {α : Type} (g : Nat → Option (α × Int)) (p c : Int) (P : α → Prop) : Prop := ∃ r q, p ≤ q ∧ q ≤ p + c ∧ P r ∧ Evn fun k => g k = some (r, q)

theorem Dr.bind {α β : Type} {g : Nat → Option (α × Int)} {H : Nat → α × Int → Option (β × Int)} {p c C : Int} {P : α → Prop} {Q : β → Prop}
    (h1 : Dr g p c P) (h2 : ∀ bt : α × Int, P bt.1 → p ≤ bt.2 → bt.2 ≤ p + c → Dr (fun k => H k bt) bt.2 (C - c) Q) : Dr (fun k => (g k).bind (H k)) p C Q := by
  obtain ⟨r, q, hq0, hq1, hr, e⟩ := h1
  obtain ⟨r', q', h0, h1, hr', e'⟩ := h2 (r, q) hr hq0 hq1
  refine ⟨r', q', by simp only at h0; omega, by simp only at h1; omega, hr', Evn.mp e (Evn.mp e' (Evn.all fun k e' e => ?_))⟩
  dsimp only
  rw [e]
  exact e'

theorem Dr.pure {α : Type} {p c : Int} {P : α → Prop} {r : α} (hr : P r) (hc : 0 ≤ c) : Dr (fun _ => some (r, p)) p c P :=
  ⟨r, p, by omega, by omega, hr, Evn.all fun _ => rfl⟩

theorem Dr.ite {α : Type} {g h : Nat → Option (α × Int)} {p c : Int} {P : α → Prop} {b : Prop} [Decidable b] (h1 : b → Dr g p c P) (h2 : ¬ b → Dr h p c P) : Dr (fun k => if b then g k else h k) p c P := by
  by_cases hb : b
  · simpa [hb] using h1 hb
  · simpa [hb] using h2 hb

/-- a value that is computed on the way, by a function that draws nothing -/
theorem Dr.run {α β : Type} {g : Nat → Option α} {H : Nat → α → Option (β × Int)} {p c : Int} {Q : β → Prop} {r : α} (h1 : Evn fun k => g k = some r) (h2 : Dr (fun k => H k r) p c Q) : Dr (fun k => (g k).bind (H k)) p c Q := by
  obtain ⟨r', q', h0, h1', hr', e'⟩ := h2
  refine ⟨r', q', h0, h1', hr', Evn.mp h1 (Evn.mp e' (Evn.all fun k e' e => ?_))⟩
  dsimp only
  rw [e]
  exact e'

theorem Dr.some_bind {α β : Type} {H : Nat → α → Option (β × Int)} {p c : Int} {Q : β → Prop} {r : α} (h2 : Dr (fun k => H k r) p c Q) : Dr (fun k => (some r).bind (H k)) p c Q := h2

theorem Dr.le {α : Type} {g : Nat → Option (α × Int)} {p c C : Int} {P Q : α → Prop} (h : Dr g p c P) (hc : c ≤ C) (hp : ∀ r, P r → Q r) : Dr g p C Q := by
  obtain ⟨r, q, h0, h1, hr, e⟩ := h
  exact ⟨r, q, h0, by omega, hp r hr, e⟩

theorem Dr.congr {α : Type} {g h : Nat → Option (α × Int)} {p c : Int} {P : α → Prop} (hg : Dr h p c P) (e : ∀ k, g k = h k) : Dr g p c P := by
  obtain ⟨r, q, h0, h1, hr, e'⟩ := hg
  exact ⟨r, q, h0, h1, hr, Evn.mp e' (Evn.all fun k e' => (e k).trans e')⟩

theorem Dr.succ {α : Type} {g : Nat → Option (α × Int)} {p c : Int} {P : α → Prop} (h : Dr (fun k => g (k + 1)) p c P) : Dr g p c P := by
  obtain ⟨r, q, h0, h1, hr, e⟩ := h
  exact ⟨r, q, h0, h1, hr, Evn.succ e⟩

/-- one of a list's values, by an index that was drawn -/
theorem Dr.elt {p c : Int} {P : Int → Prop} {xs : List Int} {i : Int} (h0 : 0 ≤ i) (h1 : i < (xs.length : Int)) (hP : ∀ x ∈ xs, P x) (hc : 0 ≤ c) : Dr (fun _ => if 0 ≤ i then (if i < (xs.length : Int) then some (rd xs i, p) else none) else none) p c P := by
  refine ⟨rd xs i, p, by omega, by omega, ?_, Evn.all fun k => by rw [if_pos h0, if_pos h1]⟩
  obtain ⟨j, rfl⟩ : ∃ j : Nat, i = (j : Int) := ⟨i.toNat, by omega⟩
  rw [rd_nat (by omega)]
  exact hP _ (List.getElem_mem _)

def InPick (n r : Int) : Prop := 0 ≤ r ∧ (1 ≤ n → r < n) ∧ (n ≤ 1 → r = 0)

theorem dr_pick {b : List Int} (hb : Code b) {p : Int} (n : Int) (h0 : 0 ≤ p) (h1 : p ≤ 1099511627776) : Dr (fun k => spec_l20Rd_pick.f k b p n) p 1 (InPick n) := by
  obtain ⟨r, a, c, d, e⟩ := spec_pick b hb p n h0 h1
  exact ⟨r, p + 1, by omega, by omega, ⟨a, c, d⟩, e⟩

theorem dr_odd {b : List Int} (hb : Code b) {p : Int} (n : Int) (h0 : 0 ≤ p) (h1 : p ≤ 1099511627776) (hn : n ≤ 1000000) : Dr (fun k => spec_l20Rd_odd.f k b p n) p 1 (fun r => n ≤ 0 → r = false) := by
  obtain ⟨r, q, a, c, d, e⟩ := spec_odd b hb p n h0 h1 hn
  exact ⟨r, q, a, c, d, e⟩

/-- What is drawn at the end: no place behind it. -/
def Drw {α : Type} (g : Nat → Option α) (P : α → Prop) : Prop := ∃ r, P r ∧ Evn fun k => g k = some r

theorem Drw.bind {α β : Type} {g : Nat → Option (α × Int)} {H : Nat → α × Int → Option β} {p c : Int} {P : α → Prop} {Q : β → Prop}
    (h1 : Dr g p c P) (h2 : ∀ bt : α × Int, P bt.1 → p ≤ bt.2 → bt.2 ≤ p + c → Drw (fun k => H k bt) Q) : Drw (fun k => (g k).bind (H k)) Q := by
  obtain ⟨r, q, hq0, hq1, hr, e⟩ := h1
  obtain ⟨r', hr', e'⟩ := h2 (r, q) hr hq0 hq1
  refine ⟨r', hr', Evn.mp e (Evn.mp e' (Evn.all fun k e' e => ?_))⟩
  dsimp only
  rw [e]
  exact e'

theorem Drw.pure {α : Type} {P : α → Prop} {r : α} (hr : P r) : Drw (fun _ => some r) P := ⟨r, hr, Evn.all fun _ => rfl⟩

theorem Drw.ite {α : Type} {g h : Nat → Option α} {P : α → Prop} {b : Prop} [Decidable b] (h1 : b → Drw g P) (h2 : ¬ b → Drw h P) : Drw (fun k => if b then g k else h k) P := by
  by_cases hb : b
  · simpa [hb] using h1 hb
  · simpa [hb] using h2 hb

theorem Drw.run {α β : Type} {g : Nat → Option α} {H : Nat → α → Option β} {Q : β → Prop} {r : α} (h1 : Evn fun k => g k = some r) (h2 : Drw (fun k => H k r) Q) : Drw (fun k => (g k).bind (H k)) Q := by
  obtain ⟨r', hr', e'⟩ := h2
  refine ⟨r', hr', Evn.mp h1 (Evn.mp e' (Evn.all fun k e' e => ?_))⟩
  dsimp only
  rw [e]
  exact e'

theorem Drw.drw {α β : Type} {g : Nat → Option α} {H : Nat → α → Option β} {P : α → Prop} {Q : β → Prop} (h1 : Drw g P) (h2 : ∀ r, P r → Drw (fun k => H k r) Q) : Drw (fun k => (g k).bind (H k)) Q := by
  obtain ⟨r, hr, e⟩ := h1
  exact Drw.run e (h2 r hr)

theorem Drw.some_bind {α β : Type} {H : Nat → α → Option β} {Q : β → Prop} {r : α} (h2 : Drw (fun k => H k r) Q) : Drw (fun k => (some r).bind (H k)) Q := h2

theorem Drw.congr {α : Type} {g h : Nat → Option α} {P : α → Prop} (hg : Drw h P) (e : ∀ k, g k = h k) : Drw g P := by
  obtain ⟨r, hr, e'⟩ := hg
  exact ⟨r, hr, Evn.mp e' (Evn.all fun k e' => (e k).trans e')⟩

theorem Drw.le {α : Type} {g : Nat → Option α} {P Q : α → Prop} (h : Drw g P) (hp : ∀ r, P r → Q r) : Drw g Q := by
  obtain ⟨r, hr, e⟩ := h
  exact ⟨r, hp r hr, e⟩

/-! The same where the place lies deeper in what is drawn. -/
def Dp {τ : Type} (pl : τ → Int) (g : Nat → Option τ) (p c : Int) (P : τ → Prop) : Prop := ∃ r, p ≤ pl r ∧ pl r ≤ p + c ∧ P r ∧ Evn fun k => g k = some r

theorem Dr.bindP {α τ : Type} {pl : τ → Int} {g : Nat → Option (α × Int)} {H : Nat → α × Int → Option τ} {p c C : Int} {P : α → Prop} {Q : τ → Prop}
    (h1 : Dr g p c P) (h2 : ∀ bt : α × Int, P bt.1 → p ≤ bt.2 → bt.2 ≤ p + c → Dp pl (fun k => H k bt) bt.2 (C - c) Q) : Dp pl (fun k => (g k).bind (H k)) p C Q := by
  obtain ⟨r, q, hq0, hq1, hr, e⟩ := h1
  obtain ⟨r', h0, h1, hr', e'⟩ := h2 (r, q) hr hq0 hq1
  refine ⟨r', by simp only at h0; omega, by simp only at h1; omega, hr', Evn.mp e (Evn.mp e' (Evn.all fun k e' e => ?_))⟩
  dsimp only
  rw [e]
  exact e'

theorem Dp.bind {σ τ : Type} {pl : σ → Int} {pl' : τ → Int} {g : Nat → Option σ} {H : Nat → σ → Option τ} {p c C : Int} {P : σ → Prop} {Q : τ → Prop}
    (h1 : Dp pl g p c P) (h2 : ∀ r : σ, P r → p ≤ pl r → pl r ≤ p + c → Dp pl' (fun k => H k r) (pl r) (C - c) Q) : Dp pl' (fun k => (g k).bind (H k)) p C Q := by
  obtain ⟨r, hq0, hq1, hr, e⟩ := h1
  obtain ⟨r', h0, h1, hr', e'⟩ := h2 r hr hq0 hq1
  refine ⟨r', by omega, by omega, hr', Evn.mp e (Evn.mp e' (Evn.all fun k e' e => ?_))⟩
  dsimp only
  rw [e]
  exact e'

theorem Dp.bindR {σ β : Type} {pl : σ → Int} {g : Nat → Option σ} {H : Nat → σ → Option (β × Int)} {p c C : Int} {P : σ → Prop} {Q : β → Prop}
    (h1 : Dp pl g p c P) (h2 : ∀ r : σ, P r → p ≤ pl r → pl r ≤ p + c → Dr (fun k => H k r) (pl r) (C - c) Q) : Dr (fun k => (g k).bind (H k)) p C Q := by
  obtain ⟨r, hq0, hq1, hr, e⟩ := h1
  obtain ⟨r', q', h0, h1, hr', e'⟩ := h2 r hr hq0 hq1
  refine ⟨r', q', by omega, by omega, hr', Evn.mp e (Evn.mp e' (Evn.all fun k e' e => ?_))⟩
  dsimp only
  rw [e]
  exact e'

theorem Dp.pure {τ : Type} {pl : τ → Int} {p c : Int} {P : τ → Prop} {r : τ} (hp : pl r = p) (hr : P r) (hc : 0 ≤ c) : Dp pl (fun _ => some r) p c P :=
  ⟨r, by omega, by omega, hr, Evn.all fun _ => rfl⟩

theorem Dp.ite {τ : Type} {pl : τ → Int} {g h : Nat → Option τ} {p c : Int} {P : τ → Prop} {b : Prop} [Decidable b] (h1 : b → Dp pl g p c P) (h2 : ¬ b → Dp pl h p c P) : Dp pl (fun k => if b then g k else h k) p c P := by
  by_cases hb : b
  · simpa [hb] using h1 hb
  · simpa [hb] using h2 hb

theorem Dp.run {α τ : Type} {pl : τ → Int} {g : Nat → Option α} {H : Nat → α → Option τ} {p c : Int} {Q : τ → Prop} {r : α} (h1 : Evn fun k => g k = some r) (h2 : Dp pl (fun k => H k r) p c Q) : Dp pl (fun k => (g k).bind (H k)) p c Q := by
  obtain ⟨r', h0, h1', hr', e'⟩ := h2
  refine ⟨r', h0, h1', hr', Evn.mp h1 (Evn.mp e' (Evn.all fun k e' e => ?_))⟩
  dsimp only
  rw [e]
  exact e'

theorem Dp.some_bind {α τ : Type} {pl : τ → Int} {H : Nat → α → Option τ} {p c : Int} {Q : τ → Prop} {r : α} (h2 : Dp pl (fun k => H k r) p c Q) : Dp pl (fun k => (some r).bind (H k)) p c Q := h2

theorem Dp.le {τ : Type} {pl : τ → Int} {g : Nat → Option τ} {p c C : Int} {P Q : τ → Prop} (h : Dp pl g p c P) (hc : c ≤ C) (hp : ∀ r, P r → Q r) : Dp pl g p C Q := by
  obtain ⟨r, h0, h1, hr, e⟩ := h
  exact ⟨r, h0, by omega, hp r hr, e⟩

theorem Dp.congr {τ : Type} {pl : τ → Int} {g h : Nat → Option τ} {p c : Int} {P : τ → Prop} (hg : Dp pl h p c P) (e : ∀ k, g k = h k) : Dp pl g p c P := by
  obtain ⟨r, h0, h1, hr, e'⟩ := hg
  exact ⟨r, h0, h1, hr, Evn.mp e' (Evn.all fun k e' => (e k).trans e')⟩

theorem Dp.succ {τ : Type} {pl : τ → Int} {g : Nat → Option τ} {p c : Int} {P : τ → Prop} (h : Dp pl (fun k => g (k + 1)) p c P) : Dp pl g p c P := by
  obtain ⟨r, h0, h1, hr, e⟩ := h
  exact ⟨r, h0, h1, hr, Evn.succ e⟩

theorem Drw.bindP {σ β : Type} {pl : σ → Int} {g : Nat → Option σ} {H : Nat → σ → Option β} {p c : Int} {P : σ → Prop} {Q : β → Prop}
    (h1 : Dp pl g p c P) (h2 : ∀ r : σ, P r → p ≤ pl r → pl r ≤ p + c → Drw (fun k => H k r) Q) : Drw (fun k => (g k).bind (H k)) Q := by
  obtain ⟨r, hq0, hq1, hr, e⟩ := h1
  obtain ⟨r', hr', e'⟩ := h2 r hr hq0 hq1
  refine ⟨r', hr', Evn.mp e (Evn.mp e' (Evn.all fun k e' e => ?_))⟩
  dsimp only
  rw [e]
  exact e'

theorem rdOf_mem {α : Type} (d : α) {xs : List α} {i : Int} (h0 : 0 ≤ i) (h1 : i < (xs.length : Int)) : rdOf d xs i ∈ xs := by
  obtain ⟨j, rfl⟩ : ∃ j : Nat, i = (j : Int) := ⟨i.toNat, by omega⟩
  have hj : j < xs.length := by omega
  unfold rdOf
  rw [Int.toNat_natCast, List.getD_eq_getElem?_getD, List.getElem?_eq_getElem hj]
  exact List.getElem_mem hj

/-- one of a list's values, by an index that was drawn -/
theorem Dr.eltOf {α : Type} (d : α) {p c : Int} {P : α → Prop} {xs : List α} {i : Int} (h0 : 0 ≤ i) (h1 : i < (xs.length : Int)) (hP : ∀ x ∈ xs, P x) (hc : 0 ≤ c) :
    Dr (fun _ => if 0 ≤ i then (if i < (xs.length : Int) then some (rdOf d xs i, p) else none) else none) p c P :=
  ⟨rdOf d xs i, p, by omega, by omega, hP _ (rdOf_mem d h0 h1), Evn.all fun k => by rw [if_pos h0, if_pos h1]⟩

theorem dr_keyl {b : List Int} (hb : Code b) (m : Nat) : ∀ (s : ByteArray) (p : Int), 0 ≤ p → p + (m : Int) ≤ 1099511627776 → s.size + m ≤ 4 → (bytesOf s).all lowB = true →
    Dr (fun k => spec_l20Key.l0 k s (m : Int) b p) p (m : Int) (fun r => r.size = s.size + m ∧ (bytesOf r).all lowB = true) := by
  induction m with
  | zero =>
    intro s p h0 h1 hs hl
    refine Dr.succ (Dr.congr ?_ fun k => spec_l20Key.l0.eq_2 ..)
    exact Dr.ite (fun h => absurd h (by omega)) fun _ => Dr.pure ⟨by omega, hl⟩ (by omega)
  | succ m ih =>
    intro s p h0 h1 hs hl
    refine Dr.succ (Dr.congr ?_ fun k => spec_l20Key.l0.eq_2 ..)
    refine Dr.ite (fun _ => ?_) fun h => absurd (show ((m + 1 : Nat) : Int) > 0 by omega) h
    refine Dr.bind (dr_pick hb 4 (by omega) (by omega)) fun bt hr _ _ => Dr.some_bind (Dr.ite (fun _ => ?_) fun h => absurd (show s.size + (strOfNums [wrap64 (97 + bt.1) % 256]).size ≤ 9223372036854775807 by rw [strOfNums_size]; simp only [List.length_cons, List.length_nil]; omega) h)
    have hr0 := hr.1
    have hr1 := hr.2.1 (by omega)
    have hw : wrap64 (97 + bt.1) % 256 = 97 + bt.1 := by rw [w64 (by omega) (by omega)]; omega
    rw [hw, show wrap64 (((m + 1 : Nat) : Int) - 1) = (m : Int) by rw [w64 (by omega) (by omega)]; omega]
    have hsz : (s ++ strOfNums [97 + bt.1]).size = s.size + 1 := by rw [ByteArray.size_append, strOfNums_size]; rfl
    have hbs : bytesOf (s ++ strOfNums [97 + bt.1]) = bytesOf s ++ [97 + bt.1] := by
      rw [show bytesOf (s ++ strOfNums [97 + bt.1]) = bytesOf s ++ bytesOf (strOfNums [97 + bt.1]) by unfold bytesOf; rw [ba_append, List.map_append], bytes_str (fun x hx => by simp at hx; omega)]
    refine Dr.le (ih _ bt.2 (by omega) (by omega) (by omega) ?_) (by omega) fun r hr => ⟨by rw [hr.1, hsz]; omega, hr.2⟩
    rw [hbs, List.all_append, hl]
    simp only [List.all_cons, List.all_nil, lowB, Bool.true_and, Bool.and_true]
    rw [decide_eq_true (by omega), decide_eq_true (by omega)]
    rfl

theorem dr_key {b : List Int} (hb : Code b) {p : Int} (n : Int) (h0 : 0 ≤ p) (h1 : p ≤ 1099511000000) (hn : n ≤ 1000000) :
    Dr (fun k => spec_l20Key.f k b p n) p 6 (fun s => s.size ≤ 5 ∧ (n ≤ 0 → keyB s = true)) := by
  unfold spec_l20Key.f
  refine Dr.bind (dr_odd hb n (by omega) (by omega) hn) fun bt ho _ _ => Dr.ite (fun ht => ?_) (fun _ => ?_)
  · refine Dr.some_bind (Dr.bind (dr_pick hb 6 (by omega) (by omega)) fun bt2 hr _ _ => Dr.eltOf _ hr.1 (hr.2.1 (by omega)) (fun x hx => ⟨?_, fun hn0 => ?_⟩) (by omega))
    · simp only [List.mem_cons, List.not_mem_nil, or_false] at hx
      rcases hx with rfl | rfl | rfl | rfl | rfl | rfl <;> decide
    · rw [ho hn0] at ht
      cases ht
  · refine Dr.bind (dr_pick hb 12 (by omega) (by omega)) fun bt2 _ _ _ => Dr.ite (fun _ => ?_) (fun _ => ?_)
    · refine Dr.some_bind (Dr.bind (dr_pick hb 5 (by omega) (by omega)) fun bt3 hr _ _ => Dr.eltOf _ hr.1 (hr.2.1 (by omega)) (fun x hx => ?_) (by omega))
      simp only [List.mem_cons, List.not_mem_nil, or_false] at hx
      rcases hx with rfl | rfl | rfl | rfl | rfl <;> exact ⟨by decide, fun _ => by decide +kernel⟩
    · refine Dr.bind (dr_pick hb 2 (by omega) (by omega)) fun bt3 hr _ _ => ?_
      have hr0 := hr.1
      have hr1 := hr.2.1 (by omega)
      obtain ⟨m, hm⟩ : ∃ m : Nat, wrap64 (1 + bt3.1) = (m : Int) := ⟨(1 + bt3.1).toNat, by rw [w64 (by omega) (by omega)]; omega⟩
      rw [hm]
      rw [w64 (by omega) (by omega)] at hm
      refine Dr.le (dr_keyl hb m ⟨#[]⟩ bt3.2 (by omega) (by omega) (by have : (⟨#[]⟩ : ByteArray).size = 0 := rfl; omega) rfl) (by omega) fun r hr => ?_
      have h00 : (⟨#[]⟩ : ByteArray).size = 0 := rfl
      refine ⟨by omega, fun _ => ?_⟩
      unfold keyB
      rw [hr.2, decide_eq_true (by omega), decide_eq_true (by omega)]
      rfl

theorem dr_value {b : List Int} (hb : Code b) {p : Int} (n : Int) (h0 : 0 ≤ p) (h1 : p ≤ 1099511000000) (hn : n ≤ 1000000) :
    Dr (fun k => spec_l20Value.f k b p n) p 3 (fun v => -1 ≤ v ∧ v ≤ 1000 ∧ (n ≤ 0 → 0 ≤ v ∧ v ≤ 999)) := by
  unfold spec_l20Value.f
  refine Dr.bind (dr_odd hb n (by omega) (by omega) hn) fun bt ho _ _ => Dr.ite (fun ht => ?_) (fun _ => ?_)
  · refine Dr.some_bind (Dr.bind (dr_pick hb 2 (by omega) (by omega)) fun bt2 hr _ _ => Dr.elt hr.1 (hr.2.1 (by omega)) (fun x hx => ?_) (by omega))
    simp only [List.mem_cons, List.not_mem_nil, or_false] at hx
    refine ⟨by omega, by omega, fun hn0 => ?_⟩
    rw [ho hn0] at ht
    cases ht
  · refine Dr.bind (dr_pick hb 20 (by omega) (by omega)) fun bt2 hr2 _ _ => Dr.some_bind (Dr.bind (dr_pick hb 9 (by omega) (by omega)) fun bt3 hr _ _ => ?_)
    have a := hr.1
    have c := hr.2.1 (by omega)
    have d := hr2.1
    have e := hr2.2.1 (by omega)
    refine Dr.elt ?_ ?_ (fun x hx => ?_) (by omega)
    · rw [Int.tdiv_eq_ediv_of_nonneg a, w64 (by omega) (by omega)]; omega
    · rw [Int.tdiv_eq_ediv_of_nonneg a, w64 (by omega) (by omega)]; simp only [List.length_cons, List.length_nil]; omega
    · simp only [List.mem_cons, List.not_mem_nil, or_false] at hx
      refine ⟨by omega, by omega, fun _ => by omega⟩

def cmdPl (r : Int × ByteArray × Int × Int × Int) : Int := r.2.2.2.2
def cmdOk (r : Int × ByteArray × Int × Int × Int) : Prop := cmdB r.1 r.2.1 r.2.2.1 r.2.2.2.1 = true
theorem cmdB_mk {kind value old : Int} {key : ByteArray} (hk : keyB key = true) (h : (kind = 1 ∨ kind = 3 ∨ kind = 5) ∧ value = 0 ∧ old = 0 ∨ kind = 2 ∧ (0 ≤ value ∧ value ≤ 999) ∧ old = 0 ∨ kind = 4 ∧ (0 ≤ value ∧ value ≤ 999) ∧ (-1 ≤ old ∧ old ≤ 999)) : cmdB kind key value old = true := by
  unfold cmdB valB
  rw [hk, Bool.true_or, Bool.true_and]
  rcases h with ⟨h, rfl, rfl⟩ | ⟨rfl, h, rfl⟩ | ⟨rfl, h, ho⟩
  · rw [if_neg (by omega), if_neg (by omega), decide_eq_true (by omega)]
    rfl
  · rw [if_pos rfl, decide_eq_true h]
    rfl
  · rw [if_neg (by omega), if_pos rfl, decide_eq_true h, ← Bool.decide_or, decide_eq_true (by omega)]
    rfl

theorem dr_cmdj {b : List Int} (hb : Code b) {p : Int} (key : ByteArray) (h0 : 0 ≤ p) (h1 : p ≤ 1099510500000) (hs : key.size ≤ 5) :
    Dp cmdPl (fun k => spec_l20Cmd.j0 k key b p) p 5 (fun r => r.2.1.size ≤ 5 ∧ (keyB key = true → cmdOk r ∧ r.1 ≠ 5)) := by
  refine Dp.succ (Dp.congr ?_ fun k => spec_l20Cmd.j0.eq_2 ..)
  refine Dr.bindP (dr_pick hb 8 (by omega) (by omega)) fun bt _ _ _ => Dp.ite (fun _ => ?_) fun _ => Dp.ite (fun _ => ?_) fun _ => Dp.ite (fun _ => ?_) fun _ => ?_
  · exact Dp.pure rfl ⟨hs, fun hk => ⟨cmdB_mk hk (.inl ⟨.inl rfl, rfl, rfl⟩), by simp⟩⟩ (by omega)
  · exact Dp.pure rfl ⟨hs, fun hk => ⟨cmdB_mk hk (.inl ⟨.inr (.inl rfl), rfl, rfl⟩), by simp⟩⟩ (by omega)
  · refine Dr.bindP (dr_pick hb 5 (by omega) (by omega)) fun bt2 hr2 _ _ => Dr.bindP (dr_pick hb 5 (by omega) (by omega)) fun bt3 hr3 _ _ => ?_
    have a := hr2.1
    have c := hr2.2.1 (by omega)
    have d := hr3.1
    have e := hr3.2.1 (by omega)
    refine Dp.pure rfl ⟨hs, fun hk => ⟨cmdB_mk hk (.inr (.inr ⟨rfl, by dsimp only; omega, ?_⟩)), by simp⟩⟩ (by omega)
    dsimp only
    rw [w64 (by omega) (by omega)]
    omega
  · refine Dr.bindP (dr_value hb 0 (by omega) (by omega) (by omega)) fun bt2 hr2 _ _ => ?_
    have a := hr2.2.2 (by omega)
    refine Dp.pure rfl ⟨hs, fun hk => ⟨cmdB_mk hk (.inr (.inl ⟨rfl, ?_, rfl⟩)), by simp⟩⟩ (by omega)
    dsimp only
    rw [Int.tmod_eq_emod_of_nonneg a.1]
    omega

theorem dr_cmd {b : List Int} (hb : Code b) {p : Int} (n : Int) (h0 : 0 ≤ p) (h1 : p ≤ 1099510000000) (hn : n ≤ 1000000) :
    Dp cmdPl (fun k => spec_l20Cmd.f k b p n) p 20 (fun r => r.2.1.size ≤ 5 ∧ (n ≤ 0 → cmdOk r ∧ r.1 ≠ 5)) := by
  unfold spec_l20Cmd.f
  refine Dr.bindP (dr_odd hb n (by omega) (by omega) hn) fun bt ho _ _ => Dp.ite (fun ht => ?_) (fun _ => ?_)
  · refine Dp.some_bind (Dr.bindP (dr_pick hb 10 (by omega) (by omega)) fun bt2 hr _ _ => ?_)
    refine Dp.ite (fun h0 => Dp.ite (fun h1 => Dp.pure rfl ⟨?_, fun hn0 => ?_⟩ (by omega)) fun h => absurd (hr.2.1 (by omega)) h) fun h => absurd hr.1 h
    · have hm : ∀ x : S26, x ∈ ([(⟨0, (⟨#[]⟩ : ByteArray), 0, 0⟩ : S26), (⟨1, (⟨#[]⟩ : ByteArray), 0, 0⟩ : S26), (⟨1, (⟨#[98]⟩ : ByteArray), 1, 0⟩ : S26), (⟨2, (⟨#[98]⟩ : ByteArray), 1000, 0⟩ : S26), (⟨2, (⟨#[98]⟩ : ByteArray), 0, 1⟩ : S26), (⟨4, (⟨#[98]⟩ : ByteArray), 0, (-2)⟩ : S26), (⟨4, (⟨#[98]⟩ : ByteArray), (-1), 0⟩ : S26), (⟨6, (⟨#[98]⟩ : ByteArray), 0, 0⟩ : S26), (⟨3, (⟨#[65]⟩ : ByteArray), 0, 0⟩ : S26), (⟨5, (⟨#[98, 49]⟩ : ByteArray), 0, 0⟩ : S26)] : List S26) → x.f1.size ≤ 5 := fun x hx => by
        simp only [List.mem_cons, List.not_mem_nil, or_false] at hx
        rcases hx with rfl | rfl | rfl | rfl | rfl | rfl | rfl | rfl | rfl | rfl <;> decide
      exact hm _ (rdOf_mem z26 h0 h1)
    · rw [ho hn0] at ht
      cases ht
  · refine Dr.bindP (dr_key hb 0 (by omega) (by omega) (by omega)) fun bt2 hk _ _ => Dr.bindP (dr_pick hb 2 (by omega) (by omega)) fun bt3 _ _ _ => Dp.ite (fun _ => ?_) (fun _ => ?_)
    · refine Dp.some_bind (Dr.bindP (dr_pick hb 4 (by omega) (by omega)) fun bt4 hr _ _ => ?_)
      refine Dp.ite (fun h0 => Dp.ite (fun h1 => ?_) fun h => absurd (hr.2.1 (by omega)) h) fun h => absurd hr.1 h
      have hm : ∀ x : ByteArray, x ∈ ([(⟨#[98]⟩ : ByteArray), (⟨#[99]⟩ : ByteArray), (⟨#[100]⟩ : ByteArray), (⟨#[109]⟩ : ByteArray)] : List ByteArray) → x.size ≤ 5 ∧ keyB x = true := fun x hx => by
        simp only [List.mem_cons, List.not_mem_nil, or_false] at hx
        rcases hx with rfl | rfl | rfl | rfl <;> exact ⟨by decide, by decide +kernel⟩
      have hx := hm _ (rdOf_mem ByteArray.empty h0 h1)
      exact Dp.le (dr_cmdj hb _ (by omega) (by omega) hx.1) (by omega) fun r hr => ⟨hr.1, fun _ => hr.2 hx.2⟩
    · exact Dp.le (dr_cmdj hb _ (by omega) (by omega) hk.1) (by omega) fun r hr => ⟨hr.1, fun _ => hr.2 (hk.2 (by omega))⟩

theorem dr_any {b : List Int} (hb : Code b) {p : Int} (n : Int) (h0 : 0 ≤ p) (h1 : p ≤ 1099509000000) (hn : n ≤ 1000000) :
    Dp cmdPl (fun k => spec_l20Any.f k b p n) p 40 (fun r => r.2.1.size ≤ 5 ∧ (n ≤ 0 → cmdOk r)) := by
  unfold spec_l20Any.f
  refine Dp.bind (dr_cmd hb n (by omega) (by omega) hn) fun r hr _ _ => ?_
  have hpl : cmdPl r = r.2.2.2.2 := rfl
  refine Dr.bindP (dr_pick hb 5 (by omega) (by omega)) fun bt _ _ _ => Dp.ite (fun _ => ?_) (fun _ => ?_)
  · refine Dr.bindP (dr_key hb 0 (by omega) (by omega) (by omega)) fun bt2 hk _ _ => Dp.some_bind (Dr.bindP (dr_pick hb 4 (by omega) (by omega)) fun bt3 hq _ _ => ?_)
    refine Dp.ite (fun h0 => Dp.ite (fun h1 => ?_) fun h => absurd (hq.2.1 (by omega)) h) fun h => absurd hq.1 h
    have hm : ∀ x : ByteArray, x ∈ ([(⟨#[]⟩ : ByteArray), (⟨#[98]⟩ : ByteArray), (⟨#[99]⟩ : ByteArray), bt2.1] : List ByteArray) → x.size ≤ 5 ∧ cmdB 5 x 0 0 = true := fun x hx => by
      simp only [List.mem_cons, List.not_mem_nil, or_false] at hx
      rcases hx with rfl | rfl | rfl | rfl
      · exact ⟨by decide, by decide +kernel⟩
      · exact ⟨by decide, by decide +kernel⟩
      · exact ⟨by decide, by decide +kernel⟩
      · exact ⟨hk.1, cmdB_mk (hk.2 (by omega)) (.inl ⟨.inr (.inr rfl), rfl, rfl⟩)⟩
    have hx := hm _ (rdOf_mem ByteArray.empty h0 h1)
    exact Dp.pure rfl ⟨hx.1, fun _ => hx.2⟩ (by omega)
  · exact Dp.pure rfl ⟨hr.1, fun hn0 => (hr.2 hn0).1⟩ (by omega)

/-! A drawn entry. -/
def entPl (r : Int × Int × Int × ByteArray × Int × Int × Int) : Int := r.2.2.2.2.2.2
def entR (r : Int × Int × Int × ByteArray × Int × Int × Int) : Bool := entB r.1 r.2.1 r.2.2.1 r.2.2.2.1 r.2.2.2.2.1 r.2.2.2.2.2.1
theorem dr_entry {b : List Int} (hb : Code b) {p : Int} (n : Int) (h0 : 0 ≤ p) (h1 : p ≤ 1099508000000) (hn : n ≤ 1000000) :
    Dp entPl (fun k => spec_l20Entry.f k b p n) p 60 (fun r => r.2.2.2.1.size ≤ 5 ∧ (n ≤ 0 → entR r = true)) := by
  unfold spec_l20Entry.f
  refine Dr.bindP (dr_pick hb 4 (by omega) (by omega)) fun b1 h1 _ _ => Dr.bindP (dr_pick hb 6 (by omega) (by omega)) fun b2 h2 _ _ => Dp.bind (dr_any hb 0 (by omega) (by omega) (by omega)) fun c hc _ _ => ?_
  have hpl : cmdPl c = c.2.2.2.2 := rfl
  refine Dr.bindP (dr_odd hb n (by omega) (by omega) hn) fun b4 ho _ _ => Dp.ite (fun ht => ?_) (fun _ => ?_)
  · refine Dr.bindP (dr_pick hb 6 (by omega) (by omega)) fun b5 h5 _ _ => ?_
    have i0 := h5.1
    have i1 := h5.2.1 (by omega)
    have hlen : ((spec_l20Entry.odds ⟨c.1, c.2.1, c.2.2.1, c.2.2.2.1⟩).length : Int) = 6 := rfl
    unfold spec_l20Entry.one
    refine Dp.congr (h := fun _ => some _) ?_ (fun k => if_pos ⟨i0, by omega⟩)
    refine Dp.pure rfl ⟨?_, fun hn0 => ?_⟩ (by omega)
    · have hm : ∀ x : S34, x ∈ spec_l20Entry.odds ⟨c.1, c.2.1, c.2.2.1, c.2.2.2.1⟩ → x.f2.f1.size ≤ 5 := fun x hx => by
        simp only [spec_l20Entry.odds, List.mem_cons, List.not_mem_nil, or_false] at hx
        rcases hx with rfl | rfl | rfl | rfl | rfl | rfl <;> first | exact hc.1 | decide
      exact hm _ (rdOf_mem z34 i0 (by omega))
    · rw [ho hn0] at ht
      cases ht
  · refine Dp.pure rfl ⟨hc.1, fun _ => ?_⟩ (by omega)
    have a := h1.1
    have a' := h1.2.1 (by omega)
    have d := h2.1
    have d' := h2.2.1 (by omega)
    have e := hc.2 (by omega)
    unfold entR entB
    dsimp only
    rw [w64 (by omega) (by omega), decide_eq_true (show 0 ≤ b1.1 ∧ b1.1 ≤ 3 by omega), decide_eq_true (show 1 ≤ 1 + b2.1 ∧ 1 + b2.1 ≤ 999 by omega)]
    exact e

/-- The fixed answer. -/
theorem alive : Evn fun k => laws_alive.f k = some true := Ev.of laws_alive.mono (k := 12) (by decide +kernel)

theorem FnEntryValid : FnEntryValid.Said := by
  intro l0 hw
  by_cases hl0 : l0.length ≤ 1048576
  · have hD : Drw (fun k => spec_DrawEntryValid.f k l0) (fun _ => True) := by
      obtain ⟨b, hb, eo⟩ := spec_open l0 hw.2
      unfold spec_DrawEntryValid.f
      rw [eo]
      exact Drw.some_bind (Drw.bindP (dr_entry hb 2 (Int.le_refl 0) (by omega) (by omega)) fun bt hl _ _ => Drw.pure trivial)
    obtain ⟨⟨c, s, kind, key, value, old⟩, _, eD⟩ := hD
    dsimp only at eD
    have h0 : entB c 0 kind key value old = false := by
      unfold entB
      rw [decide_eq_false (show ¬ ((1 : Int) ≤ 0 ∧ (0 : Int) ≤ 999) by omega)]
      simp
    refine Evn.some (Evn.mp eD (Evn.mp (implEnt c s kind key value old) (Evn.mp (specEnt c s kind key value old) (Evn.mp (implEnt c 0 kind key value old) (Evn.mp (implEnt 0 1 kind key value old) (Evn.mp (implCmd kind key value old) (Evn.mp alive (Evn.all fun k e7 e6 e5 e4 e3 e2 e1 => ?_))))))))
    unfold laws_FnEntryValid.f laws_FnEntryValid.judge
    rw [if_neg (by omega), e1]
    simp only [Option.bind_some]
    rw [e2, e3, e4, e7]
    simp only [Option.bind_some]
    rw [if_pos (by simp [h0])]
    cases hv : entB c s kind key value old with
    | false => rfl
    | true =>
      have hc : cmdB kind key value old = true := by
        unfold entB at hv
        simp only [Bool.and_eq_true] at hv
        exact hv.2.2
      have h1 : entB 0 1 kind key value old = true := by
        unfold entB
        rw [decide_eq_true (show (0 : Int) ≤ 0 ∧ (0 : Int) ≤ 3 by omega), decide_eq_true (show (1 : Int) ≤ 1 ∧ (1 : Int) ≤ 999 by omega), hc]
        rfl
      rw [if_pos rfl, e5, e6]
      simp only [Option.bind_some]
      rw [if_pos (by simp [h1, hc])]
  · refine ⟨0, ?_⟩
    unfold laws_FnEntryValid.f
    rw [if_pos (by omega)]

end Go.Proofs.Ytdamnfkpfhoahaa.Pure
