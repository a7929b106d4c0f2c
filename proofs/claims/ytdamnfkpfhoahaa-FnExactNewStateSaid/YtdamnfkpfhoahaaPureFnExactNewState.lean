/- The program's NewState answers as the reference's for every interval, and hands back memory of its own. No condition beyond the row's own. -/
import Derived.Test.YtdamnfkpfhoahaaQFnExactNewStateall
import Derived.Laws.BytesArg
import Derived.Lib.Strings
namespace Go.Proofs.Ytdamnfkpfhoahaa.Pure
open Go.RowKit Go.Proofs.Ytdamnfkpfhoahaa.PFnExactNewState Go.Proofs.YtdamnfkpfhoahaaW.PrintWords Go.Proofs.YtdamnfkpfhoahaaW.PrintLast
def FnExactNewState.Said : Prop := ∀ (a0_0 : ByteArray) (a0_1 : ByteArray), (a0_0.size ≤ maxLen) → (a0_1.size ≤ maxLen) → ∃ k, laws_FnExactNewState.f k a0_0 a0_1 = some true
end Go.Proofs.Ytdamnfkpfhoahaa.Pure
namespace Go.Proofs.Ytdamnfkpfhoahaa.Pure
open Go.RowKit Go.Proofs.Ytdamnfkpfhoahaa.PFnExactNewState Go.Proofs.YtdamnfkpfhoahaaW.PrintWords Go.Proofs.YtdamnfkpfhoahaaW.PrintLast
set_option linter.unusedVariables false
set_option linter.unusedSimpArgs false
def Evn (P : Nat → Prop) : Prop := ∃ K, ∀ k, K ≤ k → P k
theorem Evn.all {P : Nat → Prop} (h : ∀ k, P k) : Evn P := ⟨0, fun k _ => h k⟩
theorem Evn.mp {P Q : Nat → Prop} (hp : Evn P) (hq : Evn fun k => P k → Q k) : Evn Q := by
  obtain ⟨K1, h1⟩ := hp
  obtain ⟨K2, h2⟩ := hq
  exact ⟨max K1 K2, fun k hk => h2 k (by omega) (h1 k (by omega))⟩
theorem Evn.succ {P : Nat → Prop} (h : Evn fun k => P (k + 1)) : Evn P := by
  obtain ⟨K, h⟩ := h
  refine ⟨K + 1, fun k hk => ?_⟩
  obtain ⟨m, rfl⟩ : ∃ m, k = m + 1 := ⟨k - 1, by omega⟩
  exact h m (by omega)
theorem Evn.some {P : Nat → Prop} (h : Evn P) : ∃ k, P k := by
  obtain ⟨K, h⟩ := h
  exact ⟨K, h K (Nat.le_refl K)⟩
theorem w64 {x : Int} (h0 : -9223372036854775808 ≤ x) (h1 : x ≤ 9223372036854775807) : wrap64 x = x := by
  unfold wrap64
  omega
theorem rd_drop {xs : List Int} {j : Nat} (h : j < xs.length) : xs.drop j = rd xs (j : Int) :: xs.drop (j + 1) := by
  rw [List.drop_eq_getElem_cons h]
  simp [rd, List.getD_eq_getElem?_getD, List.getElem?_eq_getElem h]
theorem ba_toList (s : ByteArray) : s.toList = s.data.toList := Lib.toList_data s
def lowB (x : Int) : Bool := decide (97 ≤ x) && decide (x ≤ 122)
def keyB (s : ByteArray) : Bool := decide (1 ≤ s.size) && decide (s.size ≤ 4) && (bytesOf s).all lowB
theorem bt_drop' {s : ByteArray} {j : Nat} (h : j < s.size) : (bytesOf s).drop j = bt s (j : Int) :: (bytesOf s).drop (j + 1) := by
  rw [rd_drop (by rw [bytesOf_length]; exact h), rd_bytesOf]
theorem bytesOf_tail (s : ByteArray) : bytesOf (s.extract 1 s.size) = (bytesOf s).drop 1 := by
  unfold bytesOf
  rw [← List.map_drop]
  refine congrArg _ ?_
  rw [ByteArray.data_extract, Array.toList_extract]
  rw [List.extract_eq_take_drop, List.take_of_length_le (by rw [List.length_drop, data_length]; omega)]
theorem nil_iff (s : ByteArray) : s.toList = ([] : List UInt8) ↔ s.size = 0 := by
  rw [ba_toList]
  refine ⟨fun h => ?_, fun h => ?_⟩
  · have := data_length s
    rw [h] at this
    exact this.symm
  · exact List.eq_nil_of_length_eq_zero (by rw [data_length]; exact h)
def ivB (lo hi : ByteArray) : Bool :=
  if lo.toList = ([] : List UInt8) then (if hi.toList = ([] : List UInt8) then true else keyB hi && Op.bytesLess [97] hi.toList)
  else keyB lo && (if hi.toList = ([] : List UInt8) then true else keyB hi && Op.bytesLess lo.toList hi.toList)
theorem key_a {s : ByteArray} (h : keyB s = true) : Op.bytesLess [97] s.toList = (Op.bytesLess [] s.toList && (s.toList != ([97] : List UInt8))) := by
  unfold keyB at h
  rw [Bool.and_eq_true, Bool.and_eq_true, decide_eq_true_eq] at h
  have h2 := h.2
  unfold bytesOf at h2
  rw [ba_toList]
  have hs : s.data.toList.length = s.size := data_length s
  generalize s.data.toList = x at *
  cases x with
  | nil => simp only [List.length_nil] at hs; omega
  | cons b r =>
    simp only [List.map_cons, List.all_cons, Bool.and_eq_true] at h2
    have hb := h2.1
    unfold lowB at hb
    rw [Bool.and_eq_true, decide_eq_true_eq] at hb
    have h97 : (97 : UInt8).toNat ≤ b.toNat := by have := hb.1; show 97 ≤ b.toNat; omega
    rw [show Op.bytesLess [] (b :: r) = true from rfl, Bool.true_and]
    simp only [Op.bytesLess]
    by_cases e : b = 97
    · subst e
      cases r with
      | nil => decide
      | cons c r => simp [Op.bytesLess]
    · have h3 : (97 : UInt8) < b := by
        rw [UInt8.lt_iff_toNat_lt]
        have : b.toNat ≠ (97 : UInt8).toNat := fun h => e (UInt8.toNat_inj.mp h)
        omega
      simp [h3, e]
theorem l1In (a b c : Int) : spec_l1In.f a b c = some (decide (b ≤ a ∧ a ≤ c)) := by
  unfold spec_l1In.f
  by_cases h : a ≥ b
  · rw [if_pos h]
    simp [h]
  · rw [if_neg h]
    simp [h]
theorem specKey_loop (s : ByteArray) (hs : s.size ≤ 4) (d : Nat) : ∀ j : Nat, j + d = s.size → Evn fun k => spec_KeyValid.l0 k s (j : Int) = some (((bytesOf s).drop j).all lowB) := by
  induction d with
  | zero =>
    intro j hj
    refine Evn.succ (Evn.all fun k => ?_)
    simp only [spec_KeyValid.l0]
    rw [if_neg (by omega), List.drop_of_length_le (by rw [bytesOf_length]; omega)]
    rfl
  | succ d ih =>
    intro j hj
    refine Evn.succ (Evn.mp (ih (j + 1) (by omega)) (Evn.all fun k e => ?_))
    simp only [spec_KeyValid.l0]
    rw [if_pos (by omega), if_pos (by omega), w64 (by omega) (by omega), bt_drop' (show j < s.size by omega), show ((j : Int) + 1) = ((j + 1 : Nat) : Int) by omega, e]
    unfold lowB
    by_cases h1 : bt s (j : Int) < 97
    · rw [if_pos h1]
      have : ¬ (97 : Int) ≤ bt s (j : Int) := by omega
      simp [this]
    · rw [if_neg h1]
      have a1 : (97 : Int) ≤ bt s (j : Int) := by omega
      by_cases h2 : bt s (j : Int) > 122
      · rw [if_pos h2]
        have : ¬ bt s (j : Int) ≤ 122 := by omega
        simp [this]
      · rw [if_neg h2]
        have : bt s (j : Int) ≤ 122 := by omega
        simp [a1, this]
theorem specKey (s : ByteArray) : Evn fun k => spec_KeyValid.f k s = some (keyB s) := by
  unfold keyB
  by_cases h : 1 ≤ s.size ∧ s.size ≤ 4
  · refine Evn.mp (specKey_loop s h.2 s.size 0 (by omega)) (Evn.all fun k e => ?_)
    unfold spec_KeyValid.f
    rw [l1In, decide_eq_true (by omega)]
    simp only [Option.bind_some, if_true]
    refine Eq.trans e ?_
    simp [h.1, h.2]
  · refine Evn.all fun k => ?_
    unfold spec_KeyValid.f
    rw [l1In, decide_eq_false (by omega)]
    simp only [Option.bind_some]
    rw [if_neg (by simp)]
    by_cases h1 : 1 ≤ s.size
    · have : ¬ s.size ≤ 4 := fun h2 => h ⟨h1, h2⟩
      simp [this]
    · simp [h1]
theorem specIv (lo hi : ByteArray) : Evn fun k => spec_IntervalValid.f k lo hi = some (ivB lo hi) := by
  refine Evn.mp (specKey lo) (Evn.mp (specKey hi) (Evn.all fun k e2 e1 => ?_))
  unfold spec_IntervalValid.f ivB
  rw [e1, e2]
  simp only [Option.bind_some]
  by_cases hl : lo.toList = ([] : List UInt8)
  · rw [if_pos hl, if_pos hl]
    by_cases hh : hi.toList = ([] : List UInt8)
    · rw [if_pos hh, if_pos hh]
    · rw [if_neg hh, if_neg hh]
      cases hk : keyB hi with
      | false => rfl
      | true =>
        rw [if_pos rfl, key_a hk, hl]
        cases Op.bytesLess [] hi.toList <;> simp
  · rw [if_neg hl, if_neg hl]
    cases keyB lo with
    | false => rfl
    | true =>
      rw [if_pos rfl]
      by_cases hh : hi.toList = ([] : List UInt8)
      · rw [if_pos hh, if_pos hh]
        rfl
      · rw [if_neg hh, if_neg hh]
        cases keyB hi with
        | false => rfl
        | true => cases Op.bytesLess lo.toList hi.toList <;> rfl
theorem implLetters (n : Nat) : ∀ s : ByteArray, s.size = n → Evn fun k => impl_lettersOnly.f k s = some ((bytesOf s).all lowB) := by
  induction n with
  | zero =>
    intro s hs
    refine Evn.succ (Evn.all fun k => ?_)
    simp only [impl_lettersOnly.f]
    rw [if_pos ((nil_iff s).mpr hs), List.eq_nil_of_length_eq_zero (l := bytesOf s) (by rw [bytesOf_length]; exact hs)]
    rfl
  | succ n ih =>
    intro s hs
    have hx := bt_drop' (s := s) (j := 0) (by omega)
    rw [List.drop_zero] at hx
    refine Evn.succ (Evn.mp (ih (s.extract 1 s.size) (by rw [ByteArray.size_extract]; omega)) (Evn.all fun k e => ?_))
    simp only [impl_lettersOnly.f]
    rw [if_neg (fun h => by have := (nil_iff s).mp h; omega), if_pos (by omega), e, bytesOf_tail, hx]
    simp only [Option.bind_some, List.all_cons, Nat.zero_add]
    unfold lowB
    rw [if_pos (show (1 : Int) ≤ (s.size : Int) by omega)]
    simp only [Int.ofNat_zero]
    by_cases h1 : bt s 0 ≥ 97
    · rw [if_pos h1]
      by_cases h2 : bt s 0 ≤ 122
      · rw [if_pos h2]
        have : (97 : Int) ≤ bt s 0 := h1
        simp [this, h2]
      · rw [if_neg h2]
        simp [h2]
    · rw [if_neg h1]
      have : ¬ (97 : Int) ≤ bt s 0 := h1
      simp [this]
theorem implKey (s : ByteArray) : Evn fun k => impl_KeyValid.f k s = some (keyB s) := by
  refine Evn.mp (implLetters s.size s rfl) (Evn.all fun k e => ?_)
  unfold impl_KeyValid.f keyB
  by_cases h1 : s.size < 1
  · rw [if_pos (by omega)]
    have : ¬ 1 ≤ s.size := by omega
    simp [this]
  · rw [if_neg (by omega)]
    have a1 : 1 ≤ s.size := by omega
    by_cases h2 : s.size > 4
    · rw [if_pos (by omega)]
      have : ¬ s.size ≤ 4 := by omega
      simp [this]
    · rw [if_neg (by omega), e]
      have a2 : s.size ≤ 4 := by omega
      simp [a1, a2]
theorem implIv (lo hi : ByteArray) : Evn fun k => impl_IntervalValid.f k lo hi = some (ivB lo hi) := by
  refine Evn.mp (implKey lo) (Evn.mp (implKey hi) (Evn.all fun k e2 e1 => ?_))
  unfold impl_IntervalValid.f ivB impl_lowestKey.f
  rw [e1, e2]
  simp only [Option.bind_some]
  by_cases hl : lo.toList = ([] : List UInt8)
  · simp only [if_pos hl, Option.bind_some]
    by_cases hh : hi.toList = ([] : List UInt8)
    · rw [if_pos hh, if_pos hh]
    · rw [if_neg hh, if_neg hh]
      have ha : (⟨#[97]⟩ : ByteArray).toList = [97] := by rw [ba_toList]
      rw [ha]
      cases keyB hi <;> rfl
  · simp only [if_neg hl, Option.bind_some]
    cases keyB lo with
    | false => rfl
    | true =>
      rw [if_pos rfl]
      by_cases hh : hi.toList = ([] : List UInt8)
      · rw [if_pos hh, if_pos hh]
        rfl
      · rw [if_neg hh, if_neg hh]
        cases keyB hi <;> rfl
def newB (lo hi : ByteArray) : ByteArray × ByteArray × List S76 × List S90 × Bool × ByteArray := if ivB lo hi = true then (lo, hi, [], [], false, ⟨#[]⟩) else (⟨#[]⟩, ⟨#[]⟩, [], [], false, ⟨#[]⟩)
theorem specNew (lo hi : ByteArray) : Evn fun k => spec_NewState.f k lo hi = some (newB lo hi) := by
  refine Evn.mp (specIv lo hi) (Evn.all fun k e => ?_)
  unfold spec_NewState.f newB
  rw [e]
  simp only [Option.bind_some]
  cases ivB lo hi <;> rfl
theorem implNew (lo hi : ByteArray) : Evn fun k => impl_NewState.f k lo hi = some (newB lo hi) := by
  refine Evn.mp (implIv lo hi) (Evn.all fun k e => ?_)
  unfold impl_NewState.f newB
  rw [e]
  simp only [Option.bind_some]
  cases ivB lo hi <;> rfl
theorem newB_nil (lo hi : ByteArray) : (newB lo hi).2.2.1 = [] ∧ (newB lo hi).2.2.2.1 = [] := by
  unfold newB
  split <;> exact ⟨rfl, rfl⟩
theorem szIv (a b : ByteArray) (ha : a.size ≤ maxLen) (hb : b.size ≤ maxLen) (left : Int) (h0 : 0 ≤ left) (h1 : left ≤ 1048576) : ∃ v, (v < 0 ∨ 0 ≤ v ∧ v ≤ left) ∧ laws_szInterval.f a b left = some v := by
  unfold maxLen at ha hb
  unfold laws_szInterval.f
  rw [w64 (x := left - (a.size : Int)) (by omega) (by omega)]
  by_cases hc : left - (a.size : Int) < 0
  · exact ⟨-1, .inl (by omega), if_pos hc⟩
  · rw [if_neg hc, w64 (by omega) (by omega)]
    by_cases hd : left - (a.size : Int) - (b.size : Int) < 0
    · exact ⟨-1, .inl (by omega), if_pos hd⟩
    · exact ⟨_, .inr ⟨by omega, by omega⟩, if_neg hd⟩
theorem eqPrs_loop (xs : List S76) (hn : xs.length ≤ 1099511627776) (d : Nat) : ∀ (j : Nat), j + d = xs.length → Evn fun k => laws_eqPairS.l0 k xs xs (j : Int) = some true := by
  induction d with
  | zero =>
    intro j hj
    refine Evn.succ (Evn.all fun k => ?_)
    simp only [laws_eqPairS.l0]
    rw [if_neg (by omega)]
  | succ d ih =>
    intro j hj
    refine Evn.succ (Evn.mp (ih (j + 1) (by omega)) (Evn.all fun k e => ?_))
    simp only [laws_eqPairS.l0, laws_eqPair.f, if_true, Option.bind_some]
    rw [if_pos (by omega), if_pos (by omega), if_pos (by omega), w64 (by omega) (by omega)]
    exact e
theorem eqPrs_self (xs : List S76) (hn : xs.length ≤ 1099511627776) : Evn fun k => laws_eqPairS.f k xs xs = some true :=
  Evn.mp (eqPrs_loop xs hn xs.length 0 (by omega)) (Evn.all fun k e => by
    unfold laws_eqPairS.f
    rw [if_pos rfl]
    exact e)
theorem eqSes_loop (xs : List S90) (hn : xs.length ≤ 1099511627776) (d : Nat) : ∀ (j : Nat), j + d = xs.length → Evn fun k => laws_eqSessionS.l0 k xs xs (j : Int) = some true := by
  induction d with
  | zero =>
    intro j hj
    refine Evn.succ (Evn.all fun k => ?_)
    simp only [laws_eqSessionS.l0]
    rw [if_neg (by omega)]
  | succ d ih =>
    intro j hj
    refine Evn.succ (Evn.mp (ih (j + 1) (by omega)) (Evn.all fun k e => ?_))
    simp only [laws_eqSessionS.l0, laws_eqSession.f, if_true, Option.bind_some]
    rw [if_pos (by omega), if_pos (by omega), if_pos (by omega), w64 (by omega) (by omega)]
    exact e
theorem eqSes_self (xs : List S90) (hn : xs.length ≤ 1099511627776) : Evn fun k => laws_eqSessionS.f k xs xs = some true :=
  Evn.mp (eqSes_loop xs hn xs.length 0 (by omega)) (Evn.all fun k e => by
    unfold laws_eqSessionS.f
    rw [if_pos rfl]
    exact e)
theorem eqSt_self (a b : ByteArray) (ps : List S76) (ss : List S90) (t : Bool) (c : ByteArray) (hp : ps.length ≤ 1048576) (hs : ss.length ≤ 1048576) : Evn fun k => laws_eqState.f k a b ps ss t c a b ps ss t c = some true := by
  refine Evn.mp (eqPrs_self ps (by omega)) (Evn.mp (eqSes_self ss (by omega)) (Evn.all fun k e2 e1 => ?_))
  unfold laws_eqState.f laws_eqInterval.f
  rw [e1, e2]
  simp
theorem mark_nil (a b : ByteArray) (t : Bool) (c : ByteArray) : Evn fun k => laws_markState.f k a b [] [] t c 1 = some (1, [], []) ∧ laws_heldState.f k a b [] [] t c 1 = some 1 := by
  refine Evn.succ (Evn.all fun k => ⟨?_, ?_⟩)
  · unfold laws_markState.f laws_markPairS.f laws_markSessionS.f
    simp [laws_markPairS.l0, laws_markSessionS.l0]
  · unfold laws_heldState.f laws_heldPairS.f laws_heldSessionS.f
    simp [laws_heldPairS.l0, laws_heldSessionS.l0]
theorem FnExactNewState : FnExactNewState.Said := by
  intro a b ha hb
  refine Evn.some ?_
  obtain ⟨v, hv, e⟩ := szIv a b ha hb 1048576 (by omega) (by omega)
  by_cases h : v < 0
  · refine Evn.all fun k => ?_
    unfold laws_FnExactNewState.f
    rw [e]
    simp only [Option.bind_some]
    rw [if_pos h]
  · have hs := specNew a b
    have hi := implNew a b
    have hn := newB_nil a b
    generalize newB a b = y at hs hi hn
    obtain ⟨y1, y2, y3, y4, y5, y6⟩ := y
    obtain ⟨rfl, rfl⟩ : y3 = [] ∧ y4 = [] := hn
    refine Evn.mp hs (Evn.mp hi (Evn.mp (eqSt_self y1 y2 [] [] y5 y6 (by simp) (by simp)) (Evn.mp (mark_nil y1 y2 y5 y6) (Evn.all fun k e4 e3 e2 e1 => ?_))))
    unfold laws_FnExactNewState.f
    rw [e]
    simp only [Option.bind_some]
    rw [if_neg h]
    unfold laws_FnExactNewState.judge laws_toInterval.f
    simp only [Option.bind_some]
    rw [e1, e2]
    simp only [Option.bind_some]
    rw [e3, e4.1, e4.2]
    simp
end Go.Proofs.Ytdamnfkpfhoahaa.Pure
