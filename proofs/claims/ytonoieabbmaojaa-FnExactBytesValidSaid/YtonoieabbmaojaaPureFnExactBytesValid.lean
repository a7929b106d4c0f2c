/- The program's BytesValid answers as the reference's for every list, and leaves the list as it was. No condition beyond the row's own. -/
import Derived.Test.YtonoieabbmaojaaPFnExactBytesValidx1
import Derived.Test.YtonoieabbmaojaaWSized
namespace Go.Proofs.Ytonoieabbmaojaa.Pure
open Go.RowKit Go.Proofs.Ytonoieabbmaojaa.PFnExactBytesValid Go.Proofs.YtonoieabbmaojaaW.PrintWords Go.Proofs.YtonoieabbmaojaaW.PrintLast

/-! The printed row names 'PrintWords.sized_ints' from inside the seat's own namespace: the word of that name, under that name. -/
end Go.Proofs.Ytonoieabbmaojaa.Pure
namespace Go.Proofs.Ytonoieabbmaojaa
theorem PrintWords.sized_ints : type_of% @Go.Proofs.YtonoieabbmaojaaW.PrintWords.sized_ints := @Go.Proofs.YtonoieabbmaojaaW.PrintWords.sized_ints
end Go.Proofs.Ytonoieabbmaojaa
namespace Go.Proofs.Ytonoieabbmaojaa.Pure
open Go.RowKit Go.Proofs.Ytonoieabbmaojaa.PFnExactBytesValid Go.Proofs.YtonoieabbmaojaaW.PrintWords Go.Proofs.YtonoieabbmaojaaW.PrintLast

/-! Eventually: for all large enough numbers of rounds; small lemmas on numbers and lists. -/
def Evn (P : Nat → Prop) : Prop := ∃ K, ∀ k, K ≤ k → P k

theorem Evn.all {P : Nat → Prop} (h : ∀ k, P k) : Evn P := ⟨0, fun k _ => h k⟩

theorem Evn.mp {P Q : Nat → Prop} (hp : Evn P) (hq : Evn fun k => P k → Q k) : Evn Q := by
  obtain ⟨K1, h1⟩ := hp
  obtain ⟨K2, h2⟩ := hq
  exact ⟨max K1 K2, fun k hk => h2 k (by omega) (h1 k (by omega))⟩

theorem Evn.succ {P : Nat → Prop} (h : Evn fun k => P (k + 1)) : Evn P := by
  obtain ⟨K, h⟩ := h
  refine ⟨K + 1, fun k hk => ?_⟩
  obtain ⟨m, rfl⟩ : ∃ m, k = m + 1 := ⟨k - 1, by omega⟩
  exact h m (by omega)

theorem Evn.some {P : Nat → Prop} (h : Evn P) : ∃ k, P k := by
  obtain ⟨K, h⟩ := h
  exact ⟨K, h K (Nat.le_refl K)⟩

theorem w64 {x : Int} (h0 : -9223372036854775808 ≤ x) (h1 : x ≤ 9223372036854775807) : wrap64 x = x := by
  unfold wrap64
  omega

theorem rd_drop {xs : List Int} {j : Nat} (h : j < xs.length) : xs.drop j = rd xs (j : Int) :: xs.drop (j + 1) := by
  rw [List.drop_eq_getElem_cons h]
  simp [rd, List.getD_eq_getElem?_getD, List.getElem?_eq_getElem h]

theorem rd_nat {xs : List Int} {j : Nat} (h : j < xs.length) : rd xs (j : Int) = xs[j] := by
  simp [rd, List.getD_eq_getElem?_getD, List.getElem?_eq_getElem h]

theorem wf64 {x : Int} (h : (Lit.int .i64 x).wf = true) : -9223372036854775808 ≤ x ∧ x ≤ 9223372036854775807 := by
  have h' : (decide (IntKind.i64.min ≤ x) && decide (x ≤ IntKind.i64.max)) = true := h
  rw [Bool.and_eq_true, decide_eq_true_eq, decide_eq_true_eq] at h'
  exact h'

/-! Copies of lists of numbers, and their comparison. -/
theorem toIntS_loop (xs : List Int) (hn : xs.length ≤ 1048576) (d : Nat) : ∀ (j : Nat) (ys : List Int), j + d = xs.length → ys.length = xs.length → ys.take j = xs.take j →
    Evn fun k => laws_toIntS.l0 k xs ys (j : Int) = some xs := by
  induction d with
  | zero =>
    intro j ys hj hl ht
    refine Evn.succ (Evn.all fun k => ?_)
    simp only [laws_toIntS.l0]
    rw [if_neg (by omega)]
    rw [List.take_of_length_le (by omega), List.take_of_length_le (by omega)] at ht
    rw [ht]
  | succ d ih =>
    intro j ys hj hl ht
    have hlt : j < xs.length := by omega
    refine Evn.succ (Evn.mp (ih (j + 1) (ys.set j (rd xs (j : Int))) (by omega) (by simpa using hl) ?_) (Evn.all fun k e => ?_))
    · rw [rd_nat hlt, List.take_succ_eq_append_getElem hlt, ← ht, List.take_succ_eq_append_getElem (by simp; omega)]
      simp [List.take_set_of_le]
    · simp only [laws_toIntS.l0]
      rw [if_pos (by omega), if_pos (by omega), if_pos (by omega), w64 (by omega) (by omega)]
      exact e

theorem toIntS (xs : List Int) (hn : xs.length ≤ 1048576) : Evn fun k => laws_toIntS.f k xs = some xs := by
  refine Evn.mp (toIntS_loop xs hn xs.length 0 (List.replicate xs.length 0) (by omega) (by simp) (by simp)) (Evn.all fun k e => ?_)
  unfold laws_toIntS.f
  rw [if_pos (by omega), if_pos (by omega)]
  exact e

theorem eqIntS_loop (xs ys : List Int) (hl : xs.length = ys.length) (hn : xs.length ≤ 1048576) (d : Nat) : ∀ (j : Nat), j + d = xs.length →
    Evn fun k => laws_eqIntS.l0 k xs ys (j : Int) = some (decide (xs.drop j = ys.drop j)) := by
  induction d with
  | zero =>
    intro j hj
    refine Evn.succ (Evn.all fun k => ?_)
    simp only [laws_eqIntS.l0]
    rw [if_neg (by omega), List.drop_of_length_le (by omega), List.drop_of_length_le (by omega)]
    simp
  | succ d ih =>
    intro j hj
    have hlt : j < xs.length := by omega
    refine Evn.succ (Evn.mp (ih (j + 1) (by omega)) (Evn.all fun k e => ?_))
    simp only [laws_eqIntS.l0]
    rw [if_pos (by omega), if_pos (by omega), if_pos (by omega), w64 (by omega) (by omega)]
    rw [rd_drop hlt, rd_drop (show j < ys.length by omega)]
    by_cases h : rd xs (j : Int) = rd ys (j : Int)
    · rw [if_pos h, h]
      refine Eq.trans e ?_
      simp
    · rw [if_neg h]
      simp [h]

theorem eqIntS (xs ys : List Int) (hn : xs.length ≤ 1048576) : Evn fun k => laws_eqIntS.f k xs ys = some (decide (xs = ys)) := by
  by_cases hl : xs.length = ys.length
  · refine Evn.mp (eqIntS_loop xs ys hl hn xs.length 0 (by omega)) (Evn.all fun k e => ?_)
    unfold laws_eqIntS.f
    rw [if_pos (by omega)]
    simpa using e
  · refine Evn.all fun k => ?_
    unfold laws_eqIntS.f
    rw [if_neg (by omega), decide_eq_false (fun h => hl (by rw [h]))]

theorem eqIntS_self (xs : List Int) (hn : xs.length ≤ 1048576) : Evn fun k => laws_eqIntS.f k xs xs = some true :=
  Evn.mp (eqIntS xs xs hn) (Evn.all fun k e => by rw [e]; simp)

/-! Valid bytes. -/
def byteB (x : Int) : Bool := decide (0 ≤ x) && decide (x ≤ 255)
def bytesB (b : List Int) : Bool := decide (b.length ≤ 2000) && b.all byteB

theorem specBytes_loop (xs : List Int) (hn : xs.length ≤ 2000) (d : Nat) : ∀ (j : Nat), j + d = xs.length →
    Evn fun k => spec_BytesValid.l0 k xs (j : Int) = some ((xs.drop j).all byteB) := by
  induction d with
  | zero =>
    intro j hj
    refine Evn.succ (Evn.all fun k => ?_)
    simp only [spec_BytesValid.l0]
    rw [if_neg (by omega), List.drop_of_length_le (by omega)]
    rfl
  | succ d ih =>
    intro j hj
    have hlt : j < xs.length := by omega
    refine Evn.succ (Evn.mp (ih (j + 1) (by omega)) (Evn.all fun k e => ?_))
    simp only [spec_BytesValid.l0]
    rw [if_pos (by omega), if_pos (by omega), w64 (by omega) (by omega), rd_drop hlt]
    rw [show ((j : Int) + 1) = ((j + 1 : Nat) : Int) by omega, e]
    unfold spec_l1In.f byteB
    by_cases h : rd xs (j : Int) ≥ 0
    · rw [if_pos h]
      by_cases h2 : rd xs (j : Int) ≤ 255 <;> simp [h, h2]
    · rw [if_neg h]
      simp [h]

theorem specBytes (xs : List Int) : Evn fun k => spec_BytesValid.f k xs = some (bytesB xs) := by
  by_cases hn : xs.length ≤ 2000
  · refine Evn.mp (specBytes_loop xs hn xs.length 0 (by omega)) (Evn.all fun k e => ?_)
    unfold spec_BytesValid.f bytesB
    rw [if_neg (by omega)]
    simpa [hn] using e
  · refine Evn.all fun k => ?_
    unfold spec_BytesValid.f bytesB
    rw [if_pos (by omega)]
    simp [hn]

theorem implBytes_loop (xs : List Int) (hn : xs.length ≤ 2000) (d : Nat) : ∀ (j : Nat), j + d = xs.length →
    Evn fun k => impl_BytesValid.l0 k xs (xs.length : Int) (j : Int) = some ((xs.drop j).all byteB) := by
  induction d with
  | zero =>
    intro j hj
    refine Evn.succ (Evn.all fun k => ?_)
    simp only [impl_BytesValid.l0]
    rw [if_neg (by omega), List.drop_of_length_le (by omega)]
    rfl
  | succ d ih =>
    intro j hj
    have hlt : j < xs.length := by omega
    refine Evn.succ (Evn.mp (ih (j + 1) (by omega)) (Evn.all fun k e => ?_))
    simp only [impl_BytesValid.l0]
    rw [if_pos (by omega), if_pos (by omega), if_pos (by omega), w64 (by omega) (by omega), rd_drop hlt]
    rw [show ((j : Int) + 1) = ((j + 1 : Nat) : Int) by omega, e]
    unfold byteB
    by_cases h : rd xs (j : Int) < 0
    · rw [if_pos h]
      have : ¬ (0 ≤ rd xs (j : Int)) := by omega
      simp [this]
    · rw [if_neg h]
      have h0 : 0 ≤ rd xs (j : Int) := by omega
      by_cases h2 : rd xs (j : Int) > 255
      · rw [if_pos h2]
        have : ¬ (rd xs (j : Int) ≤ 255) := by omega
        simp [this]
      · rw [if_neg h2]
        have : rd xs (j : Int) ≤ 255 := by omega
        simp [h0, this]

theorem implBytes (xs : List Int) : Evn fun k => impl_BytesValid.f k xs = some (bytesB xs) := by
  by_cases hn : xs.length ≤ 2000
  · refine Evn.mp (implBytes_loop xs hn xs.length 0 (by omega)) (Evn.all fun k e => ?_)
    unfold impl_BytesValid.f bytesB
    rw [if_neg (by omega)]
    simpa [hn] using e
  · refine Evn.all fun k => ?_
    unfold impl_BytesValid.f bytesB
    rw [if_pos (by omega)]
    simp [hn]

theorem FnExactBytesValid : laws_FnExactBytesValid.Pure := by
  intro l0 _ _ _
  by_cases hn : l0.length ≤ 1048576
  · refine Evn.some (Evn.mp (toIntS l0 hn) (Evn.mp (specBytes l0) (Evn.mp (implBytes l0) (Evn.mp (eqIntS_self l0 hn) (Evn.all fun k e4 e3 e2 e1 => ?_)))))
    unfold laws_FnExactBytesValid.f
    rw [if_neg (by omega)]
    simp [e1, e2, e3, e4]
  · refine ⟨0, ?_⟩
    unfold laws_FnExactBytesValid.f
    rw [if_pos (by omega)]

end Go.Proofs.Ytonoieabbmaojaa.Pure
