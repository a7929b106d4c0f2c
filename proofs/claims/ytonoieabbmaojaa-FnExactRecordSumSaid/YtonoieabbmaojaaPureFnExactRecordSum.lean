/- The program's RecordSum answers as the reference's for every list, and leaves the list as it was. No condition beyond the row's own. -/
import Derived.Test.YtonoieabbmaojaaPFnExactRecordSumx2
import Derived.Test.YtonoieabbmaojaaWSized
namespace Go.Proofs.Ytonoieabbmaojaa.Pure
open Go.RowKit Go.Proofs.Ytonoieabbmaojaa.PFnExactRecordSum Go.Proofs.YtonoieabbmaojaaW.PrintWords Go.Proofs.YtonoieabbmaojaaW.PrintLast
set_option linter.unusedVariables false
set_option linter.unusedSimpArgs false

/-! The printed row names 'PrintWords.sized_ints' from inside the seat's own namespace: the word of that name, under that name. -/
end Go.Proofs.Ytonoieabbmaojaa.Pure
namespace Go.Proofs.Ytonoieabbmaojaa
theorem PrintWords.sized_ints : type_of% @Go.Proofs.YtonoieabbmaojaaW.PrintWords.sized_ints := @Go.Proofs.YtonoieabbmaojaaW.PrintWords.sized_ints
end Go.Proofs.Ytonoieabbmaojaa
namespace Go.Proofs.Ytonoieabbmaojaa.Pure
open Go.RowKit Go.Proofs.Ytonoieabbmaojaa.PFnExactRecordSum Go.Proofs.YtonoieabbmaojaaW.PrintWords Go.Proofs.YtonoieabbmaojaaW.PrintLast

/-! Eventually: for all large enough numbers of rounds; small lemmas on numbers and lists. -/
def Evn (P : Nat → Prop) : Prop := ∃ K, ∀ k, K ≤ k → P k

theorem Evn.all {P : Nat → Prop} (h : ∀ k, P k) : Evn P := ⟨0, fun k _ => h k⟩

theorem Evn.mp {P Q : Nat → Prop} (hp : Evn P) (hq : Evn fun k => P k → Q k) : Evn Q := by
  obtain ⟨K1, h1⟩ := hp
  obtain ⟨K2, h2⟩ := hq
  exact ⟨max K1 K2, fun k hk => h2 k (by omega) (h1 k (by omega))⟩

theorem Evn.succ {P : Nat → Prop} (h : Evn fun k => P (k + 1)) : Evn P := by
  obtain ⟨K, h⟩ := h
  refine ⟨K + 1, fun k hk => ?_⟩
  obtain ⟨m, rfl⟩ : ∃ m, k = m + 1 := ⟨k - 1, by omega⟩
  exact h m (by omega)

theorem Evn.some {P : Nat → Prop} (h : Evn P) : ∃ k, P k := by
  obtain ⟨K, h⟩ := h
  exact ⟨K, h K (Nat.le_refl K)⟩

theorem w64 {x : Int} (h0 : -9223372036854775808 ≤ x) (h1 : x ≤ 9223372036854775807) : wrap64 x = x := by
  unfold wrap64
  omega

theorem rd_drop {xs : List Int} {j : Nat} (h : j < xs.length) : xs.drop j = rd xs (j : Int) :: xs.drop (j + 1) := by
  rw [List.drop_eq_getElem_cons h]
  simp [rd, List.getD_eq_getElem?_getD, List.getElem?_eq_getElem h]

theorem rd_nat {xs : List Int} {j : Nat} (h : j < xs.length) : rd xs (j : Int) = xs[j] := by
  simp [rd, List.getD_eq_getElem?_getD, List.getElem?_eq_getElem h]

theorem wf64 {x : Int} (h : (Lit.int .i64 x).wf = true) : -9223372036854775808 ≤ x ∧ x ≤ 9223372036854775807 := by
  have h' : (decide (IntKind.i64.min ≤ x) && decide (x ≤ IntKind.i64.max)) = true := h
  rw [Bool.and_eq_true, decide_eq_true_eq, decide_eq_true_eq] at h'
  exact h'

/-! Copies of lists of numbers, and their comparison. -/
theorem toIntS_loop (xs : List Int) (hn : xs.length ≤ 1048576) (d : Nat) : ∀ (j : Nat) (ys : List Int), j + d = xs.length → ys.length = xs.length → ys.take j = xs.take j →
    Evn fun k => laws_toIntS.l0 k xs ys (j : Int) = some xs := by
  induction d with
  | zero =>
    intro j ys hj hl ht
    refine Evn.succ (Evn.all fun k => ?_)
    simp only [laws_toIntS.l0]
    rw [if_neg (by omega)]
    rw [List.take_of_length_le (by omega), List.take_of_length_le (by omega)] at ht
    rw [ht]
  | succ d ih =>
    intro j ys hj hl ht
    have hlt : j < xs.length := by omega
    refine Evn.succ (Evn.mp (ih (j + 1) (ys.set j (rd xs (j : Int))) (by omega) (by simpa using hl) ?_) (Evn.all fun k e => ?_))
    · rw [rd_nat hlt, List.take_succ_eq_append_getElem hlt, ← ht, List.take_succ_eq_append_getElem (by simp; omega)]
      simp [List.take_set_of_le]
    · simp only [laws_toIntS.l0]
      rw [if_pos (by omega), if_pos (by omega), if_pos (by omega), w64 (by omega) (by omega)]
      exact e

theorem toIntS (xs : List Int) (hn : xs.length ≤ 1048576) : Evn fun k => laws_toIntS.f k xs = some xs := by
  refine Evn.mp (toIntS_loop xs hn xs.length 0 (List.replicate xs.length 0) (by omega) (by simp) (by simp)) (Evn.all fun k e => ?_)
  unfold laws_toIntS.f
  rw [if_pos (by omega), if_pos (by omega)]
  exact e


/-! Comparison of lists of numbers. -/
theorem eqIntS_loop (xs ys : List Int) (hl : xs.length = ys.length) (hn : xs.length ≤ 1048576) (d : Nat) : ∀ (j : Nat), j + d = xs.length →
    Evn fun k => laws_eqIntS.l0 k xs ys (j : Int) = some (decide (xs.drop j = ys.drop j)) := by
  induction d with
  | zero =>
    intro j hj
    refine Evn.succ (Evn.all fun k => ?_)
    simp only [laws_eqIntS.l0]
    rw [if_neg (by omega), List.drop_of_length_le (by omega), List.drop_of_length_le (by omega)]
    simp
  | succ d ih =>
    intro j hj
    have hlt : j < xs.length := by omega
    refine Evn.succ (Evn.mp (ih (j + 1) (by omega)) (Evn.all fun k e => ?_))
    simp only [laws_eqIntS.l0]
    rw [if_pos (by omega), if_pos (by omega), if_pos (by omega), w64 (by omega) (by omega)]
    rw [rd_drop hlt, rd_drop (show j < ys.length by omega)]
    by_cases h : rd xs (j : Int) = rd ys (j : Int)
    · rw [if_pos h, h]
      refine Eq.trans e ?_
      simp
    · rw [if_neg h]
      simp [h]

theorem eqIntS (xs ys : List Int) (hn : xs.length ≤ 1048576) : Evn fun k => laws_eqIntS.f k xs ys = some (decide (xs = ys)) := by
  by_cases hl : xs.length = ys.length
  · refine Evn.mp (eqIntS_loop xs ys hl hn xs.length 0 (by omega)) (Evn.all fun k e => ?_)
    unfold laws_eqIntS.f
    rw [if_pos (by omega)]
    simpa using e
  · refine Evn.all fun k => ?_
    unfold laws_eqIntS.f
    rw [if_neg (by omega), decide_eq_false (fun h => hl (by rw [h]))]

theorem eqIntS_self (xs : List Int) (hn : xs.length ≤ 1048576) : Evn fun k => laws_eqIntS.f k xs xs = some true :=
  Evn.mp (eqIntS xs xs hn) (Evn.all fun k e => by rw [e]; simp)

theorem l1In (a b c : Int) : spec_l1In.f a b c = some (decide (b ≤ a ∧ a ≤ c)) := by
  unfold spec_l1In.f
  by_cases h : a ≥ b
  · rw [if_pos h]
    simp [h]
  · rw [if_neg h]
    simp [h]


/-! Valid bytes. -/
def byteB (x : Int) : Bool := decide (0 ≤ x) && decide (x ≤ 255)
def bytesB (b : List Int) : Bool := decide (b.length ≤ 2000) && b.all byteB

theorem specBytes_loop (xs : List Int) (hn : xs.length ≤ 2000) (d : Nat) : ∀ (j : Nat), j + d = xs.length →
    Evn fun k => spec_BytesValid.l0 k xs (j : Int) = some ((xs.drop j).all byteB) := by
  induction d with
  | zero =>
    intro j hj
    refine Evn.succ (Evn.all fun k => ?_)
    simp only [spec_BytesValid.l0]
    rw [if_neg (by omega), List.drop_of_length_le (by omega)]
    rfl
  | succ d ih =>
    intro j hj
    have hlt : j < xs.length := by omega
    refine Evn.succ (Evn.mp (ih (j + 1) (by omega)) (Evn.all fun k e => ?_))
    simp only [spec_BytesValid.l0]
    rw [if_pos (by omega), if_pos (by omega), w64 (by omega) (by omega), rd_drop hlt]
    rw [show ((j : Int) + 1) = ((j + 1 : Nat) : Int) by omega, e]
    unfold spec_l1In.f byteB
    by_cases h : rd xs (j : Int) ≥ 0
    · rw [if_pos h]
      by_cases h2 : rd xs (j : Int) ≤ 255 <;> simp [h, h2]
    · rw [if_neg h]
      simp [h]

theorem specBytes (xs : List Int) : Evn fun k => spec_BytesValid.f k xs = some (bytesB xs) := by
  by_cases hn : xs.length ≤ 2000
  · refine Evn.mp (specBytes_loop xs hn xs.length 0 (by omega)) (Evn.all fun k e => ?_)
    unfold spec_BytesValid.f bytesB
    rw [if_neg (by omega)]
    simpa [hn] using e
  · refine Evn.all fun k => ?_
    unfold spec_BytesValid.f bytesB
    rw [if_pos (by omega)]
    simp [hn]

theorem implBytes_loop (xs : List Int) (hn : xs.length ≤ 2000) (d : Nat) : ∀ (j : Nat), j + d = xs.length →
    Evn fun k => impl_BytesValid.l0 k xs (xs.length : Int) (j : Int) = some ((xs.drop j).all byteB) := by
  induction d with
  | zero =>
    intro j hj
    refine Evn.succ (Evn.all fun k => ?_)
    simp only [impl_BytesValid.l0]
    rw [if_neg (by omega), List.drop_of_length_le (by omega)]
    rfl
  | succ d ih =>
    intro j hj
    have hlt : j < xs.length := by omega
    refine Evn.succ (Evn.mp (ih (j + 1) (by omega)) (Evn.all fun k e => ?_))
    simp only [impl_BytesValid.l0]
    rw [if_pos (by omega), if_pos (by omega), if_pos (by omega), w64 (by omega) (by omega), rd_drop hlt]
    rw [show ((j : Int) + 1) = ((j + 1 : Nat) : Int) by omega, e]
    unfold byteB
    by_cases h : rd xs (j : Int) < 0
    · rw [if_pos h]
      have : ¬ (0 ≤ rd xs (j : Int)) := by omega
      simp [this]
    · rw [if_neg h]
      have h0 : 0 ≤ rd xs (j : Int) := by omega
      by_cases h2 : rd xs (j : Int) > 255
      · rw [if_pos h2]
        have : ¬ (rd xs (j : Int) ≤ 255) := by omega
        simp [this]
      · rw [if_neg h2]
        have : rd xs (j : Int) ≤ 255 := by omega
        simp [h0, this]

theorem implBytes (xs : List Int) : Evn fun k => impl_BytesValid.f k xs = some (bytesB xs) := by
  by_cases hn : xs.length ≤ 2000
  · refine Evn.mp (implBytes_loop xs hn xs.length 0 (by omega)) (Evn.all fun k e => ?_)
    unfold impl_BytesValid.f bytesB
    rw [if_neg (by omega)]
    simpa [hn] using e
  · refine Evn.all fun k => ?_
    unfold impl_BytesValid.f bytesB
    rw [if_pos (by omega)]
    simp [hn]

/-! The model of reading numbers: at most g groups; the value, and how many bytes were read. -/
def decG : Nat → List Int → Bool → Option (Int × Nat)
  | 0, _, _ => none
  | _ + 1, [], _ => none
  | g + 1, x :: r, first =>
    if x < 128 then (if x = 0 ∧ first = false then none else some (x, 1))
    else match decG g r false with
      | none => none
      | some (v, c) => some (x % 128 + 128 * v, c + 1)
def decTail (at_ : Int) : Option (Int × Nat) → Int × Int
  | none => (-1, -1)
  | some (v, c) => (v, at_ + (c : Int))
def decN (b : List Int) (at_ : Int) : Int × Int :=
  if bytesB b = true ∧ 0 ≤ at_ ∧ at_ < (b.length : Int) then decTail at_ (decG 4 (b.drop at_.toNat) true) else (-1, -1)
/-- how many groups are left, and the weight of the next one -/
def weigh (g : Nat) (u : Int) : Prop := (g = 4 ∧ u = 1) ∨ (g = 3 ∧ u = 128) ∨ (g = 2 ∧ u = 16384) ∨ (g = 1 ∧ u = 2097152) ∨ (g = 0 ∧ u = 268435456)
def decAll (n u at_ : Int) : Option (Int × Nat) → Int × Int
  | none => (-1, -1)
  | some (v, c) => (n + u * v, at_ + (c : Int))
theorem bytesB_range {b : List Int} (h : bytesB b = true) {j : Nat} (hj : j < b.length) : 0 ≤ rd b (j : Int) ∧ rd b (j : Int) ≤ 255 := by
  unfold bytesB at h
  rw [Bool.and_eq_true, List.all_eq_true] at h
  have := h.2 b[j] (List.getElem_mem hj)
  rw [rd_nat hj]
  unfold byteB at this
  simpa using this
theorem bytesB_length {b : List Int} (h : bytesB b = true) : b.length ≤ 2000 := by
  unfold bytesB at h
  rw [Bool.and_eq_true] at h
  simpa using h.1
theorem decG_small {g : Nat} {x : Int} {r : List Int} {first : Bool} (hs : x < 128) : decG (g + 1) (x :: r) first = if x = 0 ∧ first = false then none else some (x, 1) := by
  rw [decG, if_pos hs]
theorem decG_big {g : Nat} {x : Int} {r : List Int} {first : Bool} (hs : ¬ x < 128) : decG (g + 1) (x :: r) first = match decG g r false with
      | none => none
      | some (v, c) => some (x % 128 + 128 * v, c + 1) := by
  rw [decG, if_neg hs]
theorem decN_bad {b : List Int} {a : Int} (h : bytesB b = true → ¬ (0 ≤ a ∧ a < (b.length : Int))) : decN b a = (-1, -1) := by
  unfold decN
  rw [if_neg (fun q => h q.1 q.2)]

/-! The model of sums. -/
def recS : Int → List Int → Int
  | _, [] => 0
  | j, x :: r => x * (j + 1) + recS (j + 1) r
def recSum (b : List Int) : Int := if bytesB b = true then recS 0 b % 65521 else -1
theorem byte_mul {x j : Int} (h0 : 0 ≤ x) (h1 : x ≤ 255) (j0 : 0 ≤ j) (j1 : j ≤ 1999) : 0 ≤ x * (j + 1) ∧ x * (j + 1) ≤ 510000 := by
  refine ⟨Int.mul_nonneg h0 (by omega), ?_⟩
  have := Int.mul_le_mul h1 (show j + 1 ≤ 2000 by omega) (by omega) (by omega)
  omega

/-! RecordSum, of both. -/
theorem specSum_loop (b : List Int) (hb : bytesB b = true) (d : Nat) : ∀ (j : Nat) (n : Int), j + d = b.length → 0 ≤ n → n < 65521 →
    Evn fun k => spec_RecordSum.l0 k b n (j : Int) = some ((n + recS (j : Int) (b.drop j)) % 65521) := by
  have hlen := bytesB_length hb
  induction d with
  | zero =>
    intro j n hj h0 h1
    refine Evn.succ (Evn.all fun k => ?_)
    simp only [spec_RecordSum.l0]
    rw [if_neg (by omega), List.drop_of_length_le (by omega)]
    simp only [recS]
    rw [Int.add_zero, Int.emod_eq_of_lt h0 h1]
  | succ d ih =>
    intro j n hj h0 h1
    have hlt : j < b.length := by omega
    have hr := bytesB_range hb hlt
    have hx := rd_drop hlt
    generalize hxx : rd b (j : Int) = x at hr hx
    have hm := byte_mul (j := (j : Int)) hr.1 hr.2 (by omega) (by omega)
    refine Evn.succ (Evn.mp (ih (j + 1) ((n + x * ((j : Int) + 1)) % 65521) (by omega) (by omega) (by omega)) (Evn.all fun k e => ?_))
    simp only [spec_RecordSum.l0]
    rw [if_pos (by omega), if_pos (by omega), hxx, w64 (x := (j : Int) + 1) (by omega) (by omega), Int.mul_comm ((j : Int) + 1) x, w64 (x := x * ((j : Int) + 1)) (by omega) (by omega), w64 (x := n + x * ((j : Int) + 1)) (by omega) (by omega), Int.tmod_eq_emod_of_nonneg (by omega)]
    rw [show ((j : Int) + 1) = ((j + 1 : Nat) : Int) by omega] at e ⊢
    rw [e, hx]
    simp only [recS]
    rw [show (((j : Nat) : Int) + 1) = ((j + 1 : Nat) : Int) by omega]
    rw [Int.emod_add_emod, Int.add_assoc]

theorem specSum (b : List Int) : Evn fun k => spec_RecordSum.f k b = some (recSum b) := by
  unfold recSum
  by_cases hb : bytesB b = true
  · refine Evn.mp (specBytes b) (Evn.mp (specSum_loop b hb b.length 0 0 (by omega) (by omega) (by omega)) (Evn.all fun k e1 e2 => ?_))
    unfold spec_RecordSum.f
    rw [e2, if_pos hb]
    simpa [hb] using e1
  · refine Evn.mp (specBytes b) (Evn.all fun k e2 => ?_)
    unfold spec_RecordSum.f
    rw [e2, if_neg hb]
    simp [hb]

theorem implSum_loop (b : List Int) (hb : bytesB b = true) (d : Nat) : ∀ (j : Nat) (n : Int), j + d = b.length → 0 ≤ n → n ≤ (j : Int) * 510000 →
    Evn fun k => impl_RecordSum.l0 k n b (b.length : Int) (j : Int) = some ((n + recS (j : Int) (b.drop j)) % 65521) := by
  have hlen := bytesB_length hb
  induction d with
  | zero =>
    intro j n hj h0 h1
    refine Evn.succ (Evn.all fun k => ?_)
    simp only [impl_RecordSum.l0]
    rw [if_neg (by omega), List.drop_of_length_le (by omega)]
    simp only [recS]
    rw [Int.add_zero, Int.tmod_eq_emod_of_nonneg h0]
  | succ d ih =>
    intro j n hj h0 h1
    have hlt : j < b.length := by omega
    have hr := bytesB_range hb hlt
    have hx := rd_drop hlt
    generalize hxx : rd b (j : Int) = x at hr hx
    have hm := byte_mul (j := (j : Int)) hr.1 hr.2 (by omega) (by omega)
    refine Evn.succ (Evn.mp (ih (j + 1) (n + x * ((j : Int) + 1)) (by omega) (by omega) (by omega)) (Evn.all fun k e => ?_))
    simp only [impl_RecordSum.l0]
    rw [if_pos (by omega), if_pos (by omega), if_pos (by omega), hxx, w64 (x := (j : Int) + 1) (by omega) (by omega), w64 (x := x * ((j : Int) + 1)) (by omega) (by omega), w64 (x := n + x * ((j : Int) + 1)) (by omega) (by omega)]
    rw [show ((j : Int) + 1) = ((j + 1 : Nat) : Int) by omega] at e ⊢
    rw [e, hx]
    simp only [recS]
    rw [show (((j : Nat) : Int) + 1) = ((j + 1 : Nat) : Int) by omega, Int.add_assoc]

theorem implSum (b : List Int) : Evn fun k => impl_RecordSum.f k b = some (recSum b) := by
  unfold recSum
  by_cases hb : bytesB b = true
  · refine Evn.mp (implBytes b) (Evn.mp (implSum_loop b hb b.length 0 0 (by omega) (by omega) (by omega)) (Evn.all fun k e1 e2 => ?_))
    unfold impl_RecordSum.f
    rw [e2, if_pos hb]
    simpa [hb] using e1
  · refine Evn.mp (implBytes b) (Evn.all fun k e2 => ?_)
    unfold impl_RecordSum.f
    rw [e2, if_neg hb]
    simp [hb]

theorem FnExactRecordSum : laws_FnExactRecordSum.Pure := by
  intro l0 _ _ _
  by_cases hn : l0.length ≤ 1048576
  · refine Evn.some (Evn.mp (toIntS l0 hn) (Evn.mp (specSum l0) (Evn.mp (implSum l0) (Evn.mp (eqIntS_self l0 hn) (Evn.all fun k e4 e3 e2 e1 => ?_)))))
    unfold laws_FnExactRecordSum.f
    rw [if_neg (by omega)]
    simp [e1, e2, e3, e4]
  · refine ⟨0, ?_⟩
    unfold laws_FnExactRecordSum.f
    rw [if_pos (by omega)]

end Go.Proofs.Ytonoieabbmaojaa.Pure
