/- The program's EncodeNumber answers as the reference's for every number, each time in memory of its own. No condition beyond the row's own. -/
import Derived.Test.YtonoieabbmaojaaPFnExactEncodeNumberx1
namespace Go.Proofs.Ytonoieabbmaojaa.Pure
open Go.RowKit Go.Proofs.Ytonoieabbmaojaa.PFnExactEncodeNumber Go.Proofs.YtonoieabbmaojaaW.PrintWords Go.Proofs.YtonoieabbmaojaaW.PrintLast
set_option linter.unusedVariables false
set_option linter.unusedSimpArgs false

/-! Eventually: for all large enough numbers of rounds; small lemmas on numbers and lists. -/
def Evn (P : Nat → Prop) : Prop := ∃ K, ∀ k, K ≤ k → P k

theorem Evn.all {P : Nat → Prop} (h : ∀ k, P k) : Evn P := ⟨0, fun k _ => h k⟩

theorem Evn.mp {P Q : Nat → Prop} (hp : Evn P) (hq : Evn fun k => P k → Q k) : Evn Q := by
  obtain ⟨K1, h1⟩ := hp
  obtain ⟨K2, h2⟩ := hq
  exact ⟨max K1 K2, fun k hk => h2 k (by omega) (h1 k (by omega))⟩

theorem Evn.succ {P : Nat → Prop} (h : Evn fun k => P (k + 1)) : Evn P := by
  obtain ⟨K, h⟩ := h
  refine ⟨K + 1, fun k hk => ?_⟩
  obtain ⟨m, rfl⟩ : ∃ m, k = m + 1 := ⟨k - 1, by omega⟩
  exact h m (by omega)

theorem Evn.some {P : Nat → Prop} (h : Evn P) : ∃ k, P k := by
  obtain ⟨K, h⟩ := h
  exact ⟨K, h K (Nat.le_refl K)⟩

theorem w64 {x : Int} (h0 : -9223372036854775808 ≤ x) (h1 : x ≤ 9223372036854775807) : wrap64 x = x := by
  unfold wrap64
  omega

theorem rd_drop {xs : List Int} {j : Nat} (h : j < xs.length) : xs.drop j = rd xs (j : Int) :: xs.drop (j + 1) := by
  rw [List.drop_eq_getElem_cons h]
  simp [rd, List.getD_eq_getElem?_getD, List.getElem?_eq_getElem h]

theorem rd_nat {xs : List Int} {j : Nat} (h : j < xs.length) : rd xs (j : Int) = xs[j] := by
  simp [rd, List.getD_eq_getElem?_getD, List.getElem?_eq_getElem h]

theorem wf64 {x : Int} (h : (Lit.int .i64 x).wf = true) : -9223372036854775808 ≤ x ∧ x ≤ 9223372036854775807 := by
  have h' : (decide (IntKind.i64.min ≤ x) && decide (x ≤ IntKind.i64.max)) = true := h
  rw [Bool.and_eq_true, decide_eq_true_eq, decide_eq_true_eq] at h'
  exact h'

/-! Comparison of lists of numbers. -/
theorem eqIntS_loop (xs ys : List Int) (hl : xs.length = ys.length) (hn : xs.length ≤ 1048576) (d : Nat) : ∀ (j : Nat), j + d = xs.length →
    Evn fun k => laws_eqIntS.l0 k xs ys (j : Int) = some (decide (xs.drop j = ys.drop j)) := by
  induction d with
  | zero =>
    intro j hj
    refine Evn.succ (Evn.all fun k => ?_)
    simp only [laws_eqIntS.l0]
    rw [if_neg (by omega), List.drop_of_length_le (by omega), List.drop_of_length_le (by omega)]
    simp
  | succ d ih =>
    intro j hj
    have hlt : j < xs.length := by omega
    refine Evn.succ (Evn.mp (ih (j + 1) (by omega)) (Evn.all fun k e => ?_))
    simp only [laws_eqIntS.l0]
    rw [if_pos (by omega), if_pos (by omega), if_pos (by omega), w64 (by omega) (by omega)]
    rw [rd_drop hlt, rd_drop (show j < ys.length by omega)]
    by_cases h : rd xs (j : Int) = rd ys (j : Int)
    · rw [if_pos h, h]
      refine Eq.trans e ?_
      simp
    · rw [if_neg h]
      simp [h]

theorem eqIntS (xs ys : List Int) (hn : xs.length ≤ 1048576) : Evn fun k => laws_eqIntS.f k xs ys = some (decide (xs = ys)) := by
  by_cases hl : xs.length = ys.length
  · refine Evn.mp (eqIntS_loop xs ys hl hn xs.length 0 (by omega)) (Evn.all fun k e => ?_)
    unfold laws_eqIntS.f
    rw [if_pos (by omega)]
    simpa using e
  · refine Evn.all fun k => ?_
    unfold laws_eqIntS.f
    rw [if_neg (by omega), decide_eq_false (fun h => hl (by rw [h]))]

theorem eqIntS_self (xs : List Int) (hn : xs.length ≤ 1048576) : Evn fun k => laws_eqIntS.f k xs xs = some true :=
  Evn.mp (eqIntS xs xs hn) (Evn.all fun k e => by rw [e]; simp)

/-! Marks: what is written into a list is found there. -/
def upTo (n : Nat) (k : Int) : List Int := (List.range n).map fun (i : Nat) => k + (i : Int)

theorem upTo_length (n : Nat) (k : Int) : (upTo n k).length = n := by simp [upTo]

theorem markIntS_loop (n : Nat) (hn : n ≤ 1048576) (q : Int) (h0 : 0 ≤ q) (h1 : q ≤ 1099511627776) (d : Nat) : ∀ (j : Nat) (xs : List Int), j + d = n → xs.length = n → xs.take j = (upTo n q).take j →
    Evn fun k => laws_markIntS.l0 k xs (q + (j : Int)) (j : Int) = some (q + (n : Int), upTo n q) := by
  induction d with
  | zero =>
    intro j xs hj hl ht
    refine Evn.succ (Evn.all fun k => ?_)
    simp only [laws_markIntS.l0]
    rw [if_neg (by omega)]
    rw [List.take_of_length_le (by omega), List.take_of_length_le (by rw [upTo_length]; omega)] at ht
    rw [ht, show j = n by omega]
  | succ d ih =>
    intro j xs hj hl ht
    refine Evn.succ (Evn.mp (ih (j + 1) (xs.set j (q + (j : Int))) (by omega) (by simpa using hl) ?_) (Evn.all fun k e => ?_))
    · rw [List.take_succ_eq_append_getElem (by simp; omega), List.take_succ_eq_append_getElem (by rw [upTo_length]; omega), ← ht]
      simp [List.take_set_of_le, upTo]
    · simp only [laws_markIntS.l0]
      rw [if_pos (by omega), if_pos (by omega), w64 (x := q + (j : Int) + 1) (by omega) (by omega), w64 (x := (j : Int) + 1) (by omega) (by omega)]
      rw [show q + (j : Int) + 1 = q + ((j + 1 : Nat) : Int) by omega]
      exact e

theorem markIntS (xs : List Int) (hn : xs.length ≤ 1048576) (q : Int) (h0 : 0 ≤ q) (h1 : q ≤ 1099511627776) :
    Evn fun k => laws_markIntS.f k xs q = some (q + (xs.length : Int), upTo xs.length q) := by
  refine Evn.mp (markIntS_loop xs.length hn q h0 h1 xs.length 0 xs (by omega) rfl (by simp)) (Evn.all fun k e => ?_)
  unfold laws_markIntS.f
  simpa using e

theorem heldIntS_loop (n : Nat) (hn : n ≤ 1048576) (q : Int) (h0 : 0 ≤ q) (h1 : q ≤ 1099511627776) (d : Nat) : ∀ (j : Nat), j + d = n →
    Evn fun k => laws_heldIntS.l0 k (upTo n q) (q + (j : Int)) (j : Int) = some (q + (n : Int)) := by
  induction d with
  | zero =>
    intro j hj
    refine Evn.succ (Evn.all fun k => ?_)
    simp only [laws_heldIntS.l0]
    rw [if_neg (by rw [upTo_length]; omega), show j = n by omega]
  | succ d ih =>
    intro j hj
    refine Evn.succ (Evn.mp (ih (j + 1) (by omega)) (Evn.all fun k e => ?_))
    simp only [laws_heldIntS.l0]
    rw [if_pos (by rw [upTo_length]; omega), if_pos (by omega), rd_nat (by rw [upTo_length]; omega)]
    rw [if_pos (by simp [upTo]), w64 (x := q + (j : Int) + 1) (by omega) (by omega), w64 (x := (j : Int) + 1) (by omega) (by omega)]
    rw [show q + (j : Int) + 1 = q + ((j + 1 : Nat) : Int) by omega]
    exact e

theorem heldIntS (n : Nat) (hn : n ≤ 1048576) (q : Int) (h0 : 0 ≤ q) (h1 : q ≤ 1099511627776) : Evn fun k => laws_heldIntS.f k (upTo n q) q = some (q + (n : Int)) := by
  refine Evn.mp (heldIntS_loop n hn q h0 h1 n 0 (by omega)) (Evn.all fun k e => ?_)
  unfold laws_heldIntS.f
  simpa using e

/-! The model of numbers as bytes. -/
def encG : Nat → Nat → List Int
  | 0, n => [(n : Int)]
  | g + 1, n => if n < 128 then [(n : Int)] else (((n % 128 : Nat) : Int) + 128) :: encG g (n / 128)
def encN (n : Int) : List Int := if 0 ≤ n ∧ n ≤ 268435455 then encG 4 n.toNat else []
theorem encG_length (g : Nat) : ∀ n, 1 ≤ (encG g n).length ∧ (encG g n).length ≤ g + 1 := by
  induction g with
  | zero => intro n; simp [encG]
  | succ g ih =>
    intro n
    unfold encG
    split
    · simp
    · have := ih (n / 128)
      simp
      omega
theorem encN_length (n : Int) : (encN n).length ≤ 5 := by
  unfold encN
  split
  · exact (encG_length 4 _).2
  · simp

theorem l1In (a b c : Int) : spec_l1In.f a b c = some (decide (b ≤ a ∧ a ≤ c)) := by
  unfold spec_l1In.f
  by_cases h : a ≥ b
  · rw [if_pos h]
    simp [h]
  · rw [if_neg h]
    simp [h]


/-! EncodeNumber, of both. -/
theorem specEnc_loop (g : Nat) : ∀ (n : Nat) (acc : List Int), n < 128 ^ (g + 1) → n ≤ 268435455 → acc.length + g ≤ 1099511627776 →
    Evn fun k => spec_EncodeNumber.l0 k (n : Int) acc = some (acc ++ encG g n) := by
  induction g with
  | zero =>
    intro n acc hn _ ha
    refine Evn.succ (Evn.all fun k => ?_)
    simp only [spec_EncodeNumber.l0]
    rw [if_neg (by omega), if_pos (by omega)]
    rfl
  | succ g ih =>
    intro n acc hn hm ha
    by_cases h : n < 128
    · refine Evn.succ (Evn.all fun k => ?_)
      simp only [spec_EncodeNumber.l0]
      rw [if_neg (by omega), if_pos (by omega)]
      simp [encG, h]
    · have hlt : n / 128 < 128 ^ (g + 1) := by rw [Nat.pow_succ, Nat.mul_comm] at hn; exact Nat.div_lt_of_lt_mul hn
      refine Evn.succ (Evn.mp (ih (n / 128) (acc ++ [((n % 128 : Nat) : Int) + 128]) hlt (by omega) (by rw [List.length_append]; simp only [List.length_cons, List.length_nil]; omega)) (Evn.all fun k e => ?_))
      simp only [spec_EncodeNumber.l0]
      rw [if_pos (by omega), if_pos (by omega), Int.tdiv_eq_ediv_of_nonneg (by omega), Int.tmod_eq_emod_of_nonneg (by omega), w64 (by omega) (by omega), w64 (by omega) (by omega)]
      rw [show (n : Int) / 128 = ((n / 128 : Nat) : Int) by omega, show 128 + (n : Int) % 128 = ((n % 128 : Nat) : Int) + 128 by omega, e]
      simp [encG, h]

theorem specEnc (n : Int) : Evn fun k => spec_EncodeNumber.f k n = some (encN n) := by
  unfold encN
  by_cases h : 0 ≤ n ∧ n ≤ 268435455
  · refine Evn.mp (specEnc_loop 4 n.toNat [] (by omega) (by omega) (by simp)) (Evn.all fun k e => ?_)
    unfold spec_EncodeNumber.f
    rw [show ((n.toNat : Nat) : Int) = n by omega] at e
    simpa [l1In, h] using e
  · refine Evn.all fun k => ?_
    unfold spec_EncodeNumber.f
    simp [l1In, h]

theorem implEnc_loop (g : Nat) : ∀ (n : Nat) (acc : List Int), n < 128 ^ (g + 1) → n ≤ 268435455 → acc.length + g ≤ 1099511627776 →
    Evn fun k => impl_EncodeNumber.l0 k (n : Int) acc = some (acc ++ encG g n) := by
  induction g with
  | zero =>
    intro n acc hn _ ha
    refine Evn.succ (Evn.all fun k => ?_)
    simp only [impl_EncodeNumber.l0]
    rw [if_neg (by omega), if_pos (by omega)]
    rfl
  | succ g ih =>
    intro n acc hn hm ha
    by_cases h : n < 128
    · refine Evn.succ (Evn.all fun k => ?_)
      simp only [impl_EncodeNumber.l0]
      rw [if_neg (by omega), if_pos (by omega)]
      simp [encG, h]
    · have hlt : n / 128 < 128 ^ (g + 1) := by rw [Nat.pow_succ, Nat.mul_comm] at hn; exact Nat.div_lt_of_lt_mul hn
      refine Evn.succ (Evn.mp (ih (n / 128) (acc ++ [((n % 128 : Nat) : Int) + 128]) hlt (by omega) (by rw [List.length_append]; simp only [List.length_cons, List.length_nil]; omega)) (Evn.all fun k e => ?_))
      simp only [impl_EncodeNumber.l0]
      rw [if_pos (by omega), if_pos (by omega), Int.tdiv_eq_ediv_of_nonneg (by omega), Int.tmod_eq_emod_of_nonneg (by omega), w64 (by omega) (by omega), w64 (by omega) (by omega)]
      rw [show (n : Int) / 128 = ((n / 128 : Nat) : Int) by omega, show (n : Int) % 128 + 128 = ((n % 128 : Nat) : Int) + 128 by omega, e]
      simp [encG, h]

theorem implEnc (n : Int) : Evn fun k => impl_EncodeNumber.f k n = some (encN n) := by
  unfold encN
  by_cases h0 : n < 0
  · refine Evn.succ (Evn.all fun k => ?_)
    unfold impl_EncodeNumber.f
    rw [if_pos h0, if_neg (by omega)]
    simp [impl_EncodeNumber.j0]
  · by_cases h : n ≤ 268435455
    · refine Evn.succ (Evn.mp (implEnc_loop 4 n.toNat [] (by omega) (by omega) (by simp)) (Evn.all fun k e => ?_))
      unfold impl_EncodeNumber.f
      rw [show ((n.toNat : Nat) : Int) = n by omega] at e
      rw [if_neg h0, if_pos (by omega), decide_eq_false (by omega)]
      simpa [impl_EncodeNumber.j0] using e
    · refine Evn.succ (Evn.all fun k => ?_)
      unfold impl_EncodeNumber.f
      rw [if_neg h0, if_neg (by omega), decide_eq_true (by omega)]
      simp [impl_EncodeNumber.j0]

theorem FnExactEncodeNumber : laws_FnExactEncodeNumber.Pure := by
  intro n _
  have hl := encN_length n
  refine Evn.some (Evn.mp (specEnc n) (Evn.mp (implEnc n) (Evn.mp (eqIntS_self (encN n) (by omega)) (Evn.mp (markIntS (encN n) (by omega) 1 (by omega) (by omega)) (Evn.mp (heldIntS (encN n).length (by omega) 1 (by omega) (by omega)) (Evn.all fun k e5 e4 e3 e2 e1 => ?_))))))
  unfold laws_FnExactEncodeNumber.f
  simp only [e1, e2, e3, e4, e5, Option.bind_some, if_true]
  rw [if_neg (by omega), if_neg (by omega)]

end Go.Proofs.Ytonoieabbmaojaa.Pure
