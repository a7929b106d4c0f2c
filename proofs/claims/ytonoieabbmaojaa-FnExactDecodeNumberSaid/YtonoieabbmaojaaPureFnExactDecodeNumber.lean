/- The program's DecodeNumber answers as the reference's for every list and index, and leaves the list as it was. No condition beyond the row's own. -/
import Derived.Test.YtonoieabbmaojaaPFnExactDecodeNumberx2
import Derived.Test.YtonoieabbmaojaaWSized
namespace Go.Proofs.Ytonoieabbmaojaa.Pure
open Go.RowKit Go.Proofs.Ytonoieabbmaojaa.PFnExactDecodeNumber Go.Proofs.YtonoieabbmaojaaW.PrintWords Go.Proofs.YtonoieabbmaojaaW.PrintLast
set_option linter.unusedVariables false
set_option linter.unusedSimpArgs false

/-! The printed row names 'PrintWords.sized_ints' from inside the seat's own namespace: the word of that name, under that name. -/
end Go.Proofs.Ytonoieabbmaojaa.Pure
namespace Go.Proofs.Ytonoieabbmaojaa
theorem PrintWords.sized_ints : type_of% @Go.Proofs.YtonoieabbmaojaaW.PrintWords.sized_ints := @Go.Proofs.YtonoieabbmaojaaW.PrintWords.sized_ints
end Go.Proofs.Ytonoieabbmaojaa
namespace Go.Proofs.Ytonoieabbmaojaa.Pure
open Go.RowKit Go.Proofs.Ytonoieabbmaojaa.PFnExactDecodeNumber Go.Proofs.YtonoieabbmaojaaW.PrintWords Go.Proofs.YtonoieabbmaojaaW.PrintLast

/-! Eventually: for all large enough numbers of rounds; small lemmas on numbers and lists. -/
def Evn (P : Nat → Prop) : Prop := ∃ K, ∀ k, K ≤ k → P k

theorem Evn.all {P : Nat → Prop} (h : ∀ k, P k) : Evn P := ⟨0, fun k _ => h k⟩

theorem Evn.mp {P Q : Nat → Prop} (hp : Evn P) (hq : Evn fun k => P k → Q k) : Evn Q := by
  obtain ⟨K1, h1⟩ := hp
  obtain ⟨K2, h2⟩ := hq
  exact ⟨max K1 K2, fun k hk => h2 k (by omega) (h1 k (by omega))⟩

theorem Evn.succ {P : Nat → Prop} (h : Evn fun k => P (k + 1)) : Evn P := by
  obtain ⟨K, h⟩ := h
  refine ⟨K + 1, fun k hk => ?_⟩
  obtain ⟨m, rfl⟩ : ∃ m, k = m + 1 := ⟨k - 1, by omega⟩
  exact h m (by omega)

theorem Evn.some {P : Nat → Prop} (h : Evn P) : ∃ k, P k := by
  obtain ⟨K, h⟩ := h
  exact ⟨K, h K (Nat.le_refl K)⟩

theorem w64 {x : Int} (h0 : -9223372036854775808 ≤ x) (h1 : x ≤ 9223372036854775807) : wrap64 x = x := by
  unfold wrap64
  omega

theorem rd_drop {xs : List Int} {j : Nat} (h : j < xs.length) : xs.drop j = rd xs (j : Int) :: xs.drop (j + 1) := by
  rw [List.drop_eq_getElem_cons h]
  simp [rd, List.getD_eq_getElem?_getD, List.getElem?_eq_getElem h]

theorem rd_nat {xs : List Int} {j : Nat} (h : j < xs.length) : rd xs (j : Int) = xs[j] := by
  simp [rd, List.getD_eq_getElem?_getD, List.getElem?_eq_getElem h]

theorem wf64 {x : Int} (h : (Lit.int .i64 x).wf = true) : -9223372036854775808 ≤ x ∧ x ≤ 9223372036854775807 := by
  have h' : (decide (IntKind.i64.min ≤ x) && decide (x ≤ IntKind.i64.max)) = true := h
  rw [Bool.and_eq_true, decide_eq_true_eq, decide_eq_true_eq] at h'
  exact h'

/-! Copies of lists of numbers, and their comparison. -/
theorem toIntS_loop (xs : List Int) (hn : xs.length ≤ 1048576) (d : Nat) : ∀ (j : Nat) (ys : List Int), j + d = xs.length → ys.length = xs.length → ys.take j = xs.take j →
    Evn fun k => laws_toIntS.l0 k xs ys (j : Int) = some xs := by
  induction d with
  | zero =>
    intro j ys hj hl ht
    refine Evn.succ (Evn.all fun k => ?_)
    simp only [laws_toIntS.l0]
    rw [if_neg (by omega)]
    rw [List.take_of_length_le (by omega), List.take_of_length_le (by omega)] at ht
    rw [ht]
  | succ d ih =>
    intro j ys hj hl ht
    have hlt : j < xs.length := by omega
    refine Evn.succ (Evn.mp (ih (j + 1) (ys.set j (rd xs (j : Int))) (by omega) (by simpa using hl) ?_) (Evn.all fun k e => ?_))
    · rw [rd_nat hlt, List.take_succ_eq_append_getElem hlt, ← ht, List.take_succ_eq_append_getElem (by simp; omega)]
      simp [List.take_set_of_le]
    · simp only [laws_toIntS.l0]
      rw [if_pos (by omega), if_pos (by omega), if_pos (by omega), w64 (by omega) (by omega)]
      exact e

theorem toIntS (xs : List Int) (hn : xs.length ≤ 1048576) : Evn fun k => laws_toIntS.f k xs = some xs := by
  refine Evn.mp (toIntS_loop xs hn xs.length 0 (List.replicate xs.length 0) (by omega) (by simp) (by simp)) (Evn.all fun k e => ?_)
  unfold laws_toIntS.f
  rw [if_pos (by omega), if_pos (by omega)]
  exact e


/-! Comparison of lists of numbers. -/
theorem eqIntS_loop (xs ys : List Int) (hl : xs.length = ys.length) (hn : xs.length ≤ 1048576) (d : Nat) : ∀ (j : Nat), j + d = xs.length →
    Evn fun k => laws_eqIntS.l0 k xs ys (j : Int) = some (decide (xs.drop j = ys.drop j)) := by
  induction d with
  | zero =>
    intro j hj
    refine Evn.succ (Evn.all fun k => ?_)
    simp only [laws_eqIntS.l0]
    rw [if_neg (by omega), List.drop_of_length_le (by omega), List.drop_of_length_le (by omega)]
    simp
  | succ d ih =>
    intro j hj
    have hlt : j < xs.length := by omega
    refine Evn.succ (Evn.mp (ih (j + 1) (by omega)) (Evn.all fun k e => ?_))
    simp only [laws_eqIntS.l0]
    rw [if_pos (by omega), if_pos (by omega), if_pos (by omega), w64 (by omega) (by omega)]
    rw [rd_drop hlt, rd_drop (show j < ys.length by omega)]
    by_cases h : rd xs (j : Int) = rd ys (j : Int)
    · rw [if_pos h, h]
      refine Eq.trans e ?_
      simp
    · rw [if_neg h]
      simp [h]

theorem eqIntS (xs ys : List Int) (hn : xs.length ≤ 1048576) : Evn fun k => laws_eqIntS.f k xs ys = some (decide (xs = ys)) := by
  by_cases hl : xs.length = ys.length
  · refine Evn.mp (eqIntS_loop xs ys hl hn xs.length 0 (by omega)) (Evn.all fun k e => ?_)
    unfold laws_eqIntS.f
    rw [if_pos (by omega)]
    simpa using e
  · refine Evn.all fun k => ?_
    unfold laws_eqIntS.f
    rw [if_neg (by omega), decide_eq_false (fun h => hl (by rw [h]))]

theorem eqIntS_self (xs : List Int) (hn : xs.length ≤ 1048576) : Evn fun k => laws_eqIntS.f k xs xs = some true :=
  Evn.mp (eqIntS xs xs hn) (Evn.all fun k e => by rw [e]; simp)

theorem l1In (a b c : Int) : spec_l1In.f a b c = some (decide (b ≤ a ∧ a ≤ c)) := by
  unfold spec_l1In.f
  by_cases h : a ≥ b
  · rw [if_pos h]
    simp [h]
  · rw [if_neg h]
    simp [h]


/-! Valid bytes. -/
def byteB (x : Int) : Bool := decide (0 ≤ x) && decide (x ≤ 255)
def bytesB (b : List Int) : Bool := decide (b.length ≤ 2000) && b.all byteB

theorem specBytes_loop (xs : List Int) (hn : xs.length ≤ 2000) (d : Nat) : ∀ (j : Nat), j + d = xs.length →
    Evn fun k => spec_BytesValid.l0 k xs (j : Int) = some ((xs.drop j).all byteB) := by
  induction d with
  | zero =>
    intro j hj
    refine Evn.succ (Evn.all fun k => ?_)
    simp only [spec_BytesValid.l0]
    rw [if_neg (by omega), List.drop_of_length_le (by omega)]
    rfl
  | succ d ih =>
    intro j hj
    have hlt : j < xs.length := by omega
    refine Evn.succ (Evn.mp (ih (j + 1) (by omega)) (Evn.all fun k e => ?_))
    simp only [spec_BytesValid.l0]
    rw [if_pos (by omega), if_pos (by omega), w64 (by omega) (by omega), rd_drop hlt]
    rw [show ((j : Int) + 1) = ((j + 1 : Nat) : Int) by omega, e]
    unfold spec_l1In.f byteB
    by_cases h : rd xs (j : Int) ≥ 0
    · rw [if_pos h]
      by_cases h2 : rd xs (j : Int) ≤ 255 <;> simp [h, h2]
    · rw [if_neg h]
      simp [h]

theorem specBytes (xs : List Int) : Evn fun k => spec_BytesValid.f k xs = some (bytesB xs) := by
  by_cases hn : xs.length ≤ 2000
  · refine Evn.mp (specBytes_loop xs hn xs.length 0 (by omega)) (Evn.all fun k e => ?_)
    unfold spec_BytesValid.f bytesB
    rw [if_neg (by omega)]
    simpa [hn] using e
  · refine Evn.all fun k => ?_
    unfold spec_BytesValid.f bytesB
    rw [if_pos (by omega)]
    simp [hn]

theorem implBytes_loop (xs : List Int) (hn : xs.length ≤ 2000) (d : Nat) : ∀ (j : Nat), j + d = xs.length →
    Evn fun k => impl_BytesValid.l0 k xs (xs.length : Int) (j : Int) = some ((xs.drop j).all byteB) := by
  induction d with
  | zero =>
    intro j hj
    refine Evn.succ (Evn.all fun k => ?_)
    simp only [impl_BytesValid.l0]
    rw [if_neg (by omega), List.drop_of_length_le (by omega)]
    rfl
  | succ d ih =>
    intro j hj
    have hlt : j < xs.length := by omega
    refine Evn.succ (Evn.mp (ih (j + 1) (by omega)) (Evn.all fun k e => ?_))
    simp only [impl_BytesValid.l0]
    rw [if_pos (by omega), if_pos (by omega), if_pos (by omega), w64 (by omega) (by omega), rd_drop hlt]
    rw [show ((j : Int) + 1) = ((j + 1 : Nat) : Int) by omega, e]
    unfold byteB
    by_cases h : rd xs (j : Int) < 0
    · rw [if_pos h]
      have : ¬ (0 ≤ rd xs (j : Int)) := by omega
      simp [this]
    · rw [if_neg h]
      have h0 : 0 ≤ rd xs (j : Int) := by omega
      by_cases h2 : rd xs (j : Int) > 255
      · rw [if_pos h2]
        have : ¬ (rd xs (j : Int) ≤ 255) := by omega
        simp [this]
      · rw [if_neg h2]
        have : rd xs (j : Int) ≤ 255 := by omega
        simp [h0, this]

theorem implBytes (xs : List Int) : Evn fun k => impl_BytesValid.f k xs = some (bytesB xs) := by
  by_cases hn : xs.length ≤ 2000
  · refine Evn.mp (implBytes_loop xs hn xs.length 0 (by omega)) (Evn.all fun k e => ?_)
    unfold impl_BytesValid.f bytesB
    rw [if_neg (by omega)]
    simpa [hn] using e
  · refine Evn.all fun k => ?_
    unfold impl_BytesValid.f bytesB
    rw [if_pos (by omega)]
    simp [hn]

/-! The model of reading numbers: at most g groups; the value, and how many bytes were read. -/
def decG : Nat → List Int → Bool → Option (Int × Nat)
  | 0, _, _ => none
  | _ + 1, [], _ => none
  | g + 1, x :: r, first =>
    if x < 128 then (if x = 0 ∧ first = false then none else some (x, 1))
    else match decG g r false with
      | none => none
      | some (v, c) => some (x % 128 + 128 * v, c + 1)
def decTail (at_ : Int) : Option (Int × Nat) → Int × Int
  | none => (-1, -1)
  | some (v, c) => (v, at_ + (c : Int))
def decN (b : List Int) (at_ : Int) : Int × Int :=
  if bytesB b = true ∧ 0 ≤ at_ ∧ at_ < (b.length : Int) then decTail at_ (decG 4 (b.drop at_.toNat) true) else (-1, -1)
/-- how many groups are left, and the weight of the next one -/
def weigh (g : Nat) (u : Int) : Prop := (g = 4 ∧ u = 1) ∨ (g = 3 ∧ u = 128) ∨ (g = 2 ∧ u = 16384) ∨ (g = 1 ∧ u = 2097152) ∨ (g = 0 ∧ u = 268435456)
def decAll (n u at_ : Int) : Option (Int × Nat) → Int × Int
  | none => (-1, -1)
  | some (v, c) => (n + u * v, at_ + (c : Int))
theorem bytesB_range {b : List Int} (h : bytesB b = true) {j : Nat} (hj : j < b.length) : 0 ≤ rd b (j : Int) ∧ rd b (j : Int) ≤ 255 := by
  unfold bytesB at h
  rw [Bool.and_eq_true, List.all_eq_true] at h
  have := h.2 b[j] (List.getElem_mem hj)
  rw [rd_nat hj]
  unfold byteB at this
  simpa using this
theorem bytesB_length {b : List Int} (h : bytesB b = true) : b.length ≤ 2000 := by
  unfold bytesB at h
  rw [Bool.and_eq_true] at h
  simpa using h.1
theorem decG_small {g : Nat} {x : Int} {r : List Int} {first : Bool} (hs : x < 128) : decG (g + 1) (x :: r) first = if x = 0 ∧ first = false then none else some (x, 1) := by
  rw [decG, if_pos hs]
theorem decG_big {g : Nat} {x : Int} {r : List Int} {first : Bool} (hs : ¬ x < 128) : decG (g + 1) (x :: r) first = match decG g r false with
      | none => none
      | some (v, c) => some (x % 128 + 128 * v, c + 1) := by
  rw [decG, if_neg hs]
theorem decN_bad {b : List Int} {a : Int} (h : bytesB b = true → ¬ (0 ≤ a ∧ a < (b.length : Int))) : decN b a = (-1, -1) := by
  unfold decN
  rw [if_neg (fun q => h q.1 q.2)]

/-! DecodeNumber, of both. -/
theorem decAll_step (n u x : Int) (j : Nat) (o : Option (Int × Nat)) :
    decAll (n + u * (x % 128)) (u * 128) ((j : Int) + 1) o = decAll n u (j : Int) (match o with | none => none | some (v, c) => some (x % 128 + 128 * v, c + 1)) := by
  cases o with
  | none => rfl
  | some p =>
    obtain ⟨v, c⟩ := p
    simp only [decAll]
    rw [Int.mul_add, Int.mul_assoc]
    refine Prod.ext ?_ ?_
    · simp only; omega
    · simp only; omega

theorem specDec_loop (b : List Int) (hb : bytesB b = true) (a : Int) (h0 : 0 ≤ a) (h1 : a < (b.length : Int)) (g : Nat) :
    ∀ (j : Nat) (n u : Int), weigh g u → (j : Int) + (g : Int) = a + 4 → 0 ≤ n → n < u → j ≤ b.length →
    Evn fun k => spec_DecodeNumber.l0 k b a n u (j : Int) = some (decAll n u (j : Int) (decG g (b.drop j) (decide ((j : Int) = a)))) := by
  have hlen := bytesB_length hb
  induction g with
  | zero =>
    intro j n u hu hj _ _ hjb
    refine Evn.succ (Evn.succ (Evn.all fun k => ?_))
    simp only [spec_DecodeNumber.l0]
    rw [w64 (by omega) (by omega), decide_eq_false (by omega)]
    have e : spec_DecodeNumber.j2 (k + 1) b a n u (j : Int) false = some (-1, -1) := by simp only [spec_DecodeNumber.j2]; rw [if_neg (by simp)]
    split <;> exact e
  | succ g ih =>
    intro j n u hu hj hn hnu hjb
    by_cases hlt : j < b.length
    · have hr := bytesB_range hb hlt
      have hx := rd_drop hlt
      generalize hxx : rd b (j : Int) = x at hr hx
      have hu2 : weigh g (u * 128) := by unfold weigh at hu ⊢; omega
      have hg : g ≤ 3 := by unfold weigh at hu; omega
      have hub : 1 ≤ u ∧ u ≤ 2097152 := by unfold weigh at hu; omega
      have hm : 0 ≤ x % 128 ∧ x % 128 ≤ 127 := by omega
      have hmul : 0 ≤ u * (x % 128) ∧ u * (x % 128) ≤ u * 127 := ⟨Int.mul_nonneg (by omega) (by omega), Int.mul_le_mul_of_nonneg_left hm.2 (by omega)⟩
      refine Evn.succ (Evn.succ (Evn.mp (ih (j + 1) (n + u * (x % 128)) (u * 128) hu2 (by omega) (by omega) (by omega) (by omega)) (Evn.all fun k e => ?_)))
      simp only [spec_DecodeNumber.l0]
      rw [if_pos (by omega), w64 (x := a + 4) (by omega) (by omega), decide_eq_true (by omega)]
      simp only [spec_DecodeNumber.j2, if_true]
      rw [if_pos (by omega), if_pos (by omega), hxx, hx, Int.tmod_eq_emod_of_nonneg (by omega), w64 (x := u * (x % 128)) (by omega) (by omega), w64 (x := n + u * (x % 128)) (by omega) (by omega), w64 (x := (j : Int) + 1) (by omega) (by omega), w64 (x := u * 128) (by omega) (by omega)]
      by_cases hs : x < 128
      · rw [if_pos hs]
        have hxm : x % 128 = x := by omega
        rw [decG_small hs, hxm]
        by_cases hz : x = 0
        · rw [if_pos hz]
          by_cases hja : (j : Int) = a
          · rw [if_neg (by omega), decide_eq_true hja]
            simp [decAll]
          · rw [if_pos (by omega), decide_eq_false hja]
            simp [hz, decAll]
        · rw [if_neg hz]
          simp [hz, decAll]
      · rw [if_neg hs]
        have ej : ((j : Int) + 1) = ((j + 1 : Nat) : Int) := by omega
        have step := decAll_step n u x j (decG g (b.drop (j + 1)) false)
        rw [ej, e, decide_eq_false (by omega), ← ej, step]
        rw [decG_big hs]
    · refine Evn.succ (Evn.succ (Evn.all fun k => ?_))
      simp only [spec_DecodeNumber.l0]
      rw [if_neg (by omega), List.drop_of_length_le (by omega)]
      simp [spec_DecodeNumber.j2, decG, decAll]

theorem specDec (b : List Int) (a : Int) : Evn fun k => spec_DecodeNumber.f k b a = some (decN b a) := by
  by_cases hb : bytesB b = true
  · have hlen := bytesB_length hb
    by_cases ha : 0 ≤ a ∧ a < (b.length : Int)
    · obtain ⟨j, rfl⟩ : ∃ j : Nat, a = (j : Int) := ⟨a.toNat, by omega⟩
      refine Evn.mp (specBytes b) (Evn.succ (Evn.mp (specDec_loop b hb (j : Int) ha.1 ha.2 4 j 0 1 (.inl ⟨rfl, rfl⟩) (by omega) (by omega) (by omega) (by omega)) (Evn.all fun k e1 e2 => ?_)))
      unfold spec_DecodeNumber.f decN
      rw [e2, hb]
      simp only [Option.bind_some, if_true]
      rw [w64 (by omega) (by omega), l1In, decide_eq_true (by omega)]
      simp only [Option.bind_some, Bool.not_true, spec_DecodeNumber.j0]
      rw [if_neg (by simp), e1, if_pos ⟨trivial, ha⟩, decide_eq_true rfl]
      simp only [Int.toNat_natCast]
      cases decG 4 (b.drop j) true with
      | none => rfl
      | some p => obtain ⟨v, c⟩ := p; simp [decAll, decTail]
    · refine Evn.mp (specBytes b) (Evn.succ (Evn.all fun k e2 => ?_))
      rw [decN_bad fun _ => ha]
      unfold spec_DecodeNumber.f
      rw [e2, hb]
      simp only [Option.bind_some, if_true]
      rw [w64 (by omega) (by omega), l1In, decide_eq_false (by omega)]
      simp [spec_DecodeNumber.j0]
  · refine Evn.mp (specBytes b) (Evn.succ (Evn.all fun k e2 => ?_))
    rw [decN_bad fun h => absurd h hb]
    unfold spec_DecodeNumber.f
    rw [e2]
    simp [hb, spec_DecodeNumber.j0]

theorem implDec_loop (b : List Int) (hb : bytesB b = true) (a : Int) (h0 : 0 ≤ a) (h1 : a < (b.length : Int)) (g : Nat) :
    ∀ (j : Nat) (n u : Int), weigh g u → (j : Int) + (g : Int) = a + 4 → 0 ≤ n → n < u → j ≤ b.length →
    Evn fun k => impl_DecodeNumber.l0 k b a n u (j : Int) = some (decAll n u (j : Int) (decG g (b.drop j) (decide ((j : Int) = a)))) := by
  have hlen := bytesB_length hb
  induction g with
  | zero =>
    intro j n u hu hj _ _ hjb
    refine Evn.succ (Evn.succ (Evn.all fun k => ?_))
    simp only [impl_DecodeNumber.l0]
    rw [decide_eq_false (by unfold weigh at hu; omega)]
    have e : impl_DecodeNumber.j2 (k + 1) b a n u (j : Int) false = some (-1, -1) := by simp only [impl_DecodeNumber.j2]; rw [if_neg (by simp)]
    split <;> exact e
  | succ g ih =>
    intro j n u hu hj hn hnu hjb
    by_cases hlt : j < b.length
    · have hr := bytesB_range hb hlt
      have hx := rd_drop hlt
      generalize hxx : rd b (j : Int) = x at hr hx
      have hu2 : weigh g (u * 128) := by unfold weigh at hu ⊢; omega
      have hg : g ≤ 3 := by unfold weigh at hu; omega
      have hub : 1 ≤ u ∧ u ≤ 2097152 := by unfold weigh at hu; omega
      have hm : 0 ≤ x % 128 ∧ x % 128 ≤ 127 := by omega
      have hmul : 0 ≤ u * (x % 128) ∧ u * (x % 128) ≤ u * 127 := ⟨Int.mul_nonneg (by omega) (by omega), Int.mul_le_mul_of_nonneg_left hm.2 (by omega)⟩
      refine Evn.succ (Evn.succ (Evn.mp (ih (j + 1) (n + u * (x % 128)) (u * 128) hu2 (by omega) (by omega) (by omega) (by omega)) (Evn.all fun k e => ?_)))
      simp only [impl_DecodeNumber.l0]
      rw [if_pos (by omega), decide_eq_true (by omega)]
      simp only [impl_DecodeNumber.j2, if_true]
      rw [if_pos (by omega), if_pos (by omega), hxx, hx, Int.tmod_eq_emod_of_nonneg (by omega), Int.mul_comm (x % 128) u, w64 (x := u * (x % 128)) (by omega) (by omega), w64 (x := n + u * (x % 128)) (by omega) (by omega), w64 (x := (j : Int) + 1) (by omega) (by omega), w64 (x := u * 128) (by omega) (by omega)]
      by_cases hs : x < 128
      · rw [if_neg (by omega)]
        have hxm : x % 128 = x := by omega
        rw [decG_small hs, hxm]
        by_cases hz : x = 0
        · rw [if_pos hz]
          by_cases hja : (j : Int) = a
          · rw [if_neg (by omega), decide_eq_true hja]
            simp [decAll]
          · rw [if_pos (by omega), decide_eq_false hja]
            simp [hz, decAll]
        · rw [if_neg hz]
          simp [hz, decAll]
      · rw [if_pos (by omega)]
        have ej : ((j : Int) + 1) = ((j + 1 : Nat) : Int) := by omega
        have step := decAll_step n u x j (decG g (b.drop (j + 1)) false)
        rw [ej, e, decide_eq_false (by omega), ← ej, step]
        rw [decG_big hs]
    · refine Evn.succ (Evn.succ (Evn.all fun k => ?_))
      simp only [impl_DecodeNumber.l0]
      rw [if_neg (by omega), List.drop_of_length_le (by omega)]
      simp [impl_DecodeNumber.j2, decG, decAll]

theorem implDec (b : List Int) (a : Int) : Evn fun k => impl_DecodeNumber.f k b a = some (decN b a) := by
  by_cases hb : bytesB b = true
  · have hlen := bytesB_length hb
    by_cases ha : 0 ≤ a ∧ a < (b.length : Int)
    · obtain ⟨j, rfl⟩ : ∃ j : Nat, a = (j : Int) := ⟨a.toNat, by omega⟩
      refine Evn.mp (implBytes b) (Evn.succ (Evn.mp (implDec_loop b hb (j : Int) ha.1 ha.2 4 j 0 1 (.inl ⟨rfl, rfl⟩) (by omega) (by omega) (by omega) (by omega)) (Evn.all fun k e1 e2 => ?_)))
      unfold impl_DecodeNumber.f decN
      rw [e2, hb]
      simp only [Option.bind_some, if_true]
      rw [if_neg (by omega), decide_eq_false (by omega)]
      simp only [impl_DecodeNumber.j0]
      rw [if_neg (by simp), e1, if_pos ⟨trivial, ha⟩, decide_eq_true rfl]
      simp only [Int.toNat_natCast]
      cases decG 4 (b.drop j) true with
      | none => rfl
      | some p => obtain ⟨v, c⟩ := p; simp [decAll, decTail]
    · refine Evn.mp (implBytes b) (Evn.succ (Evn.all fun k e2 => ?_))
      rw [decN_bad fun _ => ha]
      unfold impl_DecodeNumber.f
      rw [e2, hb]
      simp only [Option.bind_some, if_true]
      by_cases h0 : a < 0
      · rw [if_pos h0]
        simp [impl_DecodeNumber.j0]
      · rw [if_neg h0, decide_eq_true (by omega)]
        simp [impl_DecodeNumber.j0]
  · refine Evn.mp (implBytes b) (Evn.succ (Evn.all fun k e2 => ?_))
    rw [decN_bad fun h => absurd h hb]
    unfold impl_DecodeNumber.f
    rw [e2]
    simp [hb, impl_DecodeNumber.j0]

theorem FnExactDecodeNumber : laws_FnExactDecodeNumber.Pure := by
  intro l0 a _ _ _ _
  by_cases hn : l0.length ≤ 1048576
  · refine Evn.some (Evn.succ (Evn.mp (toIntS l0 hn) (Evn.mp (eqIntS_self l0 hn) ?_)))
    obtain ⟨K1, h1⟩ := specDec l0 a
    obtain ⟨K2, h2⟩ := implDec l0 a
    obtain ⟨K3, h3⟩ := toIntS l0 hn
    refine ⟨max K1 (max K2 K3), fun k hk e4 e3 => ?_⟩
    unfold laws_FnExactDecodeNumber.f
    rw [if_neg (by omega), h3 (k + 1) (by omega)]
    simp only [Option.bind_some]
    rw [h1 (k + 1) (by omega)]
    simp only [Option.bind_some]
    rw [h2 (k + 1) (by omega)]
    simp [laws_FnExactDecodeNumber.j0, e3, e4]
  · refine ⟨0, ?_⟩
    unfold laws_FnExactDecodeNumber.f
    rw [if_pos (by omega)]

end Go.Proofs.Ytonoieabbmaojaa.Pure
