/- The program's DiskValid answers as the reference's for every disk, and leaves the disk as it was. No condition beyond the row's own. -/
import Derived.Test.YtmljefpcjlelmaaStmFnExactDiskValid
namespace Go.Proofs.Ytmljefpcjlelmaa.Pure
open Go.RowKit Go.Proofs.Ytmljefpcjlelmaa.PFnExactDiskValid Go.Proofs.YtmljefpcjlelmaaW.PrintWords Go.Proofs.YtmljefpcjlelmaaW.PrintLast
set_option linter.unusedVariables false
set_option linter.unusedSimpArgs false

/-! Eventually: for all large enough numbers of rounds; small lemmas on numbers and lists. -/
def Evn (P : Nat → Prop) : Prop := ∃ K, ∀ k, K ≤ k → P k

theorem Evn.all {P : Nat → Prop} (h : ∀ k, P k) : Evn P := ⟨0, fun k _ => h k⟩

theorem Evn.mp {P Q : Nat → Prop} (hp : Evn P) (hq : Evn fun k => P k → Q k) : Evn Q := by
  obtain ⟨K1, h1⟩ := hp
  obtain ⟨K2, h2⟩ := hq
  exact ⟨max K1 K2, fun k hk => h2 k (by omega) (h1 k (by omega))⟩

theorem Evn.succ {P : Nat → Prop} (h : Evn fun k => P (k + 1)) : Evn P := by
  obtain ⟨K, h⟩ := h
  refine ⟨K + 1, fun k hk => ?_⟩
  obtain ⟨m, rfl⟩ : ∃ m, k = m + 1 := ⟨k - 1, by omega⟩
  exact h m (by omega)

theorem Evn.some {P : Nat → Prop} (h : Evn P) : ∃ k, P k := by
  obtain ⟨K, h⟩ := h
  exact ⟨K, h K (Nat.le_refl K)⟩

theorem w64 {x : Int} (h0 : -9223372036854775808 ≤ x) (h1 : x ≤ 9223372036854775807) : wrap64 x = x := by
  unfold wrap64
  omega

theorem rd_drop {xs : List Int} {j : Nat} (h : j < xs.length) : xs.drop j = rd xs (j : Int) :: xs.drop (j + 1) := by
  rw [List.drop_eq_getElem_cons h]
  simp [rd, List.getD_eq_getElem?_getD, List.getElem?_eq_getElem h]

theorem rd_nat {xs : List Int} {j : Nat} (h : j < xs.length) : rd xs (j : Int) = xs[j] := by
  simp [rd, List.getD_eq_getElem?_getD, List.getElem?_eq_getElem h]

theorem wf64 {x : Int} (h : (Lit.int .i64 x).wf = true) : -9223372036854775808 ≤ x ∧ x ≤ 9223372036854775807 := by
  have h' : (decide (IntKind.i64.min ≤ x) && decide (x ≤ IntKind.i64.max)) = true := h
  rw [Bool.and_eq_true, decide_eq_true_eq, decide_eq_true_eq] at h'
  exact h'

/-! Valid bytes. -/
def byteB (x : Int) : Bool := decide (0 ≤ x) && decide (x ≤ 255)
def bytesB (b : List Int) : Bool := decide (b.length ≤ 2000) && b.all byteB


/-! The model of reading numbers: at most g groups; the value, and how many bytes were read. -/
def decG : Nat → List Int → Bool → Option (Int × Nat)
  | 0, _, _ => none
  | _ + 1, [], _ => none
  | g + 1, x :: r, first =>
    if x < 128 then (if x = 0 ∧ first = false then none else some (x, 1))
    else match decG g r false with
      | none => none
      | some (v, c) => some (x % 128 + 128 * v, c + 1)
def decTail (at_ : Int) : Option (Int × Nat) → Int × Int
  | none => (-1, -1)
  | some (v, c) => (v, at_ + (c : Int))
def decN (b : List Int) (at_ : Int) : Int × Int :=
  if bytesB b = true ∧ 0 ≤ at_ ∧ at_ < (b.length : Int) then decTail at_ (decG 4 (b.drop at_.toNat) true) else (-1, -1)
/-- how many groups are left, and the weight of the next one -/
def weigh (g : Nat) (u : Int) : Prop := (g = 4 ∧ u = 1) ∨ (g = 3 ∧ u = 128) ∨ (g = 2 ∧ u = 16384) ∨ (g = 1 ∧ u = 2097152) ∨ (g = 0 ∧ u = 268435456)
def decAll (n u at_ : Int) : Option (Int × Nat) → Int × Int
  | none => (-1, -1)
  | some (v, c) => (n + u * v, at_ + (c : Int))
theorem bytesB_range {b : List Int} (h : bytesB b = true) {j : Nat} (hj : j < b.length) : 0 ≤ rd b (j : Int) ∧ rd b (j : Int) ≤ 255 := by
  unfold bytesB at h
  rw [Bool.and_eq_true, List.all_eq_true] at h
  have := h.2 b[j] (List.getElem_mem hj)
  rw [rd_nat hj]
  unfold byteB at this
  simpa using this
theorem bytesB_length {b : List Int} (h : bytesB b = true) : b.length ≤ 2000 := by
  unfold bytesB at h
  rw [Bool.and_eq_true] at h
  simpa using h.1
theorem decG_small {g : Nat} {x : Int} {r : List Int} {first : Bool} (hs : x < 128) : decG (g + 1) (x :: r) first = if x = 0 ∧ first = false then none else some (x, 1) := by
  rw [decG, if_pos hs]
theorem decG_big {g : Nat} {x : Int} {r : List Int} {first : Bool} (hs : ¬ x < 128) : decG (g + 1) (x :: r) first = match decG g r false with
      | none => none
      | some (v, c) => some (x % 128 + 128 * v, c + 1) := by
  rw [decG, if_neg hs]
theorem decN_bad {b : List Int} {a : Int} (h : bytesB b = true → ¬ (0 ≤ a ∧ a < (b.length : Int))) : decN b a = (-1, -1) := by
  unfold decN
  rw [if_neg (fun q => h q.1 q.2)]
theorem decAll_step (n u x : Int) (j : Nat) (o : Option (Int × Nat)) :
    decAll (n + u * (x % 128)) (u * 128) ((j : Int) + 1) o = decAll n u (j : Int) (match o with | none => none | some (v, c) => some (x % 128 + 128 * v, c + 1)) := by
  cases o with
  | none => rfl
  | some p =>
    obtain ⟨v, c⟩ := p
    simp only [decAll]
    rw [Int.mul_add, Int.mul_assoc]
    refine Prod.ext ?_ ?_
    · simp only; omega
    · simp only; omega


/-! The model of disks. -/
def dskG : Int → List (List Int) → Bool
  | t, [] => decide (t ≤ 2000)
  | t, w :: r => decide (w.length ≠ 0) && (bytesB w && dskG (t + (w.length : Int)) r)
def dskB (safe : List Int) (loose : List (List Int)) : Bool := decide (loose.length ≤ 8) && (bytesB safe && dskG (safe.length : Int) loose)
theorem rdL_nat {l : List (List Int)} {j : Nat} (h : j < l.length) : rd_L1 l (j : Int) = l[j] := by
  simp [rd_L1, List.getD_eq_getElem?_getD, List.getElem?_eq_getElem h]
theorem rdL_drop {l : List (List Int)} {j : Nat} (h : j < l.length) : l.drop j = rd_L1 l (j : Int) :: l.drop (j + 1) := by
  rw [rdL_nat h, List.drop_eq_getElem_cons h]
theorem rdL_mem {l : List (List Int)} {j : Nat} (h : j < l.length) : rd_L1 l (j : Int) ∈ l := by
  rw [rdL_nat h]
  exact List.getElem_mem h

theorem l1In (a b c : Int) : spec_l1In.f a b c = some (decide (b ≤ a ∧ a ≤ c)) := by
  unfold spec_l1In.f
  by_cases h : a ≥ b
  · rw [if_pos h]
    simp [h]
  · rw [if_neg h]
    simp [h]


theorem specBytes_loop (xs : List Int) (hn : xs.length ≤ 2000) (d : Nat) : ∀ (j : Nat), j + d = xs.length →
    Evn fun k => spec_BytesValid.l0 k xs (j : Int) = some ((xs.drop j).all byteB) := by
  induction d with
  | zero =>
    intro j hj
    refine Evn.succ (Evn.all fun k => ?_)
    simp only [spec_BytesValid.l0]
    rw [if_neg (by omega), List.drop_of_length_le (by omega)]
    rfl
  | succ d ih =>
    intro j hj
    have hlt : j < xs.length := by omega
    refine Evn.succ (Evn.mp (ih (j + 1) (by omega)) (Evn.all fun k e => ?_))
    simp only [spec_BytesValid.l0]
    rw [if_pos (by omega), if_pos (by omega), w64 (by omega) (by omega), rd_drop hlt]
    rw [show ((j : Int) + 1) = ((j + 1 : Nat) : Int) by omega, e]
    unfold spec_l1In.f byteB
    by_cases h : rd xs (j : Int) ≥ 0
    · rw [if_pos h]
      by_cases h2 : rd xs (j : Int) ≤ 255 <;> simp [h, h2]
    · rw [if_neg h]
      simp [h]

theorem specBytes (xs : List Int) : Evn fun k => spec_BytesValid.f k xs = some (bytesB xs) := by
  by_cases hn : xs.length ≤ 2000
  · refine Evn.mp (specBytes_loop xs hn xs.length 0 (by omega)) (Evn.all fun k e => ?_)
    unfold spec_BytesValid.f bytesB
    rw [if_neg (by omega)]
    simpa [hn] using e
  · refine Evn.all fun k => ?_
    unfold spec_BytesValid.f bytesB
    rw [if_pos (by omega)]
    simp [hn]


theorem specDsk_loop (safe : List Int) (l : List (List Int)) (hn : l.length ≤ 8) (d : Nat) : ∀ (j : Nat) (t : Int), j + d = l.length → 0 ≤ t → t ≤ 2000 * ((j : Int) + 1) →
    Evn fun k => spec_DiskValid.l0 k t (j : Int) safe l = some (dskG t (l.drop j)) := by
  induction d with
  | zero =>
    intro j t hj _ _
    refine Evn.succ (Evn.all fun k => ?_)
    simp only [spec_DiskValid.l0]
    rw [if_neg (by omega), List.drop_of_length_le (by omega)]
    rfl
  | succ d ih =>
    intro j t hj h0 h1
    have hlt : j < l.length := by omega
    rw [rdL_drop hlt]
    obtain ⟨w, hw⟩ : ∃ w, rd_L1 l (j : Int) = w := ⟨_, rfl⟩
    rw [hw]
    simp only [dskG]
    by_cases hz : w.length = 0
    · refine Evn.succ (Evn.all fun k => ?_)
      simp only [spec_DiskValid.l0]
      rw [if_pos (by omega), if_pos (by omega), hw, if_pos (by omega)]
      simp [hz]
    · cases hb : bytesB w with
      | false =>
        refine Evn.succ (Evn.mp (specBytes w) (Evn.all fun k e => ?_))
        simp only [spec_DiskValid.l0]
        rw [if_pos (by omega), if_pos (by omega), hw, if_neg (by omega), e, hb]
        simp
      | true =>
        have hl := bytesB_length hb
        refine Evn.succ (Evn.mp (specBytes w) (Evn.mp (ih (j + 1) (t + (w.length : Int)) (by omega) (by omega) (by omega)) (Evn.all fun k e2 e => ?_)))
        simp only [spec_DiskValid.l0]
        rw [if_pos (by omega), if_pos (by omega), hw, if_neg (by omega), e, hb]
        simp only [Option.bind_some, if_true]
        rw [w64 (x := t + (w.length : Int)) (by omega) (by omega), w64 (by omega) (by omega)]
        refine Eq.trans e2 ?_
        simp [hz]

theorem specDsk (safe : List Int) (l : List (List Int)) : Evn fun k => spec_DiskValid.f k safe l = some (dskB safe l) := by
  unfold dskB
  cases hb : bytesB safe with
  | false =>
    refine Evn.mp (specBytes safe) (Evn.succ (Evn.all fun k e => ?_))
    unfold spec_DiskValid.f
    rw [e, hb]
    simp [spec_DiskValid.j0]
  | true =>
    have hl := bytesB_length hb
    by_cases h : l.length ≤ 8
    · refine Evn.mp (specBytes safe) (Evn.succ (Evn.mp (specDsk_loop safe l h l.length 0 (safe.length : Int) (by omega) (by omega) (by omega)) (Evn.all fun k e2 e => ?_)))
      unfold spec_DiskValid.f
      rw [e, hb]
      simp only [Option.bind_some, if_true]
      rw [decide_eq_false (by omega)]
      simp only [spec_DiskValid.j0]
      rw [if_neg (by simp)]
      refine Eq.trans e2 ?_
      simp [h]
    · refine Evn.mp (specBytes safe) (Evn.succ (Evn.all fun k e => ?_))
      unfold spec_DiskValid.f
      rw [e, hb]
      simp only [Option.bind_some, if_true]
      rw [decide_eq_true (by omega)]
      simp [spec_DiskValid.j0, h]

theorem implBytes_loop (xs : List Int) (hn : xs.length ≤ 2000) (d : Nat) : ∀ (j : Nat), j + d = xs.length →
    Evn fun k => impl_BytesValid.l0 k xs (xs.length : Int) (j : Int) = some ((xs.drop j).all byteB) := by
  induction d with
  | zero =>
    intro j hj
    refine Evn.succ (Evn.all fun k => ?_)
    simp only [impl_BytesValid.l0]
    rw [if_neg (by omega), List.drop_of_length_le (by omega)]
    rfl
  | succ d ih =>
    intro j hj
    have hlt : j < xs.length := by omega
    refine Evn.succ (Evn.mp (ih (j + 1) (by omega)) (Evn.all fun k e => ?_))
    simp only [impl_BytesValid.l0]
    rw [if_pos (by omega), if_pos (by omega), if_pos (by omega), w64 (by omega) (by omega), rd_drop hlt]
    rw [show ((j : Int) + 1) = ((j + 1 : Nat) : Int) by omega, e]
    unfold byteB
    by_cases h : rd xs (j : Int) < 0
    · rw [if_pos h]
      have : ¬ (0 ≤ rd xs (j : Int)) := by omega
      simp [this]
    · rw [if_neg h]
      have h0 : 0 ≤ rd xs (j : Int) := by omega
      by_cases h2 : rd xs (j : Int) > 255
      · rw [if_pos h2]
        have : ¬ (rd xs (j : Int) ≤ 255) := by omega
        simp [this]
      · rw [if_neg h2]
        have : rd xs (j : Int) ≤ 255 := by omega
        simp [h0, this]

theorem implBytes (xs : List Int) : Evn fun k => impl_BytesValid.f k xs = some (bytesB xs) := by
  by_cases hn : xs.length ≤ 2000
  · refine Evn.mp (implBytes_loop xs hn xs.length 0 (by omega)) (Evn.all fun k e => ?_)
    unfold impl_BytesValid.f bytesB
    rw [if_neg (by omega)]
    simpa [hn] using e
  · refine Evn.all fun k => ?_
    unfold impl_BytesValid.f bytesB
    rw [if_pos (by omega)]
    simp [hn]

theorem implDsk_loop (_safe : List Int) (l : List (List Int)) (hn : l.length ≤ 8) (d : Nat) : ∀ (j : Nat) (t : Int), j + d = l.length → 0 ≤ t → t ≤ 2000 * ((j : Int) + 1) →
    Evn fun k => impl_DiskValid.l0 k t l (l.length : Int) (j : Int) = some (dskG t (l.drop j)) := by
  induction d with
  | zero =>
    intro j t hj _ _
    refine Evn.succ (Evn.all fun k => ?_)
    simp only [impl_DiskValid.l0]
    rw [if_neg (by omega), List.drop_of_length_le (by omega)]
    rfl
  | succ d ih =>
    intro j t hj h0 h1
    have hlt : j < l.length := by omega
    rw [rdL_drop hlt]
    obtain ⟨w, hw⟩ : ∃ w, rd_L1 l (j : Int) = w := ⟨_, rfl⟩
    rw [hw]
    simp only [dskG]
    by_cases hz : w.length = 0
    · refine Evn.succ (Evn.all fun k => ?_)
      simp only [impl_DiskValid.l0]
      rw [if_pos (by omega), if_pos (by omega), if_pos (by omega), hw, if_pos (by omega)]
      simp [hz]
    · cases hb : bytesB w with
      | false =>
        refine Evn.succ (Evn.mp (implBytes w) (Evn.all fun k e => ?_))
        simp only [impl_DiskValid.l0]
        rw [if_pos (by omega), if_pos (by omega), if_pos (by omega), hw, if_neg (by omega), e, hb]
        simp
      | true =>
        have hl := bytesB_length hb
        refine Evn.succ (Evn.mp (implBytes w) (Evn.mp (ih (j + 1) (t + (w.length : Int)) (by omega) (by omega) (by omega)) (Evn.all fun k e2 e => ?_)))
        simp only [impl_DiskValid.l0]
        rw [if_pos (by omega), if_pos (by omega), if_pos (by omega), hw, if_neg (by omega), e, hb]
        simp only [Option.bind_some, if_true]
        rw [w64 (x := t + (w.length : Int)) (by omega) (by omega), w64 (by omega) (by omega)]
        refine Eq.trans e2 ?_
        simp [hz]

theorem implDsk (safe : List Int) (l : List (List Int)) : Evn fun k => impl_DiskValid.f k safe l = some (dskB safe l) := by
  unfold dskB
  by_cases h : l.length ≤ 8
  · have hl : bytesB safe = true → safe.length ≤ 2000 := bytesB_length
    cases hb : bytesB safe with
    | false =>
      refine Evn.mp (implBytes safe) (Evn.succ (Evn.all fun k e => ?_))
      unfold impl_DiskValid.f
      rw [if_neg (by omega), e, hb]
      simp [impl_DiskValid.j0]
    | true =>
      have hl := hl hb
      refine Evn.mp (implBytes safe) (Evn.succ (Evn.mp (implDsk_loop safe l h l.length 0 (safe.length : Int) (by omega) (by omega) (by omega)) (Evn.all fun k e2 e => ?_)))
      unfold impl_DiskValid.f
      rw [if_neg (by omega), e, hb]
      simp only [Option.bind_some, Bool.not_true, impl_DiskValid.j0]
      rw [if_neg (by simp)]
      refine Eq.trans e2 ?_
      simp [h]
  · refine Evn.succ (Evn.all fun k => ?_)
    unfold impl_DiskValid.f
    rw [if_pos (by omega)]
    simp [impl_DiskValid.j0, h]

/-! Copies of lists of numbers, and their comparison. -/
theorem toIntS_loop (xs : List Int) (hn : xs.length ≤ 1048576) (d : Nat) : ∀ (j : Nat) (ys : List Int), j + d = xs.length → ys.length = xs.length → ys.take j = xs.take j →
    Evn fun k => laws_toIntS.l0 k xs ys (j : Int) = some xs := by
  induction d with
  | zero =>
    intro j ys hj hl ht
    refine Evn.succ (Evn.all fun k => ?_)
    simp only [laws_toIntS.l0]
    rw [if_neg (by omega)]
    rw [List.take_of_length_le (by omega), List.take_of_length_le (by omega)] at ht
    rw [ht]
  | succ d ih =>
    intro j ys hj hl ht
    have hlt : j < xs.length := by omega
    refine Evn.succ (Evn.mp (ih (j + 1) (ys.set j (rd xs (j : Int))) (by omega) (by simpa using hl) ?_) (Evn.all fun k e => ?_))
    · rw [rd_nat hlt, List.take_succ_eq_append_getElem hlt, ← ht, List.take_succ_eq_append_getElem (by simp; omega)]
      simp [List.take_set_of_le]
    · simp only [laws_toIntS.l0]
      rw [if_pos (by omega), if_pos (by omega), if_pos (by omega), w64 (by omega) (by omega)]
      exact e

theorem toIntS (xs : List Int) (hn : xs.length ≤ 1048576) : Evn fun k => laws_toIntS.f k xs = some xs := by
  refine Evn.mp (toIntS_loop xs hn xs.length 0 (List.replicate xs.length 0) (by omega) (by simp) (by simp)) (Evn.all fun k e => ?_)
  unfold laws_toIntS.f
  rw [if_pos (by omega), if_pos (by omega)]
  exact e


theorem toIntSS_loop (xs : List (List Int)) (hn : xs.length ≤ 1048576) (hm : ∀ w ∈ xs, w.length ≤ 1048576) (d : Nat) : ∀ (j : Nat) (ys : List (List Int)), j + d = xs.length → ys.length = xs.length → ys.take j = xs.take j →
    Evn fun k => laws_toIntSS.l0 k xs ys (j : Int) = some xs := by
  induction d with
  | zero =>
    intro j ys hj hl ht
    refine Evn.succ (Evn.all fun k => ?_)
    simp only [laws_toIntSS.l0]
    rw [if_neg (by omega)]
    rw [List.take_of_length_le (by omega), List.take_of_length_le (by omega)] at ht
    rw [ht]
  | succ d ih =>
    intro j ys hj hl ht
    have hlt : j < xs.length := by omega
    refine Evn.succ (Evn.mp (toIntS (rd_L1 xs (j : Int)) (hm _ (rdL_mem hlt))) (Evn.mp (ih (j + 1) (ys.set j (rd_L1 xs (j : Int))) (by omega) (by simpa using hl) ?_) (Evn.all fun k e e0 => ?_)))
    · rw [rdL_nat hlt, List.take_succ_eq_append_getElem hlt, ← ht, List.take_succ_eq_append_getElem (by simp; omega)]
      simp [List.take_set_of_le]
    · simp only [laws_toIntSS.l0]
      rw [if_pos (by omega), if_pos (by omega), e0]
      simp only [Option.bind_some]
      rw [if_pos (by omega), w64 (by omega) (by omega)]
      exact e

theorem toIntSS (xs : List (List Int)) (hn : xs.length ≤ 1048576) (hm : ∀ w ∈ xs, w.length ≤ 1048576) : Evn fun k => laws_toIntSS.f k xs = some xs := by
  refine Evn.mp (toIntSS_loop xs hn hm xs.length 0 (List.replicate xs.length []) (by omega) (by simp) (by simp)) (Evn.all fun k e => ?_)
  unfold laws_toIntSS.f
  rw [if_pos (by omega), if_pos (by omega)]
  exact e

theorem toDsk (safe : List Int) (l : List (List Int)) (h0 : safe.length ≤ 1048576) (hn : l.length ≤ 1048576) (hm : ∀ w ∈ l, w.length ≤ 1048576) : Evn fun k => laws_toDisk.f k safe l = some (safe, l) := by
  refine Evn.mp (toIntS safe h0) (Evn.mp (toIntSS l hn hm) (Evn.all fun k e2 e1 => ?_))
  unfold laws_toDisk.f
  rw [e1]
  simp only [Option.bind_some]
  rw [e2]
  rfl

/-! Comparison of lists of numbers. -/
theorem eqIntS_loop (xs ys : List Int) (hl : xs.length = ys.length) (hn : xs.length ≤ 1048576) (d : Nat) : ∀ (j : Nat), j + d = xs.length →
    Evn fun k => laws_eqIntS.l0 k xs ys (j : Int) = some (decide (xs.drop j = ys.drop j)) := by
  induction d with
  | zero =>
    intro j hj
    refine Evn.succ (Evn.all fun k => ?_)
    simp only [laws_eqIntS.l0]
    rw [if_neg (by omega), List.drop_of_length_le (by omega), List.drop_of_length_le (by omega)]
    simp
  | succ d ih =>
    intro j hj
    have hlt : j < xs.length := by omega
    refine Evn.succ (Evn.mp (ih (j + 1) (by omega)) (Evn.all fun k e => ?_))
    simp only [laws_eqIntS.l0]
    rw [if_pos (by omega), if_pos (by omega), if_pos (by omega), w64 (by omega) (by omega)]
    rw [rd_drop hlt, rd_drop (show j < ys.length by omega)]
    by_cases h : rd xs (j : Int) = rd ys (j : Int)
    · rw [if_pos h, h]
      refine Eq.trans e ?_
      simp
    · rw [if_neg h]
      simp [h]

theorem eqIntS (xs ys : List Int) (hn : xs.length ≤ 1048576) : Evn fun k => laws_eqIntS.f k xs ys = some (decide (xs = ys)) := by
  by_cases hl : xs.length = ys.length
  · refine Evn.mp (eqIntS_loop xs ys hl hn xs.length 0 (by omega)) (Evn.all fun k e => ?_)
    unfold laws_eqIntS.f
    rw [if_pos (by omega)]
    simpa using e
  · refine Evn.all fun k => ?_
    unfold laws_eqIntS.f
    rw [if_neg (by omega), decide_eq_false (fun h => hl (by rw [h]))]

theorem eqIntS_self (xs : List Int) (hn : xs.length ≤ 1048576) : Evn fun k => laws_eqIntS.f k xs xs = some true :=
  Evn.mp (eqIntS xs xs hn) (Evn.all fun k e => by rw [e]; simp)

theorem eqIntSS_loop (xs : List (List Int)) (hn : xs.length ≤ 1048576) (hm : ∀ w ∈ xs, w.length ≤ 1048576) (d : Nat) : ∀ (j : Nat), j + d = xs.length → Evn fun k => laws_eqIntSS.l0 k xs xs (j : Int) = some true := by
  induction d with
  | zero =>
    intro j hj
    refine Evn.succ (Evn.all fun k => ?_)
    simp only [laws_eqIntSS.l0]
    rw [if_neg (by omega)]
  | succ d ih =>
    intro j hj
    have hlt : j < xs.length := by omega
    refine Evn.succ (Evn.mp (eqIntS_self (rd_L1 xs (j : Int)) (hm _ (rdL_mem hlt))) (Evn.mp (ih (j + 1) (by omega)) (Evn.all fun k e e0 => ?_)))
    simp only [laws_eqIntSS.l0]
    rw [if_pos (by omega), if_pos (by omega), if_pos (by omega), e0]
    simp only [Option.bind_some, if_true]
    rw [w64 (by omega) (by omega)]
    exact e

theorem eqDsk_self (safe : List Int) (l : List (List Int)) (h0 : safe.length ≤ 1048576) (hn : l.length ≤ 1048576) (hm : ∀ w ∈ l, w.length ≤ 1048576) : Evn fun k => laws_eqDisk.f k safe l safe l = some true := by
  refine Evn.mp (eqIntS_self safe h0) (Evn.mp (eqIntSS_loop l hn hm l.length 0 (by omega)) (Evn.all fun k e2 e1 => ?_))
  unfold laws_eqDisk.f laws_eqIntSS.f
  rw [e1]
  simp only [Option.bind_some, if_true]
  refine (congrArg (fun o => Option.bind o _) e2).trans rfl

theorem szIntS (l : List Int) (hl : l.length ≤ 9223372036854775807) (left : Int) (h0 : 0 ≤ left) (h1 : left ≤ 1048576) :
    laws_szIntS.f l left = some (-1) ∨ (laws_szIntS.f l left = some (left - (l.length : Int)) ∧ (l.length : Int) ≤ left) := by
  unfold laws_szIntS.f
  rw [w64 (by omega) (by omega)]
  by_cases h : left - (l.length : Int) < 0
  · rw [if_pos h]
    exact .inl rfl
  · rw [if_neg h]
    exact .inr ⟨rfl, by omega⟩

theorem szIntSS_loop (l : List (List Int)) (hn : l.length ≤ 1048576) (hl : ∀ w ∈ l, w.length ≤ 9223372036854775807) (d : Nat) : ∀ (j : Nat) (left : Int), j + d = l.length → 0 ≤ left → left ≤ 1048576 →
    (Evn fun k => laws_szIntSS.l0 k l left (j : Int) = some (-1)) ∨ ((∃ t, 0 ≤ t ∧ Evn fun k => laws_szIntSS.l0 k l left (j : Int) = some t) ∧ ∀ w ∈ l.drop j, w.length ≤ 1048576) := by
  induction d with
  | zero =>
    intro j left hj h0 h1
    refine .inr ⟨⟨left, h0, Evn.succ (Evn.all fun k => ?_)⟩, fun w hw => ?_⟩
    · simp only [laws_szIntSS.l0]
      rw [if_neg (by omega)]
    · rw [List.drop_of_length_le (by omega)] at hw
      simp at hw
  | succ d ih =>
    intro j left hj h0 h1
    have hlt : j < l.length := by omega
    rcases szIntS (rd_L1 l (j : Int)) (hl _ (rdL_mem hlt)) left h0 h1 with e | ⟨e, hle⟩
    · refine .inl (Evn.succ (Evn.all fun k => ?_))
      simp only [laws_szIntSS.l0]
      rw [if_pos (by omega), if_pos (by omega), e]
      rfl
    · have step : ∀ k, laws_szIntSS.l0 (k + 1) l left (j : Int) = laws_szIntSS.l0 k l (left - ((rd_L1 l (j : Int)).length : Int)) ((j + 1 : Nat) : Int) := fun k => by
        simp only [laws_szIntSS.l0]
        rw [if_pos (by omega), if_pos (by omega), e]
        simp only [Option.bind_some]
        rw [if_neg (by omega), w64 (by omega) (by omega)]
        rfl
      rcases ih (j + 1) (left - ((rd_L1 l (j : Int)).length : Int)) (by omega) (by omega) (by omega) with h | ⟨⟨t, ht, h⟩, hw⟩
      · exact .inl (Evn.succ (Evn.mp h (Evn.all fun k e2 => (step k).trans e2)))
      · refine .inr ⟨⟨t, ht, Evn.succ (Evn.mp h (Evn.all fun k e2 => (step k).trans e2))⟩, fun w hm => ?_⟩
        rw [rdL_drop hlt] at hm
        rcases List.mem_cons.mp hm with rfl | hm
        · omega
        · exact hw w hm

theorem szDsk (safe : List Int) (l : List (List Int)) (h0 : safe.length ≤ 9223372036854775807) (h1 : l.length ≤ 9223372036854775807) (h2 : ∀ w ∈ l, w.length ≤ 9223372036854775807) :
    (Evn fun k => laws_szDisk.f k safe l 1048576 = some (-1)) ∨ ((∃ t, 0 ≤ t ∧ Evn fun k => laws_szDisk.f k safe l 1048576 = some t) ∧ safe.length ≤ 1048576 ∧ l.length ≤ 1048576 ∧ ∀ w ∈ l, w.length ≤ 1048576) := by
  rcases szIntS safe h0 1048576 (by omega) (by omega) with e | ⟨e, hle⟩
  · refine .inl (Evn.all fun k => ?_)
    unfold laws_szDisk.f
    rw [e]
    rfl
  · have step : ∀ k, laws_szDisk.f k safe l 1048576 = ((laws_szIntSS.f k l (1048576 - (safe.length : Int))).bind fun t105 => (if t105 < 0 then (some (-1)) else (some t105))) := fun k => by
      unfold laws_szDisk.f
      rw [e]
      simp only [Option.bind_some]
      rw [if_neg (by omega)]
    by_cases hl : 1048576 - (safe.length : Int) - (l.length : Int) < 0
    · refine .inl (Evn.all fun k => ?_)
      rw [step]
      unfold laws_szIntSS.f
      rw [w64 (by omega) (by omega), if_pos hl]
      rfl
    · rcases szIntSS_loop l (by omega) h2 l.length 0 (1048576 - (safe.length : Int) - (l.length : Int)) (by omega) (by omega) (by omega) with h | ⟨⟨t, ht, h⟩, hw⟩
      · refine .inl (Evn.mp h (Evn.all fun k e2 => ?_))
        rw [step]
        unfold laws_szIntSS.f
        rw [w64 (by omega) (by omega), if_neg hl]
        refine (congrArg (fun o => Option.bind o _) e2).trans rfl
      · refine .inr ⟨⟨t, ht, Evn.mp h (Evn.all fun k e2 => ?_)⟩, by omega, by omega, by simpa using hw⟩
        rw [step]
        unfold laws_szIntSS.f
        rw [w64 (by omega) (by omega), if_neg hl]
        refine (congrArg (fun o => Option.bind o _) e2).trans ?_
        simp only [Option.bind_some]
        rw [if_neg (by omega)]

theorem FnExactDiskValid : FnExactDiskValid.Said := by
  intro safe l h0 h1
  refine Evn.some ?_
  have hm : maxLen ≤ 9223372036854775807 := by unfold maxLen; omega
  rcases szDsk safe l (Nat.le_trans h0.1 hm) (Nat.le_trans h1.1 hm) (fun w hw => Nat.le_trans (h1.2 w hw).1 hm) with h | ⟨⟨t, ht, h⟩, a, b, c⟩
  · refine Evn.mp h (Evn.all fun k e => ?_)
    unfold laws_FnExactDiskValid.f
    rw [e]
    rfl
  · refine Evn.mp h (Evn.mp (toDsk safe l a b c) (Evn.mp (specDsk safe l) (Evn.mp (implDsk safe l) (Evn.mp (eqDsk_self safe l a b c) (Evn.all fun k e5 e4 e3 e2 e1 => ?_)))))
    unfold laws_FnExactDiskValid.f
    rw [e1]
    simp only [Option.bind_some]
    rw [if_neg (by omega)]
    simp [e2, e3, e4, e5]

end Go.Proofs.Ytmljefpcjlelmaa.Pure
