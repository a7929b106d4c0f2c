/- With a greater number behind them bytes are not valid; without the first one valid bytes are valid; and the reference says the same. No condition beyond the row's own. -/
import Derived.Test.YtonoieabbmaojaaPFnBytesValidx19
import Derived.Test.YtonoieabbmaojaaWSized
import Derived.Laws.BytesArg
import Derived.Lib.Strings
namespace Go.Proofs.Ytonoieabbmaojaa.Pure
open Go.RowKit Go.Proofs.Ytonoieabbmaojaa.PFnBytesValid Go.Proofs.YtonoieabbmaojaaW.PrintWords Go.Proofs.YtonoieabbmaojaaW.PrintLast
set_option linter.unusedVariables false
set_option linter.unusedSimpArgs false

/-! The printed row names 'PrintWords.sized_ints' from inside the seat's own namespace: the word of that name, under that name. -/
end Go.Proofs.Ytonoieabbmaojaa.Pure
namespace Go.Proofs.Ytonoieabbmaojaa
theorem PrintWords.sized_ints : type_of% @Go.Proofs.YtonoieabbmaojaaW.PrintWords.sized_ints := @Go.Proofs.YtonoieabbmaojaaW.PrintWords.sized_ints
end Go.Proofs.Ytonoieabbmaojaa
namespace Go.Proofs.Ytonoieabbmaojaa.Pure
open Go.RowKit Go.Proofs.Ytonoieabbmaojaa.PFnBytesValid Go.Proofs.YtonoieabbmaojaaW.PrintWords Go.Proofs.YtonoieabbmaojaaW.PrintLast

/-! Eventually: for all large enough numbers of rounds; small lemmas on numbers and lists. -/
def Evn (P : Nat → Prop) : Prop := ∃ K, ∀ k, K ≤ k → P k

theorem Evn.all {P : Nat → Prop} (h : ∀ k, P k) : Evn P := ⟨0, fun k _ => h k⟩

theorem Evn.mp {P Q : Nat → Prop} (hp : Evn P) (hq : Evn fun k => P k → Q k) : Evn Q := by
  obtain ⟨K1, h1⟩ := hp
  obtain ⟨K2, h2⟩ := hq
  exact ⟨max K1 K2, fun k hk => h2 k (by omega) (h1 k (by omega))⟩

theorem Evn.succ {P : Nat → Prop} (h : Evn fun k => P (k + 1)) : Evn P := by
  obtain ⟨K, h⟩ := h
  refine ⟨K + 1, fun k hk => ?_⟩
  obtain ⟨m, rfl⟩ : ∃ m, k = m + 1 := ⟨k - 1, by omega⟩
  exact h m (by omega)

theorem Evn.some {P : Nat → Prop} (h : Evn P) : ∃ k, P k := by
  obtain ⟨K, h⟩ := h
  exact ⟨K, h K (Nat.le_refl K)⟩

theorem w64 {x : Int} (h0 : -9223372036854775808 ≤ x) (h1 : x ≤ 9223372036854775807) : wrap64 x = x := by
  unfold wrap64
  omega

theorem rd_drop {xs : List Int} {j : Nat} (h : j < xs.length) : xs.drop j = rd xs (j : Int) :: xs.drop (j + 1) := by
  rw [List.drop_eq_getElem_cons h]
  simp [rd, List.getD_eq_getElem?_getD, List.getElem?_eq_getElem h]

theorem rd_nat {xs : List Int} {j : Nat} (h : j < xs.length) : rd xs (j : Int) = xs[j] := by
  simp [rd, List.getD_eq_getElem?_getD, List.getElem?_eq_getElem h]

theorem wf64 {x : Int} (h : (Lit.int .i64 x).wf = true) : -9223372036854775808 ≤ x ∧ x ≤ 9223372036854775807 := by
  have h' : (decide (IntKind.i64.min ≤ x) && decide (x ≤ IntKind.i64.max)) = true := h
  rw [Bool.and_eq_true, decide_eq_true_eq, decide_eq_true_eq] at h'
  exact h'

/-! Valid bytes. -/
def byteB (x : Int) : Bool := decide (0 ≤ x) && decide (x ≤ 255)
def bytesB (b : List Int) : Bool := decide (b.length ≤ 2000) && b.all byteB


theorem l1In (a b c : Int) : spec_l1In.f a b c = some (decide (b ≤ a ∧ a ≤ c)) := by
  unfold spec_l1In.f
  by_cases h : a ≥ b
  · rw [if_pos h]
    simp [h]
  · rw [if_neg h]
    simp [h]


theorem specBytes_loop (xs : List Int) (hn : xs.length ≤ 2000) (d : Nat) : ∀ (j : Nat), j + d = xs.length →
    Evn fun k => spec_BytesValid.l0 k xs (j : Int) = some ((xs.drop j).all byteB) := by
  induction d with
  | zero =>
    intro j hj
    refine Evn.succ (Evn.all fun k => ?_)
    simp only [spec_BytesValid.l0]
    rw [if_neg (by omega), List.drop_of_length_le (by omega)]
    rfl
  | succ d ih =>
    intro j hj
    have hlt : j < xs.length := by omega
    refine Evn.succ (Evn.mp (ih (j + 1) (by omega)) (Evn.all fun k e => ?_))
    simp only [spec_BytesValid.l0]
    rw [if_pos (by omega), if_pos (by omega), w64 (by omega) (by omega), rd_drop hlt]
    rw [show ((j : Int) + 1) = ((j + 1 : Nat) : Int) by omega, e]
    unfold spec_l1In.f byteB
    by_cases h : rd xs (j : Int) ≥ 0
    · rw [if_pos h]
      by_cases h2 : rd xs (j : Int) ≤ 255 <;> simp [h, h2]
    · rw [if_neg h]
      simp [h]

theorem specBytes (xs : List Int) : Evn fun k => spec_BytesValid.f k xs = some (bytesB xs) := by
  by_cases hn : xs.length ≤ 2000
  · refine Evn.mp (specBytes_loop xs hn xs.length 0 (by omega)) (Evn.all fun k e => ?_)
    unfold spec_BytesValid.f bytesB
    rw [if_neg (by omega)]
    simpa [hn] using e
  · refine Evn.all fun k => ?_
    unfold spec_BytesValid.f bytesB
    rw [if_pos (by omega)]
    simp [hn]


theorem implBytes_loop (xs : List Int) (hn : xs.length ≤ 2000) (d : Nat) : ∀ (j : Nat), j + d = xs.length →
    Evn fun k => impl_BytesValid.l0 k xs (xs.length : Int) (j : Int) = some ((xs.drop j).all byteB) := by
  induction d with
  | zero =>
    intro j hj
    refine Evn.succ (Evn.all fun k => ?_)
    simp only [impl_BytesValid.l0]
    rw [if_neg (by omega), List.drop_of_length_le (by omega)]
    rfl
  | succ d ih =>
    intro j hj
    have hlt : j < xs.length := by omega
    refine Evn.succ (Evn.mp (ih (j + 1) (by omega)) (Evn.all fun k e => ?_))
    simp only [impl_BytesValid.l0]
    rw [if_pos (by omega), if_pos (by omega), if_pos (by omega), w64 (by omega) (by omega), rd_drop hlt]
    rw [show ((j : Int) + 1) = ((j + 1 : Nat) : Int) by omega, e]
    unfold byteB
    by_cases h : rd xs (j : Int) < 0
    · rw [if_pos h]
      have : ¬ (0 ≤ rd xs (j : Int)) := by omega
      simp [this]
    · rw [if_neg h]
      have h0 : 0 ≤ rd xs (j : Int) := by omega
      by_cases h2 : rd xs (j : Int) > 255
      · rw [if_pos h2]
        have : ¬ (rd xs (j : Int) ≤ 255) := by omega
        simp [this]
      · rw [if_neg h2]
        have : rd xs (j : Int) ≤ 255 := by omega
        simp [h0, this]

theorem implBytes (xs : List Int) : Evn fun k => impl_BytesValid.f k xs = some (bytesB xs) := by
  by_cases hn : xs.length ≤ 2000
  · refine Evn.mp (implBytes_loop xs hn xs.length 0 (by omega)) (Evn.all fun k e => ?_)
    unfold impl_BytesValid.f bytesB
    rw [if_neg (by omega)]
    simpa [hn] using e
  · refine Evn.all fun k => ?_
    unfold impl_BytesValid.f bytesB
    rw [if_pos (by omega)]
    simp [hn]

/-! The reader of a code: a pick is in its range; the place goes on by one. -/
def Code (b : List Int) : Prop := b.length ≤ 2000 ∧ ∀ x ∈ b, 0 ≤ x ∧ x ≤ 255

theorem rd_code {b : List Int} (h : Code b) (i : Int) : 0 ≤ rd b i ∧ rd b i ≤ 255 := by
  unfold rd
  rw [List.getD_eq_getElem?_getD]
  by_cases hi : i.toNat < b.length
  · rw [List.getElem?_eq_getElem hi]
    exact h.2 _ (List.getElem_mem hi)
  · rw [List.getElem?_eq_none (by omega)]
    simp

theorem xor_pos (a b : Int) (ha0 : 0 ≤ a) (ha1 : a < 4611686018427387904) (hb0 : 0 ≤ b) (hb1 : b < 4611686018427387904) : 0 ≤ Go.bits .xor .i64 a b := by
  obtain ⟨n, rfl⟩ := Int.eq_ofNat_of_zero_le ha0
  obtain ⟨m, rfl⟩ := Int.eq_ofNat_of_zero_le hb0
  have hn : n < 2 ^ 62 := by omega
  have hm : m < 2 ^ 62 := by omega
  have hx := Nat.xor_lt_two_pow hn hm
  have n64 : n % 2 ^ 64 = n := Nat.mod_eq_of_lt (by omega)
  have m64 : m % 2 ^ 64 = m := Nat.mod_eq_of_lt (by omega)
  have e : Go.bits .xor .i64 (n : Int) (m : Int) = IntKind.i64.wrap ((n ^^^ m : Nat) : Int) := by
    show IntKind.i64.wrap (((BitVec.ofInt 64 (n : Int) ^^^ BitVec.ofInt 64 (m : Int)).toNat : Nat) : Int) = _
    rw [BitVec.ofInt_natCast, BitVec.ofInt_natCast, BitVec.toNat_xor, BitVec.toNat_ofNat, BitVec.toNat_ofNat, n64, m64]
  rw [e, IntKind.wrap_i64]
  omega

theorem spec_pick (b : List Int) (hb : Code b) (p n : Int) (h0 : 0 ≤ p) (h1 : p ≤ 1099511627776) :
    ∃ r, 0 ≤ r ∧ (1 ≤ n → r < n) ∧ (n ≤ 1 → r = 0) ∧ Evn fun k => spec_l20Rd_pick.f k b p n = some (r, p + 1) := by
  have hw : wrap64 (p + 1) = p + 1 := w64 (by omega) (by omega)
  by_cases hn : n < 1
  · refine ⟨0, by omega, by omega, by omega, Evn.succ (Evn.all fun k => ?_)⟩
    unfold spec_l20Rd_pick.f
    rw [if_pos hn, hw]
    simp only [spec_l20Rd_pick.j0]
    rw [if_pos trivial]
  · by_cases hl : b.length = 0
    · refine ⟨0, by omega, by omega, by omega, Evn.succ (Evn.all fun k => ?_)⟩
      unfold spec_l20Rd_pick.f
      rw [if_neg hn, hw, hl]
      simp only [spec_l20Rd_pick.j0]
      rw [if_pos (by rfl)]
    · have hl1 : 1 ≤ (b.length : Int) := by omega
      have hle : ((b.length : Int) == 0) = false := by simpa using hl
      have e1 : wrap64 (p + 1 - 1) = p := by rw [show p + 1 - 1 = p by omega]; exact w64 (by omega) (by omega)
      by_cases hp : p < (b.length : Int)
      · have hr := rd_code hb p
        refine ⟨Int.tmod (rd b p) n, Int.tmod_nonneg n hr.1, fun h => Int.tmod_lt_of_pos _ (by omega), fun h => ?_, Evn.succ (Evn.all fun k => ?_)⟩
        · have : n = 1 := by omega
          subst this
          exact Int.tmod_one _
        · unfold spec_l20Rd_pick.f
          rw [if_neg hn, hw, hle]
          simp only [spec_l20Rd_pick.j0]
          rw [if_neg (by simp), e1, if_pos hp, if_pos h0, if_neg (by omega), w64 (x := rd b p) (by omega) (by omega)]
      · have ei : Int.tmod p (b.length : Int) = p % (b.length : Int) := Int.tmod_eq_emod_of_nonneg h0
        have i0 : 0 ≤ p % (b.length : Int) := Int.emod_nonneg _ (by omega)
        have i1 : p % (b.length : Int) < (b.length : Int) := Int.emod_lt_of_pos _ (by omega)
        have e7 : wrap64 (wrap64 (p * 7) + 3) = p * 7 + 3 := by rw [w64 (x := p * 7) (by omega) (by omega), w64 (by omega) (by omega)]
        have ej : Int.tmod (p * 7 + 3) (b.length : Int) = (p * 7 + 3) % (b.length : Int) := Int.tmod_eq_emod_of_nonneg (by omega)
        have j0 : 0 ≤ (p * 7 + 3) % (b.length : Int) := Int.emod_nonneg _ (by omega)
        have j1 : (p * 7 + 3) % (b.length : Int) < (b.length : Int) := Int.emod_lt_of_pos _ (by omega)
        have eq : Int.tdiv p (b.length : Int) = p / (b.length : Int) := Int.tdiv_eq_ediv_of_nonneg h0
        have q0 : 0 ≤ p / (b.length : Int) := Int.ediv_nonneg h0 (by omega)
        have q1 : p / (b.length : Int) ≤ p := Int.ediv_le_self _ h0
        have hu := rd_code hb (p % (b.length : Int))
        have hv := rd_code hb ((p * 7 + 3) % (b.length : Int))
        have main : ∀ u v q : Int, 0 ≤ u → u ≤ 255 → 0 ≤ v → v ≤ 255 → 0 ≤ q → q ≤ p →
            ∃ x, wrap64 ((wrap64 ((wrap64 ((wrap64 ((wrap64 u) * 131)) + (wrap64 ((wrap64 v) * 1117)))) + (wrap64 (p * 29)))) + (wrap64 ((wrap64 q) * 53))) = x ∧ 0 ≤ x ∧ x < 4611686018427387904 ∧ 0 ≤ wrap64 (Int.tdiv x 64) ∧ wrap64 (Int.tdiv x 64) < 4611686018427387904 := by
          intro u v q u0 u1 v0 v1 q0 q1
          refine ⟨u * 131 + v * 1117 + p * 29 + q * 53, ?_, by omega, by omega, ?_, ?_⟩
          · rw [w64 (x := u) (by omega) (by omega), w64 (x := v) (by omega) (by omega), w64 (x := q) (by omega) (by omega), w64 (x := u * 131) (by omega) (by omega), w64 (x := v * 1117) (by omega) (by omega), w64 (x := p * 29) (by omega) (by omega), w64 (x := q * 53) (by omega) (by omega), w64 (x := u * 131 + v * 1117) (by omega) (by omega), w64 (x := u * 131 + v * 1117 + p * 29) (by omega) (by omega), w64 (by omega) (by omega)]
          all_goals
            rw [Int.tdiv_eq_ediv_of_nonneg (by omega), w64 (by omega) (by omega)]
            omega
        obtain ⟨x, hx, x0, x1, y0, y1⟩ := main _ _ _ hu.1 hu.2 hv.1 hv.2 q0 q1
        refine ⟨Int.tmod (Go.bits .xor .i64 x (wrap64 (Int.tdiv x 64))) n, Int.tmod_nonneg n (xor_pos _ _ x0 x1 y0 y1), fun h => Int.tmod_lt_of_pos _ (by omega), fun h => ?_, Evn.succ (Evn.all fun k => ?_)⟩
        · have : n = 1 := by omega
          subst this
          exact Int.tmod_one _
        · unfold spec_l20Rd_pick.f
          rw [if_neg hn, hw, hle]
          simp only [spec_l20Rd_pick.j0]
          rw [if_neg (by simp), e1, if_neg hp, if_neg (by omega), ei, if_pos i0, if_pos i1, e7, ej, if_pos j0, if_pos j1, if_neg (by omega), eq, hx]

theorem spec_odd (b : List Int) (hb : Code b) (p n : Int) (h0 : 0 ≤ p) (h1 : p ≤ 1099511627776) (hn : n ≤ 1000000) :
    ∃ r q, p ≤ q ∧ q ≤ p + 1 ∧ (n ≤ 0 → r = false) ∧ Evn fun k => spec_l20Rd_odd.f k b p n = some (r, q) := by
  by_cases h : n > 0
  · obtain ⟨r, _, _, _, e⟩ := spec_pick b hb p n h0 h1
    refine ⟨r == wrap64 (n - 1), p + 1, by omega, by omega, by omega, Evn.mp e (Evn.all fun k e => ?_)⟩
    unfold spec_l20Rd_odd.f
    rw [if_pos h, e]
    rfl
  · refine ⟨false, p, by omega, by omega, fun _ => rfl, Evn.all fun k => ?_⟩
    unfold spec_l20Rd_odd.f
    rw [if_neg h]

theorem spec_open (l : List Int) (hl : ∀ x ∈ l, (Lit.int .u8 x).wf = true) : ∃ b, Code b ∧ spec_l20Open.f l = some (b, 0) := by
  have hx : ∀ x ∈ l, 0 ≤ x ∧ x ≤ 255 := fun x hx => by
    have h' : (decide (IntKind.u8.min ≤ x) && decide (x ≤ IntKind.u8.max)) = true := hl x hx
    rw [Bool.and_eq_true, decide_eq_true_eq, decide_eq_true_eq] at h'
    exact h'
  unfold spec_l20Open.f
  by_cases h : (l.length : Int) > 2000
  · refine ⟨l.take 2000, ⟨by rw [List.length_take]; omega, fun x hm => hx x (List.mem_of_mem_take hm)⟩, ?_⟩
    rw [if_pos h, if_pos (by omega)]
  · exact ⟨l, ⟨by omega, hx⟩, by rw [if_neg h]⟩

/-! What a reader draws: a value with what is known of it, and the place behind it, not far. -/
def Dr {α : Type} (g : Nat → Option (α × Int)) (p c : Int) (P : α → Prop) : Prop := ∃ r q, p ≤ q ∧ q ≤ p + c ∧ P r ∧ Evn fun k => g k = some (r, q)

theorem Dr.bind {α β : Type} {g : Nat → Option (α × Int)} {H : Nat → α × Int → Option (β × Int)} {p c C : Int} {P : α → Prop} {Q : β → Prop}
    (h1 : Dr g p c P) (h2 : ∀ bt : α × Int, P bt.1 → p ≤ bt.2 → bt.2 ≤ p + c → Dr (fun k => H k bt) bt.2 (C - c) Q) : Dr (fun k => (g k).bind (H k)) p C Q := by
  obtain ⟨r, q, hq0, hq1, hr, e⟩ := h1
  obtain ⟨r', q', h0, h1, hr', e'⟩ := h2 (r, q) hr hq0 hq1
  refine ⟨r', q', by simp only at h0; omega, by simp only at h1; omega, hr', Evn.mp e (Evn.mp e' (Evn.all fun k e' e => ?_))⟩
  dsimp only
  rw [e]
  exact e'

theorem Dr.pure {α : Type} {p c : Int} {P : α → Prop} {r : α} (hr : P r) (hc : 0 ≤ c) : Dr (fun _ => some (r, p)) p c P :=
  ⟨r, p, by omega, by omega, hr, Evn.all fun _ => rfl⟩

theorem Dr.ite {α : Type} {g h : Nat → Option (α × Int)} {p c : Int} {P : α → Prop} {b : Prop} [Decidable b] (h1 : b → Dr g p c P) (h2 : ¬ b → Dr h p c P) : Dr (fun k => if b then g k else h k) p c P := by
  by_cases hb : b
  · simpa [hb] using h1 hb
  · simpa [hb] using h2 hb

/-- a value that is computed on the way, by a function that draws nothing -/
theorem Dr.run {α β : Type} {g : Nat → Option α} {H : Nat → α → Option (β × Int)} {p c : Int} {Q : β → Prop} {r : α} (h1 : Evn fun k => g k = some r) (h2 : Dr (fun k => H k r) p c Q) : Dr (fun k => (g k).bind (H k)) p c Q := by
  obtain ⟨r', q', h0, h1', hr', e'⟩ := h2
  refine ⟨r', q', h0, h1', hr', Evn.mp h1 (Evn.mp e' (Evn.all fun k e' e => ?_))⟩
  dsimp only
  rw [e]
  exact e'

theorem Dr.some_bind {α β : Type} {H : Nat → α → Option (β × Int)} {p c : Int} {Q : β → Prop} {r : α} (h2 : Dr (fun k => H k r) p c Q) : Dr (fun k => (some r).bind (H k)) p c Q := h2

theorem Dr.le {α : Type} {g : Nat → Option (α × Int)} {p c C : Int} {P Q : α → Prop} (h : Dr g p c P) (hc : c ≤ C) (hp : ∀ r, P r → Q r) : Dr g p C Q := by
  obtain ⟨r, q, h0, h1, hr, e⟩ := h
  exact ⟨r, q, h0, by omega, hp r hr, e⟩

theorem Dr.congr {α : Type} {g h : Nat → Option (α × Int)} {p c : Int} {P : α → Prop} (hg : Dr h p c P) (e : ∀ k, g k = h k) : Dr g p c P := by
  obtain ⟨r, q, h0, h1, hr, e'⟩ := hg
  exact ⟨r, q, h0, h1, hr, Evn.mp e' (Evn.all fun k e' => (e k).trans e')⟩

theorem Dr.succ {α : Type} {g : Nat → Option (α × Int)} {p c : Int} {P : α → Prop} (h : Dr (fun k => g (k + 1)) p c P) : Dr g p c P := by
  obtain ⟨r, q, h0, h1, hr, e⟩ := h
  exact ⟨r, q, h0, h1, hr, Evn.succ e⟩

/-- one of a list's values, by an index that was drawn -/
theorem Dr.elt {p c : Int} {P : Int → Prop} {xs : List Int} {i : Int} (h0 : 0 ≤ i) (h1 : i < (xs.length : Int)) (hP : ∀ x ∈ xs, P x) (hc : 0 ≤ c) : Dr (fun _ => if 0 ≤ i then (if i < (xs.length : Int) then some (rd xs i, p) else none) else none) p c P := by
  refine ⟨rd xs i, p, by omega, by omega, ?_, Evn.all fun k => by rw [if_pos h0, if_pos h1]⟩
  obtain ⟨j, rfl⟩ : ∃ j : Nat, i = (j : Int) := ⟨i.toNat, by omega⟩
  rw [rd_nat (by omega)]
  exact hP _ (List.getElem_mem _)

def InPick (n r : Int) : Prop := 0 ≤ r ∧ (1 ≤ n → r < n) ∧ (n ≤ 1 → r = 0)

theorem dr_pick {b : List Int} (hb : Code b) {p : Int} (n : Int) (h0 : 0 ≤ p) (h1 : p ≤ 1099511627776) : Dr (fun k => spec_l20Rd_pick.f k b p n) p 1 (InPick n) := by
  obtain ⟨r, a, c, d, e⟩ := spec_pick b hb p n h0 h1
  exact ⟨r, p + 1, by omega, by omega, ⟨a, c, d⟩, e⟩

theorem dr_odd {b : List Int} (hb : Code b) {p : Int} (n : Int) (h0 : 0 ≤ p) (h1 : p ≤ 1099511627776) (hn : n ≤ 1000000) : Dr (fun k => spec_l20Rd_odd.f k b p n) p 1 (fun r => n ≤ 0 → r = false) := by
  obtain ⟨r, q, a, c, d, e⟩ := spec_odd b hb p n h0 h1 hn
  exact ⟨r, q, a, c, d, e⟩

/-- What is drawn at the end: no place behind it. -/
def Drw {α : Type} (g : Nat → Option α) (P : α → Prop) : Prop := ∃ r, P r ∧ Evn fun k => g k = some r

theorem Drw.bind {α β : Type} {g : Nat → Option (α × Int)} {H : Nat → α × Int → Option β} {p c : Int} {P : α → Prop} {Q : β → Prop}
    (h1 : Dr g p c P) (h2 : ∀ bt : α × Int, P bt.1 → p ≤ bt.2 → bt.2 ≤ p + c → Drw (fun k => H k bt) Q) : Drw (fun k => (g k).bind (H k)) Q := by
  obtain ⟨r, q, hq0, hq1, hr, e⟩ := h1
  obtain ⟨r', hr', e'⟩ := h2 (r, q) hr hq0 hq1
  refine ⟨r', hr', Evn.mp e (Evn.mp e' (Evn.all fun k e' e => ?_))⟩
  dsimp only
  rw [e]
  exact e'

theorem Drw.pure {α : Type} {P : α → Prop} {r : α} (hr : P r) : Drw (fun _ => some r) P := ⟨r, hr, Evn.all fun _ => rfl⟩

theorem Drw.ite {α : Type} {g h : Nat → Option α} {P : α → Prop} {b : Prop} [Decidable b] (h1 : b → Drw g P) (h2 : ¬ b → Drw h P) : Drw (fun k => if b then g k else h k) P := by
  by_cases hb : b
  · simpa [hb] using h1 hb
  · simpa [hb] using h2 hb

theorem Drw.run {α β : Type} {g : Nat → Option α} {H : Nat → α → Option β} {Q : β → Prop} {r : α} (h1 : Evn fun k => g k = some r) (h2 : Drw (fun k => H k r) Q) : Drw (fun k => (g k).bind (H k)) Q := by
  obtain ⟨r', hr', e'⟩ := h2
  refine ⟨r', hr', Evn.mp h1 (Evn.mp e' (Evn.all fun k e' e => ?_))⟩
  dsimp only
  rw [e]
  exact e'

theorem Drw.drw {α β : Type} {g : Nat → Option α} {H : Nat → α → Option β} {P : α → Prop} {Q : β → Prop} (h1 : Drw g P) (h2 : ∀ r, P r → Drw (fun k => H k r) Q) : Drw (fun k => (g k).bind (H k)) Q := by
  obtain ⟨r, hr, e⟩ := h1
  exact Drw.run e (h2 r hr)

theorem Drw.some_bind {α β : Type} {H : Nat → α → Option β} {Q : β → Prop} {r : α} (h2 : Drw (fun k => H k r) Q) : Drw (fun k => (some r).bind (H k)) Q := h2

theorem Drw.congr {α : Type} {g h : Nat → Option α} {P : α → Prop} (hg : Drw h P) (e : ∀ k, g k = h k) : Drw g P := by
  obtain ⟨r, hr, e'⟩ := hg
  exact ⟨r, hr, Evn.mp e' (Evn.all fun k e' => (e k).trans e')⟩

theorem Drw.le {α : Type} {g : Nat → Option α} {P Q : α → Prop} (h : Drw g P) (hp : ∀ r, P r → Q r) : Drw g Q := by
  obtain ⟨r, hr, e⟩ := h
  exact ⟨r, hp r hr, e⟩

theorem dr_number {b : List Int} (hb : Code b) {p : Int} (n : Int) (h0 : 0 ≤ p) (h1 : p ≤ 1099511000000) (hn : n ≤ 1000000) :
    Dr (fun k => spec_l20Number.f k b p n) p 8 (fun _ => True) := by
  unfold spec_l20Number.f
  refine Dr.bind (dr_odd hb n (by omega) (by omega) hn) fun bt _ _ _ => Dr.ite (fun _ => ?_) (fun _ => ?_)
  · refine Dr.some_bind (Dr.bind (dr_pick hb 2 (by omega) (by omega)) fun bt2 hr _ _ => Dr.elt hr.1 (hr.2.1 (by omega)) (fun _ _ => trivial) (by omega))
  · refine Dr.bind (dr_pick hb 256 (by omega) (by omega)) fun bt1 _ _ _ => Dr.bind (dr_pick hb 256 (by omega) (by omega)) fun bt2 _ _ _ => Dr.bind (dr_pick hb 256 (by omega) (by omega)) fun bt3 _ _ _ => Dr.bind (dr_pick hb 256 (by omega) (by omega)) fun bt4 _ _ _ => Dr.bind (dr_pick hb 256 (by omega) (by omega)) fun bt5 _ _ _ => Dr.bind (dr_pick hb 256 (by omega) (by omega)) fun bt6 _ _ _ => ?_
    refine Dr.some_bind (Dr.bind (dr_pick hb 9 (by omega) (by omega)) fun bt7 hr _ _ => Dr.elt hr.1 (hr.2.1 (by omega)) (fun _ _ => trivial) (by omega))

/-! Strings and their bytes. -/
theorem str_nil : strOfNums [] = (⟨#[]⟩ : ByteArray) := rfl
theorem ba_ext {a b : ByteArray} (h : a.data.toList = b.data.toList) : a = b := by
  cases a; cases b; simp only [ByteArray.mk.injEq]; exact Array.toList_inj.mp h
theorem ba_append (a b : ByteArray) : (a ++ b).data.toList = a.data.toList ++ b.data.toList := by
  rw [ByteArray.data_append, Array.toList_append]
theorem str_append (xs ys : List Int) : strOfNums (xs ++ ys) = strOfNums xs ++ strOfNums ys := by
  refine ba_ext ?_
  rw [ba_append, strOfNums_data, strOfNums_data, strOfNums_data, List.map_append]
theorem str_bytes (s : ByteArray) : strOfNums (bytesOf s) = s := by
  refine ba_ext ?_
  rw [strOfNums_data, bytesOf, List.map_map]
  exact (List.map_congr_left (g := id) fun b _ => by simp).trans (List.map_id _)
theorem bytes_str {xs : List Int} (h : ∀ x ∈ xs, 0 ≤ x ∧ x ≤ 255) : bytesOf (strOfNums xs) = xs := by
  rw [bytesOf, strOfNums_data, List.map_map]
  refine (List.map_congr_left (g := id) fun x hx => ?_).trans (List.map_id _)
  have := h x hx
  simp only [Function.comp, id]
  rw [UInt8.toNat_ofNat_of_lt' (by simp [UInt8.size]; omega)]
  omega
theorem ba_toList (s : ByteArray) : s.toList = s.data.toList := Lib.toList_data s
theorem ba_toList_inj {s t : ByteArray} : s.toList = t.toList ↔ s = t := by
  refine ⟨fun h => ba_ext ?_, fun h => by rw [h]⟩
  rwa [ba_toList, ba_toList] at h
theorem bytes_byte (s : ByteArray) : ∀ x ∈ bytesOf s, 0 ≤ x ∧ x ≤ 255 := by
  intro x hx
  unfold bytesOf at hx
  obtain ⟨b, _, rfl⟩ := List.mem_map.mp hx
  have := b.toNat_lt
  omega

theorem dr_textl {b : List Int} (hb : Code b) (m : Nat) : ∀ (s : ByteArray) (p : Int), 0 ≤ p → p + (m : Int) ≤ 1099511627776 → s.size + m ≤ 1000 →
    Dr (fun k => spec_l20Text.l0 k s (m : Int) b p) p (m : Int) (fun r => r.size ≤ s.size + m) := by
  induction m with
  | zero =>
    intro s p h0 h1 hs
    refine Dr.succ (Dr.congr (Dr.pure (r := s) (by omega) (by omega)) fun k => ?_)
    simp only [spec_l20Text.l0]
    rw [if_neg (by omega)]
  | succ m ih =>
    intro s p h0 h1 hs
    refine Dr.succ (Dr.congr (h := fun k => (spec_l20Rd_pick.f k b p 256).bind fun bt => spec_l20Text.l0 k (s ++ strOfNums [bt.1 % 256]) (m : Int) b bt.2) (Dr.bind (dr_pick hb 256 h0 (by omega)) fun bt _ _ _ => ?_) fun k => ?_)
    · refine Dr.le (ih (s ++ strOfNums [bt.1 % 256]) bt.2 (by omega) (by omega) (by rw [ByteArray.size_append, strOfNums_size]; simp only [List.length_cons, List.length_nil]; omega)) (by omega) fun r hr => ?_
      rw [ByteArray.size_append, strOfNums_size] at hr
      simp only [List.length_cons, List.length_nil] at hr
      omega
    · simp only [spec_l20Text.l0]
      rw [if_pos (by omega), w64 (by omega) (by omega), show ((m + 1 : Nat) : Int) - 1 = (m : Int) by omega]
      refine congrArg (Option.bind _) (funext fun bt => ?_)
      simp only [Option.bind_some]
      rw [if_pos (by rw [strOfNums_size]; simp only [List.length_cons, List.length_nil]; omega)]

theorem dr_text {b : List Int} (hb : Code b) {p : Int} (n : Int) (h0 : 0 ≤ p) (h1 : p ≤ 1099511000000) (hn : n ≤ 1000000) :
    Dr (fun k => spec_l20Text.f k b p n) p 11 (fun r => r.size ≤ 9) := by
  unfold spec_l20Text.f
  refine Dr.bind (dr_odd hb n (by omega) (by omega) hn) fun bt _ _ _ => Dr.ite (fun _ => ?_) (fun _ => ?_)
  · exact Dr.pure (by decide) (by omega)
  · refine Dr.bind (dr_pick hb 9 (by omega) (by omega)) fun bt2 hr _ _ => ?_
    obtain ⟨m, hm⟩ : ∃ m : Nat, bt2.1 = (m : Int) := ⟨bt2.1.toNat, by have := hr.1; omega⟩
    have := hr.2.1 (by omega)
    rw [hm]
    refine Dr.le (dr_textl hb m ⟨#[]⟩ bt2.2 (by omega) (by omega) (by simp [ByteArray.size]; omega)) (by omega) fun r hr => ?_
    have : (⟨#[]⟩ : ByteArray).size = 0 := rfl
    omega

/-! The model of numbers as bytes. -/
def encG : Nat → Nat → List Int
  | 0, n => [(n : Int)]
  | g + 1, n => if n < 128 then [(n : Int)] else (((n % 128 : Nat) : Int) + 128) :: encG g (n / 128)
def encN (n : Int) : List Int := if 0 ≤ n ∧ n ≤ 268435455 then encG 4 n.toNat else []
theorem encG_length (g : Nat) : ∀ n, 1 ≤ (encG g n).length ∧ (encG g n).length ≤ g + 1 := by
  induction g with
  | zero => intro n; simp [encG]
  | succ g ih =>
    intro n
    unfold encG
    split
    · simp
    · have := ih (n / 128)
      simp
      omega
theorem encN_length (n : Int) : (encN n).length ≤ 5 := by
  unfold encN
  split
  · exact (encG_length 4 _).2
  · simp

theorem specEnc_loop (g : Nat) : ∀ (n : Nat) (acc : List Int), n < 128 ^ (g + 1) → n ≤ 268435455 → acc.length + g ≤ 1099511627776 →
    Evn fun k => spec_EncodeNumber.l0 k (n : Int) acc = some (acc ++ encG g n) := by
  induction g with
  | zero =>
    intro n acc hn _ ha
    refine Evn.succ (Evn.all fun k => ?_)
    simp only [spec_EncodeNumber.l0]
    rw [if_neg (by omega), if_pos (by omega)]
    rfl
  | succ g ih =>
    intro n acc hn hm ha
    by_cases h : n < 128
    · refine Evn.succ (Evn.all fun k => ?_)
      simp only [spec_EncodeNumber.l0]
      rw [if_neg (by omega), if_pos (by omega)]
      simp [encG, h]
    · have hlt : n / 128 < 128 ^ (g + 1) := by rw [Nat.pow_succ, Nat.mul_comm] at hn; exact Nat.div_lt_of_lt_mul hn
      refine Evn.succ (Evn.mp (ih (n / 128) (acc ++ [((n % 128 : Nat) : Int) + 128]) hlt (by omega) (by rw [List.length_append]; simp only [List.length_cons, List.length_nil]; omega)) (Evn.all fun k e => ?_))
      simp only [spec_EncodeNumber.l0]
      rw [if_pos (by omega), if_pos (by omega), Int.tdiv_eq_ediv_of_nonneg (by omega), Int.tmod_eq_emod_of_nonneg (by omega), w64 (by omega) (by omega), w64 (by omega) (by omega)]
      rw [show (n : Int) / 128 = ((n / 128 : Nat) : Int) by omega, show 128 + (n : Int) % 128 = ((n % 128 : Nat) : Int) + 128 by omega, e]
      simp [encG, h]

theorem specEnc (n : Int) : Evn fun k => spec_EncodeNumber.f k n = some (encN n) := by
  unfold encN
  by_cases h : 0 ≤ n ∧ n ≤ 268435455
  · refine Evn.mp (specEnc_loop 4 n.toNat [] (by omega) (by omega) (by simp)) (Evn.all fun k e => ?_)
    unfold spec_EncodeNumber.f
    rw [show ((n.toNat : Nat) : Int) = n by omega] at e
    simpa [l1In, h] using e
  · refine Evn.all fun k => ?_
    unfold spec_EncodeNumber.f
    simp [l1In, h]


/-! The model of texts as bytes. -/
def encT (s : ByteArray) : List Int := if s.size ≤ 8 then encN (s.size : Int) ++ bytesOf s else []
theorem encT_length (s : ByteArray) : (encT s).length ≤ 13 := by
  unfold encT
  have := encN_length (s.size : Int)
  split
  · rw [List.length_append, bytesOf_length]
    omega
  · simp
theorem bt_drop {s : ByteArray} {j : Nat} (h : j < s.size) : (bytesOf s).drop j = bt s (j : Int) :: (bytesOf s).drop (j + 1) := by
  rw [rd_drop (by rw [bytesOf_length]; exact h), rd_bytesOf]

theorem specEncT_loop (s : ByteArray) (hs : s.size ≤ 8) (d : Nat) : ∀ (j : Nat) (acc : List Int), j + d = s.size → acc.length + d ≤ 1000 →
    Evn fun k => spec_EncodeText.l0 k s acc (j : Int) = some (acc ++ (bytesOf s).drop j) := by
  induction d with
  | zero =>
    intro j acc hj ha
    refine Evn.succ (Evn.all fun k => ?_)
    simp only [spec_EncodeText.l0]
    rw [if_neg (by omega), List.drop_of_length_le (by rw [bytesOf_length]; omega), List.append_nil]
  | succ d ih =>
    intro j acc hj ha
    have hr := bt_range s (j : Int)
    refine Evn.succ (Evn.mp (ih (j + 1) (acc ++ [bt s (j : Int)]) (by omega) (by rw [List.length_append]; simp only [List.length_cons, List.length_nil]; omega)) (Evn.all fun k e => ?_))
    simp only [spec_EncodeText.l0]
    rw [if_pos (by omega), if_pos (by omega), if_pos (by omega), w64 (x := bt s (j : Int)) (by omega) (by omega), w64 (x := (j : Int) + 1) (by omega) (by omega), bt_drop (show j < s.size by omega)]
    rw [show ((j : Int) + 1) = ((j + 1 : Nat) : Int) by omega, e]
    simp

theorem specEncT (s : ByteArray) : Evn fun k => spec_EncodeText.f k s = some (encT s) := by
  unfold encT
  by_cases h : s.size ≤ 8
  · have hl := encN_length (s.size : Int)
    refine Evn.mp (specEnc (s.size : Int)) (Evn.mp (specEncT_loop s h s.size 0 (encN (s.size : Int)) (by omega) (by omega)) (Evn.all fun k e1 e2 => ?_))
    unfold spec_EncodeText.f
    rw [if_neg (by omega), if_pos h, e2]
    simpa using e1
  · refine Evn.all fun k => ?_
    unfold spec_EncodeText.f
    rw [if_pos (by omega), if_neg h]


theorem dr_bytesl {b : List Int} (hb : Code b) (x : Int) (hx : x ≤ 1000000) (m : Nat) : ∀ (l : List Int) (p : Int), 0 ≤ p → p ≤ 1099510000000 - 100 * (m : Int) → m ≤ 1000 → l.length + 100 * m ≤ 200000 →
    Dr (fun k => spec_l20Bytes.l0 k x l (m : Int) b p) p (14 * (m : Int) + 4) (fun r => r.length ≤ l.length + 100 * m + 2001) := by
  induction m with
  | zero =>
    intro l p h0 h1 hm hl
    refine Dr.succ (Dr.congr ?_ fun k => spec_l20Bytes.l0.eq_2 ..)
    refine Dr.ite (fun h => absurd h (by omega)) (fun _ => ?_)
    refine Dr.bind (dr_odd hb x (by omega) (by omega) hx) fun bt _ _ _ => Dr.ite (fun _ => ?_) (fun _ => Dr.pure (by omega) (by omega))
    refine Dr.bind (dr_pick hb 3 (by omega) (by omega)) fun bt2 _ _ _ => Dr.ite (fun _ => ?_) (fun _ => ?_)
    · exact Dr.ite (fun _ => Dr.pure (by rw [List.length_replicate]; omega) (by omega)) (fun h => absurd h (by omega))
    · refine Dr.some_bind (Dr.bind (dr_pick hb 2 (by omega) (by omega)) fun bt3 hr _ _ => ?_)
      refine Dr.ite (fun _ => Dr.ite (fun _ => Dr.ite (fun _ => ?_) fun h => absurd h (by omega)) fun h => absurd h ?_) fun h => absurd h ?_
      · exact Dr.pure (by simp only [List.length_append, List.length_cons, List.length_nil]; omega) (by omega)
      · have := hr.2.1 (by omega)
        simp only [List.length_cons, List.length_nil]
        omega
      · have := hr.1
        omega
  | succ m ih =>
    intro l p h0 h1 hm hl
    refine Dr.succ (Dr.congr ?_ fun k => spec_l20Bytes.l0.eq_2 ..)
    have hm1 : wrap64 (((m + 1 : Nat) : Int) - 1) = (m : Int) := by rw [w64 (by omega) (by omega)]; omega
    refine Dr.ite (fun _ => ?_) (fun h => absurd (show ((m + 1 : Nat) : Int) > 0 by omega) h)
    refine Dr.bind (dr_pick hb 4 (by omega) (by omega)) fun bt _ _ _ => Dr.ite (fun _ => ?_) (fun _ => Dr.ite (fun _ => ?_) (fun _ => ?_))
    · refine Dr.bind (dr_number hb 0 (by omega) (by omega) (by omega)) fun bt2 _ _ _ => Dr.run (specEnc bt2.1) (Dr.ite (fun _ => ?_) fun h => absurd h ?_)
      · have := encN_length bt2.1
        rw [hm1]
        refine Dr.le (ih _ bt2.2 (by omega) (by omega) (by omega) (by rw [List.length_append]; omega)) (by omega) fun r hr => ?_
        rw [List.length_append] at hr
        omega
      · have := encN_length bt2.1
        omega
    · refine Dr.bind (dr_text hb 0 (by omega) (by omega) (by omega)) fun bt2 _ _ _ => Dr.run (specEncT bt2.1) (Dr.ite (fun _ => ?_) fun h => absurd h ?_)
      · have := encT_length bt2.1
        rw [hm1]
        refine Dr.le (ih _ bt2.2 (by omega) (by omega) (by omega) (by rw [List.length_append]; omega)) (by omega) fun r hr => ?_
        rw [List.length_append] at hr
        omega
      · have := encT_length bt2.1
        omega
    · refine Dr.bind (dr_pick hb 256 (by omega) (by omega)) fun bt2 _ _ _ => Dr.ite (fun _ => ?_) fun h => absurd h (by omega)
      rw [hm1]
      refine Dr.le (ih _ bt2.2 (by omega) (by omega) (by omega) (by rw [List.length_append]; simp only [List.length_cons, List.length_nil]; omega)) (by omega) fun r hr => ?_
      rw [List.length_append] at hr
      simp only [List.length_cons, List.length_nil] at hr
      omega

theorem dr_bytes {b : List Int} (hb : Code b) {p : Int} (n : Int) (h0 : 0 ≤ p) (h1 : p ≤ 1099500000000) (hn : n ≤ 1000000) :
    Dr (fun k => spec_l20Bytes.f k b p n) p 200 (fun r => r.length ≤ 4000) := by
  unfold spec_l20Bytes.f
  refine Dr.bind (dr_pick hb 12 (by omega) (by omega)) fun bt hr _ _ => ?_
  obtain ⟨m, hm⟩ : ∃ m : Nat, bt.1 = (m : Int) := ⟨bt.1.toNat, by have := hr.1; omega⟩
  have := hr.2.1 (by omega)
  rw [hm]
  refine Dr.le (dr_bytesl hb n hn m [] bt.2 (by omega) (by omega) (by omega) (by simp; omega)) (by omega) fun r hr => ?_
  simp only [List.length_nil] at hr
  omega

/-- The fixed answer. -/
theorem alive : Evn fun k => laws_alive.f k = some true := Ev.of laws_alive.mono (k := 12) (by decide +kernel)

/-! The model of reading numbers: at most g groups; the value, and how many bytes were read. -/
def decG : Nat → List Int → Bool → Option (Int × Nat)
  | 0, _, _ => none
  | _ + 1, [], _ => none
  | g + 1, x :: r, first =>
    if x < 128 then (if x = 0 ∧ first = false then none else some (x, 1))
    else match decG g r false with
      | none => none
      | some (v, c) => some (x % 128 + 128 * v, c + 1)
def decTail (at_ : Int) : Option (Int × Nat) → Int × Int
  | none => (-1, -1)
  | some (v, c) => (v, at_ + (c : Int))
def decN (b : List Int) (at_ : Int) : Int × Int :=
  if bytesB b = true ∧ 0 ≤ at_ ∧ at_ < (b.length : Int) then decTail at_ (decG 4 (b.drop at_.toNat) true) else (-1, -1)
/-- how many groups are left, and the weight of the next one -/
def weigh (g : Nat) (u : Int) : Prop := (g = 4 ∧ u = 1) ∨ (g = 3 ∧ u = 128) ∨ (g = 2 ∧ u = 16384) ∨ (g = 1 ∧ u = 2097152) ∨ (g = 0 ∧ u = 268435456)
def decAll (n u at_ : Int) : Option (Int × Nat) → Int × Int
  | none => (-1, -1)
  | some (v, c) => (n + u * v, at_ + (c : Int))
theorem bytesB_range {b : List Int} (h : bytesB b = true) {j : Nat} (hj : j < b.length) : 0 ≤ rd b (j : Int) ∧ rd b (j : Int) ≤ 255 := by
  unfold bytesB at h
  rw [Bool.and_eq_true, List.all_eq_true] at h
  have := h.2 b[j] (List.getElem_mem hj)
  rw [rd_nat hj]
  unfold byteB at this
  simpa using this
theorem bytesB_length {b : List Int} (h : bytesB b = true) : b.length ≤ 2000 := by
  unfold bytesB at h
  rw [Bool.and_eq_true] at h
  simpa using h.1
theorem decG_small {g : Nat} {x : Int} {r : List Int} {first : Bool} (hs : x < 128) : decG (g + 1) (x :: r) first = if x = 0 ∧ first = false then none else some (x, 1) := by
  rw [decG, if_pos hs]
theorem decG_big {g : Nat} {x : Int} {r : List Int} {first : Bool} (hs : ¬ x < 128) : decG (g + 1) (x :: r) first = match decG g r false with
      | none => none
      | some (v, c) => some (x % 128 + 128 * v, c + 1) := by
  rw [decG, if_neg hs]
theorem decN_bad {b : List Int} {a : Int} (h : bytesB b = true → ¬ (0 ≤ a ∧ a < (b.length : Int))) : decN b a = (-1, -1) := by
  unfold decN
  rw [if_neg (fun q => h q.1 q.2)]
theorem decAll_step (n u x : Int) (j : Nat) (o : Option (Int × Nat)) :
    decAll (n + u * (x % 128)) (u * 128) ((j : Int) + 1) o = decAll n u (j : Int) (match o with | none => none | some (v, c) => some (x % 128 + 128 * v, c + 1)) := by
  cases o with
  | none => rfl
  | some p =>
    obtain ⟨v, c⟩ := p
    simp only [decAll]
    rw [Int.mul_add, Int.mul_assoc]
    refine Prod.ext ?_ ?_
    · simp only; omega
    · simp only; omega


/-! What is written is read again. -/
theorem decG_enc (h : Nat) : ∀ (g n : Nat) (rest : List Int) (first : Bool), g ≤ h + 1 → n < 128 ^ g → 1 ≤ g → (first = true ∨ 0 < n) →
    decG g (encG h n ++ rest) first = some ((n : Int), (encG h n).length) := by
  induction h with
  | zero =>
    intro g n rest first hg hn h1 hf
    obtain rfl : g = 1 := by omega
    simp only [encG, List.cons_append, List.nil_append]
    rw [decG_small (by omega), if_neg (fun q => by rcases hf with hf | hf <;> simp_all)]
    rfl
  | succ h ih =>
    intro g n rest first hg hn h1 hf
    obtain ⟨g, rfl⟩ : ∃ m, g = m + 1 := ⟨g - 1, by omega⟩
    by_cases hs : n < 128
    · rw [encG, if_pos hs, List.cons_append, decG_small (by omega), if_neg (fun q => by rcases hf with hf | hf <;> simp_all)]
      rfl
    · have hlt : n / 128 < 128 ^ g := by rw [Nat.pow_succ, Nat.mul_comm] at hn; exact Nat.div_lt_of_lt_mul hn
      have hg1 : 1 ≤ g := by
        rcases Nat.eq_zero_or_pos g with h0 | h0
        · subst h0; simp at hlt; omega
        · exact h0
      rw [encG, if_neg hs, List.cons_append, decG_big (by omega), ih g (n / 128) rest false (by omega) hlt hg1 (.inr (by omega))]
      refine congrArg some (Prod.ext ?_ rfl)
      dsimp only
      omega

theorem encG_byte (h : Nat) : ∀ n, n < 128 ^ (h + 1) → ∀ x ∈ encG h n, 0 ≤ x ∧ x ≤ 255 := by
  induction h with
  | zero => intro n hn x hx; simp [encG] at hx; omega
  | succ h ih =>
    intro n hn x hx
    rw [encG] at hx
    split at hx
    · simp at hx; omega
    · rcases List.mem_cons.mp hx with hx | hx
      · omega
      · exact ih (n / 128) (by rw [Nat.pow_succ, Nat.mul_comm] at hn; exact Nat.div_lt_of_lt_mul hn) x hx

theorem bytesB_mk {b : List Int} (h1 : b.length ≤ 2000) (h2 : ∀ x ∈ b, 0 ≤ x ∧ x ≤ 255) : bytesB b = true := by
  unfold bytesB
  rw [Bool.and_eq_true, decide_eq_true_eq, List.all_eq_true]
  refine ⟨h1, fun x hx => ?_⟩
  have := h2 x hx
  unfold byteB
  simp [this]

theorem bytesB_iff {b : List Int} : bytesB b = true ↔ b.length ≤ 2000 ∧ ∀ x ∈ b, 0 ≤ x ∧ x ≤ 255 := by
  refine ⟨fun h => ⟨bytesB_length h, fun x hx => ?_⟩, fun h => bytesB_mk h.1 h.2⟩
  obtain ⟨j, hj, rfl⟩ := List.getElem_of_mem hx
  have := bytesB_range h hj
  rwa [rd_nat hj] at this

theorem encN_byte (n : Int) : ∀ x ∈ encN n, 0 ≤ x ∧ x ≤ 255 := by
  intro x hx
  unfold encN at hx
  split at hx
  · exact encG_byte 4 n.toNat (by omega) x hx
  · simp at hx

theorem encN_pos {n : Int} (h0 : 0 ≤ n) (h1 : n ≤ 268435455) : 1 ≤ (encN n).length := by
  unfold encN
  rw [if_pos ⟨h0, h1⟩]
  exact (encG_length 4 _).1

/-- DecodeNumber of what EncodeNumber wrote, wherever it stands in valid bytes. -/
theorem decN_enc {n : Int} (h0 : 0 ≤ n) (h1 : n ≤ 268435455) {pre rest : List Int} (hb : bytesB (pre ++ (encN n ++ rest)) = true) :
    decN (pre ++ (encN n ++ rest)) (pre.length : Int) = (n, (pre.length : Int) + ((encN n).length : Int)) := by
  have hp := encN_pos h0 h1
  unfold decN
  rw [if_pos ⟨hb, by omega, by simp only [List.length_append]; omega⟩, Int.toNat_natCast, List.drop_left]
  have e : encN n = encG 4 n.toNat := by unfold encN; rw [if_pos ⟨h0, h1⟩]
  rw [e, decG_enc 4 4 n.toNat rest true (by omega) (by omega) (by omega) (.inl rfl)]
  simp only [decTail]
  rw [show ((n.toNat : Nat) : Int) = n by omega]

theorem FnBytesValid : laws_FnBytesValid.Pure := by
  intro l0 _ _ hw
  by_cases hn : l0.length ≤ 1048576
  · obtain ⟨b, hb, eo⟩ := spec_open l0 hw
    obtain ⟨r, q, _, _, hl, en⟩ := dr_bytes hb 2 (Int.le_refl 0) (by omega) (by omega)
    have eD : Evn fun k => spec_DrawBytesValid.f k l0 = some r := Evn.mp en (Evn.all fun k e => by
      unfold spec_DrawBytesValid.f
      rw [eo]
      dsimp only at e
      simp only [Option.bind_some]
      rw [e]
      rfl)
    have hbad : bytesB (r ++ [256]) = false := by
      rw [Bool.eq_false_iff]
      intro h
      have := (bytesB_iff.mp h).2 256 (by simp)
      omega
    have hdrop : bytesB r = true → bytesB (r.drop 1) = true := fun h => by
      have h := bytesB_iff.mp h
      exact bytesB_mk (by rw [List.length_drop]; omega) (fun x hx => h.2 x (List.mem_of_mem_drop hx))
    refine Evn.some (Evn.mp eD (Evn.mp (implBytes r) (Evn.mp (specBytes r) (Evn.mp (implBytes (r ++ [256])) (Evn.mp (implBytes (r.drop 1)) (Evn.mp alive (Evn.all fun k e6 e5 e4 e3 e2 e1 => ?_)))))))
    unfold laws_FnBytesValid.f
    rw [if_neg (by omega), e1]
    simp only [Option.bind_some]
    rw [e2, e3]
    simp only [Option.bind_some, List.nil_append]
    rw [if_neg (by simp), if_pos (by simp; omega), if_pos (by omega), e4, hbad]
    simp only [Option.bind_some]
    rw [if_neg (by simp), e6]
    simp only [Option.bind_some]
    by_cases hv : bytesB r = true
    · rw [if_pos hv]
      by_cases h0 : (r.length : Int) = 0
      · rw [if_pos h0]
      · rw [if_neg h0, if_pos (by omega), e5, hdrop hv]
        rfl
    · rw [if_neg hv]
  · refine ⟨0, ?_⟩
    unfold laws_FnBytesValid.f
    rw [if_pos (by omega)]

end Go.Proofs.Ytonoieabbmaojaa.Pure
