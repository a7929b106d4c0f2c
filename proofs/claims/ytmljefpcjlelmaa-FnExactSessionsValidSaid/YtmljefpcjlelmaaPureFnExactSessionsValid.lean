/- The program's SessionsValid answers as the reference's for every list of sessions, and leaves the list as it was. No condition beyond the row's own. -/
import Derived.Test.YtmljefpcjlelmaaStmFnExactSessionsValid
namespace Go.Proofs.Ytmljefpcjlelmaa.Pure
open Go.RowKit Go.Proofs.Ytmljefpcjlelmaa.PFnExactSessionsValid Go.Proofs.YtmljefpcjlelmaaW.PrintWords Go.Proofs.YtmljefpcjlelmaaW.PrintLast
set_option linter.unusedVariables false
set_option linter.unusedSimpArgs false

/-! Eventually: for all large enough numbers of rounds; small lemmas on numbers and lists. -/
def Evn (P : Nat → Prop) : Prop := ∃ K, ∀ k, K ≤ k → P k

theorem Evn.all {P : Nat → Prop} (h : ∀ k, P k) : Evn P := ⟨0, fun k _ => h k⟩

theorem Evn.mp {P Q : Nat → Prop} (hp : Evn P) (hq : Evn fun k => P k → Q k) : Evn Q := by
  obtain ⟨K1, h1⟩ := hp
  obtain ⟨K2, h2⟩ := hq
  exact ⟨max K1 K2, fun k hk => h2 k (by omega) (h1 k (by omega))⟩

theorem Evn.succ {P : Nat → Prop} (h : Evn fun k => P (k + 1)) : Evn P := by
  obtain ⟨K, h⟩ := h
  refine ⟨K + 1, fun k hk => ?_⟩
  obtain ⟨m, rfl⟩ : ∃ m, k = m + 1 := ⟨k - 1, by omega⟩
  exact h m (by omega)

theorem Evn.some {P : Nat → Prop} (h : Evn P) : ∃ k, P k := by
  obtain ⟨K, h⟩ := h
  exact ⟨K, h K (Nat.le_refl K)⟩

theorem w64 {x : Int} (h0 : -9223372036854775808 ≤ x) (h1 : x ≤ 9223372036854775807) : wrap64 x = x := by
  unfold wrap64
  omega

theorem rd_drop {xs : List Int} {j : Nat} (h : j < xs.length) : xs.drop j = rd xs (j : Int) :: xs.drop (j + 1) := by
  rw [List.drop_eq_getElem_cons h]
  simp [rd, List.getD_eq_getElem?_getD, List.getElem?_eq_getElem h]

theorem rd_nat {xs : List Int} {j : Nat} (h : j < xs.length) : rd xs (j : Int) = xs[j] := by
  simp [rd, List.getD_eq_getElem?_getD, List.getElem?_eq_getElem h]

theorem wf64 {x : Int} (h : (Lit.int .i64 x).wf = true) : -9223372036854775808 ≤ x ∧ x ≤ 9223372036854775807 := by
  have h' : (decide (IntKind.i64.min ≤ x) && decide (x ≤ IntKind.i64.max)) = true := h
  rw [Bool.and_eq_true, decide_eq_true_eq, decide_eq_true_eq] at h'
  exact h'

/-! The model of sessions. -/
def okS (s : S35) : Bool := decide (0 ≤ s.f0 ∧ s.f0 ≤ 3) && (decide (1 ≤ s.f1 ∧ s.f1 ≤ 999) && decide (-2 ≤ s.f2 ∧ s.f2 ≤ 999))
def above (p : Option Int) (c : Int) : Bool := match p with
  | none => true
  | some q => decide (q < c)
def sesG : Option Int → List S35 → Bool
  | _, [] => true
  | p, s :: r => okS s && (above p s.f0 && sesG (some s.f0) r)
def sesB (l : List S35) : Bool := sesG none l
def sesP (l : List S35) (j : Nat) : Option Int := if j = 0 then none else some (l.getD (j - 1) z35).f0
theorem ses_nat {l : List S35} {j : Nat} (h : j < l.length) : rd_T35 l (j : Int) = l[j] := by
  simp [rd_T35, List.getD_eq_getElem?_getD, List.getElem?_eq_getElem h]
theorem ses_drop {l : List S35} {j : Nat} (h : j < l.length) : l.drop j = rd_T35 l (j : Int) :: l.drop (j + 1) := by
  rw [ses_nat h, List.drop_eq_getElem_cons h]
theorem ses_prev (l : List S35) (j : Nat) : sesP l (j + 1) = some (rd_T35 l (j : Int)).f0 := by
  unfold sesP rd_T35
  rw [if_neg (by omega), Int.toNat_natCast, Nat.add_sub_cancel]

theorem l1In (a b c : Int) : spec_l1In.f a b c = some (decide (b ≤ a ∧ a ≤ c)) := by
  unfold spec_l1In.f
  by_cases h : a ≥ b
  · rw [if_pos h]
    simp [h]
  · rw [if_neg h]
    simp [h]


theorem specSes_loop (l : List S35) (hn : l.length ≤ 1099511627776) (d : Nat) : ∀ j : Nat, j + d = l.length → Evn fun k => spec_SessionsValid.l0 k l (j : Int) = some (sesG (sesP l j) (l.drop j)) := by
  induction d with
  | zero =>
    intro j hj
    refine Evn.succ (Evn.all fun k => ?_)
    simp only [spec_SessionsValid.l0]
    rw [if_neg (by omega), List.drop_of_length_le (by omega)]
    rfl
  | succ d ih =>
    intro j hj
    have hlt : j < l.length := by omega
    refine Evn.succ (Evn.mp (ih (j + 1) (by omega)) (Evn.all fun k e => ?_))
    rw [ses_drop hlt, ses_prev] at *
    simp only [spec_SessionsValid.l0, l1In, Option.bind_some]
    rw [if_pos (by omega), if_pos (by omega), w64 (x := (j : Int) + 1) (by omega) (by omega), show ((j : Int) + 1) = ((j + 1 : Nat) : Int) by omega, e]
    simp only [sesG]
    unfold okS
    by_cases h0 : 0 ≤ (rd_T35 l (j : Int)).f0 ∧ (rd_T35 l (j : Int)).f0 ≤ 3
    · rw [if_pos (by simpa using h0), decide_eq_true h0]
      by_cases h1 : 1 ≤ (rd_T35 l (j : Int)).f1 ∧ (rd_T35 l (j : Int)).f1 ≤ 999
      · rw [if_pos (by simpa using h1), decide_eq_true h1]
        by_cases h2 : -2 ≤ (rd_T35 l (j : Int)).f2 ∧ (rd_T35 l (j : Int)).f2 ≤ 999
        · rw [if_pos (by simpa using h2), decide_eq_true h2]
          by_cases hj0 : j = 0
          · rw [if_neg (by omega)]
            simp [sesP, hj0, above]
          · obtain ⟨i, rfl⟩ : ∃ i, j = i + 1 := ⟨j - 1, by omega⟩
            rw [if_pos (by omega), w64 (by omega) (by omega), if_pos (by omega), if_pos (by omega), ses_prev, show ((i + 1 : Nat) : Int) - 1 = (i : Int) by omega]
            simp only [above, Bool.true_and]
            by_cases hc : (rd_T35 l ((i + 1 : Nat) : Int)).f0 ≤ (rd_T35 l (i : Int)).f0
            · rw [if_pos hc, decide_eq_false (by omega)]
              rfl
            · rw [if_neg hc, decide_eq_true (by omega)]
              rfl
        · rw [if_neg (by simpa using h2), decide_eq_false h2]
          rfl
      · rw [if_neg (by simpa using h1), decide_eq_false h1]
        rfl
    · rw [if_neg (by simpa using h0), decide_eq_false h0]
      rfl

theorem specSes (l : List S35) (hn : l.length ≤ 1099511627776) : Evn fun k => spec_SessionsValid.f k l = some (sesB l) :=
  Evn.mp (specSes_loop l hn l.length 0 (by omega)) (Evn.all fun k e => by
    unfold spec_SessionsValid.f sesB
    exact e)

theorem implSeqS (x : Int) : impl_seqValid.f x = some (decide (1 ≤ x ∧ x ≤ 999)) := by
  unfold impl_seqValid.f
  by_cases h : x ≥ 1
  · rw [if_pos h]
    exact congrArg some (decide_eq_decide.mpr (by omega))
  · rw [if_neg h, decide_eq_false (by omega)]

theorem implSes_loop (l : List S35) (hn : l.length ≤ 1099511627776) (d : Nat) : ∀ j : Nat, j + d = l.length → Evn fun k => impl_SessionsValid.l0 k l l (l.length : Int) (j : Int) = some (sesG (sesP l j) (l.drop j)) := by
  induction d with
  | zero =>
    intro j hj
    refine Evn.succ (Evn.all fun k => ?_)
    simp only [impl_SessionsValid.l0]
    rw [if_neg (by omega), List.drop_of_length_le (by omega)]
    rfl
  | succ d ih =>
    intro j hj
    have hlt : j < l.length := by omega
    refine Evn.succ (Evn.succ (Evn.mp (ih (j + 1) (by omega)) (Evn.all fun k e => ?_)))
    rw [ses_drop hlt, ses_prev] at *
    have rest : ∀ b, impl_SessionsValid.j1 (k + 1) l (j : Int) l (l.length : Int) (j : Int) b (rd_T35 l (j : Int)).f0 (rd_T35 l (j : Int)).f1 (rd_T35 l (j : Int)).f2
        = some (!b && (above (sesP l j) (rd_T35 l (j : Int)).f0 && sesG (some (rd_T35 l (j : Int)).f0) (l.drop (j + 1)))) := by
      intro b
      simp only [impl_SessionsValid.j1]
      cases b with
      | true => rfl
      | false =>
        rw [if_neg (by simp), w64 (x := (j : Int) + 1) (by omega) (by omega), show ((j : Int) + 1) = ((j + 1 : Nat) : Int) by omega, e]
        by_cases hj0 : j = 0
        · rw [if_neg (by omega)]
          simp [sesP, hj0, above]
        · obtain ⟨i, rfl⟩ : ∃ i, j = i + 1 := ⟨j - 1, by omega⟩
          rw [if_pos (by omega), w64 (by omega) (by omega), if_pos (by omega), if_pos (by omega), ses_prev, show ((i + 1 : Nat) : Int) - 1 = (i : Int) by omega]
          simp only [above]
          by_cases hc : (rd_T35 l (i : Int)).f0 ≥ (rd_T35 l ((i + 1 : Nat) : Int)).f0
          · rw [if_pos hc, decide_eq_false (by omega)]
            rfl
          · rw [if_neg hc, decide_eq_true (by omega)]
            rfl
    simp only [impl_SessionsValid.l0, implSeqS, Option.bind_some, rest]
    rw [if_pos (by omega), if_pos (by omega), if_pos (by omega)]
    simp only [sesG]
    unfold okS
    by_cases h0 : (rd_T35 l (j : Int)).f0 < 0
    · rw [if_pos h0, decide_eq_false (show ¬ (0 ≤ (rd_T35 l (j : Int)).f0 ∧ (rd_T35 l (j : Int)).f0 ≤ 3) by omega)]
      rfl
    · rw [if_neg h0]
      by_cases h4 : (rd_T35 l (j : Int)).f0 ≥ 4
      · rw [if_pos h4, decide_eq_false (show ¬ (0 ≤ (rd_T35 l (j : Int)).f0 ∧ (rd_T35 l (j : Int)).f0 ≤ 3) by omega)]
        rfl
      · rw [if_neg h4, decide_eq_true (show (0 ≤ (rd_T35 l (j : Int)).f0 ∧ (rd_T35 l (j : Int)).f0 ≤ 3) by omega)]
        by_cases h1 : 1 ≤ (rd_T35 l (j : Int)).f1 ∧ (rd_T35 l (j : Int)).f1 ≤ 999
        · rw [decide_eq_true h1, if_pos rfl]
          by_cases h2 : (rd_T35 l (j : Int)).f2 < -2
          · rw [if_pos h2, decide_eq_false (show ¬ (-2 ≤ (rd_T35 l (j : Int)).f2 ∧ (rd_T35 l (j : Int)).f2 ≤ 999) by omega)]
            rfl
          · rw [if_neg h2]
            by_cases h3 : (rd_T35 l (j : Int)).f2 > 999
            · rw [decide_eq_true h3, decide_eq_false (show ¬ (-2 ≤ (rd_T35 l (j : Int)).f2 ∧ (rd_T35 l (j : Int)).f2 ≤ 999) by omega)]
              rfl
            · rw [decide_eq_false h3, decide_eq_true (show (-2 ≤ (rd_T35 l (j : Int)).f2 ∧ (rd_T35 l (j : Int)).f2 ≤ 999) by omega)]
              simp
        · rw [decide_eq_false h1, if_neg (by simp)]
          rfl

theorem implSes (l : List S35) (hn : l.length ≤ 1099511627776) : Evn fun k => impl_SessionsValid.f k l = some (sesB l) :=
  Evn.mp (implSes_loop l hn l.length 0 (by omega)) (Evn.all fun k e => by
    unfold impl_SessionsValid.f sesB
    exact e)

def sesOf (x : S32) : S35 := ⟨x.f0, x.f1, x.f2⟩
theorem lses_nat {l : List S32} {j : Nat} (h : j < l.length) : rd_T32 l (j : Int) = l[j] := by
  simp [rd_T32, List.getD_eq_getElem?_getD, List.getElem?_eq_getElem h]

theorem toSes_loop (xs : List S32) (hn : xs.length ≤ 1048576) (d : Nat) : ∀ (j : Nat) (ys : List S35), j + d = xs.length → ys.length = xs.length → ys.take j = (xs.map sesOf).take j →
    Evn fun k => laws_toSessionS.l0 k xs ys (j : Int) = some (xs.map sesOf) := by
  induction d with
  | zero =>
    intro j ys hj hl ht
    refine Evn.succ (Evn.all fun k => ?_)
    simp only [laws_toSessionS.l0]
    rw [if_neg (by omega)]
    rw [List.take_of_length_le (by omega), List.take_of_length_le (by rw [List.length_map]; omega)] at ht
    rw [ht]
  | succ d ih =>
    intro j ys hj hl ht
    have hlt : j < xs.length := by omega
    refine Evn.succ (Evn.mp (ih (j + 1) (ys.set j (sesOf (rd_T32 xs (j : Int)))) (by omega) (by simpa using hl) ?_) (Evn.all fun k e => ?_))
    · rw [lses_nat hlt, List.take_succ_eq_append_getElem (by simp; omega), List.take_succ_eq_append_getElem (by simp; omega), ← ht]
      simp [List.take_set_of_le]
    · simp only [laws_toSessionS.l0, laws_toSession.f, Option.bind_some]
      rw [if_pos (by omega), if_pos (by omega), if_pos (by omega), w64 (by omega) (by omega)]
      exact e

theorem toSes (xs : List S32) (hn : xs.length ≤ 1048576) : Evn fun k => laws_toSessionS.f k xs = some (xs.map sesOf) := by
  refine Evn.mp (toSes_loop xs hn xs.length 0 (List.replicate xs.length z35) (by omega) (by simp) (by simp)) (Evn.all fun k e => ?_)
  unfold laws_toSessionS.f
  rw [if_pos (by omega), if_pos (by omega)]
  exact e

theorem eqSes_loop (xs : List S35) (hn : xs.length ≤ 1099511627776) (d : Nat) : ∀ (j : Nat), j + d = xs.length → Evn fun k => laws_eqSessionS.l0 k xs xs (j : Int) = some true := by
  induction d with
  | zero =>
    intro j hj
    refine Evn.succ (Evn.all fun k => ?_)
    simp only [laws_eqSessionS.l0]
    rw [if_neg (by omega)]
  | succ d ih =>
    intro j hj
    refine Evn.succ (Evn.mp (ih (j + 1) (by omega)) (Evn.all fun k e => ?_))
    simp only [laws_eqSessionS.l0, laws_eqSession.f, if_true, Option.bind_some]
    rw [if_pos (by omega), if_pos (by omega), if_pos (by omega), w64 (by omega) (by omega)]
    exact e

theorem eqSes_self (xs : List S35) (hn : xs.length ≤ 1099511627776) : Evn fun k => laws_eqSessionS.f k xs xs = some true :=
  Evn.mp (eqSes_loop xs hn xs.length 0 (by omega)) (Evn.all fun k e => by
    unfold laws_eqSessionS.f
    rw [if_pos rfl]
    exact e)

/-- what is left of the size: either too little, or the length is small -/
theorem szSes (l : List S32) (hl : l.length ≤ 9223372036854775807) (left : Int) (h0 : 0 ≤ left) (h1 : left ≤ 1048576) :
    laws_szSessionS.f l left = some (-1) ∨ (laws_szSessionS.f l left = some (left - (l.length : Int)) ∧ (l.length : Int) ≤ left) := by
  unfold laws_szSessionS.f
  rw [w64 (by omega) (by omega)]
  by_cases h : left - (l.length : Int) < 0
  · rw [if_pos h]
    exact .inl rfl
  · rw [if_neg h]
    exact .inr ⟨rfl, by omega⟩

theorem FnExactSessionsValid : FnExactSessionsValid.Said := by
  intro l hl
  refine Evn.some ?_
  rcases szSes l (by have := hl.1; unfold maxLen at this; omega) 1048576 (by omega) (by omega) with h | ⟨h, hn⟩
  · refine Evn.all fun k => ?_
    unfold laws_FnExactSessionsValid.f
    rw [h]
    rfl
  · have hm : (l.map sesOf).length ≤ 1099511627776 := by rw [List.length_map]; omega
    refine Evn.mp (toSes l (by omega)) (Evn.mp (specSes _ hm) (Evn.mp (implSes _ hm) (Evn.mp (eqSes_self _ hm) (Evn.all fun k e4 e3 e2 e1 => ?_))))
    unfold laws_FnExactSessionsValid.f
    rw [h]
    simp only [Option.bind_some]
    rw [if_neg (by omega)]
    simp [e1, e2, e3, e4]

end Go.Proofs.Ytmljefpcjlelmaa.Pure
