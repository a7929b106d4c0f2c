/- The program's SessionPut answers as the reference's for every list of sessions and every session, leaves the list as it was, and hands back memory of its own. No condition beyond the row's own. -/
import Derived.Test.YtmljefpcjlelmaaQFnExactSessionPutall
namespace Go.Proofs.Ytmljefpcjlelmaa.Pure
open Go.RowKit Go.Proofs.Ytmljefpcjlelmaa.PFnExactSessionPut Go.Proofs.YtmljefpcjlelmaaW.PrintWords Go.Proofs.YtmljefpcjlelmaaW.PrintLast
def FnExactSessionPut.Said : Prop := ∀ (l0 : (List S32)) (a1_0 : Int) (a1_1 : Int) (a1_2 : Int), (l0.length ≤ maxLen ∧ ∀ y ∈ l0, ((Lit.int .i64 y.f0).wf = true) ∧ ((Lit.int .i64 y.f1).wf = true) ∧ ((Lit.int .i64 y.f2).wf = true)) → ((Lit.int .i64 a1_0).wf = true) → ((Lit.int .i64 a1_1).wf = true) → ((Lit.int .i64 a1_2).wf = true) → ∃ k, laws_FnExactSessionPut.f k l0 a1_0 a1_1 a1_2 = some true
end Go.Proofs.Ytmljefpcjlelmaa.Pure
namespace Go.Proofs.Ytmljefpcjlelmaa.Pure
open Go.RowKit Go.Proofs.Ytmljefpcjlelmaa.PFnExactSessionPut Go.Proofs.YtmljefpcjlelmaaW.PrintWords Go.Proofs.YtmljefpcjlelmaaW.PrintLast
set_option linter.unusedVariables false
set_option linter.unusedSimpArgs false
def Evn (P : Nat → Prop) : Prop := ∃ K, ∀ k, K ≤ k → P k
theorem Evn.all {P : Nat → Prop} (h : ∀ k, P k) : Evn P := ⟨0, fun k _ => h k⟩
theorem Evn.mp {P Q : Nat → Prop} (hp : Evn P) (hq : Evn fun k => P k → Q k) : Evn Q := by
  obtain ⟨K1, h1⟩ := hp
  obtain ⟨K2, h2⟩ := hq
  exact ⟨max K1 K2, fun k hk => h2 k (by omega) (h1 k (by omega))⟩
theorem Evn.succ {P : Nat → Prop} (h : Evn fun k => P (k + 1)) : Evn P := by
  obtain ⟨K, h⟩ := h
  refine ⟨K + 1, fun k hk => ?_⟩
  obtain ⟨m, rfl⟩ : ∃ m, k = m + 1 := ⟨k - 1, by omega⟩
  exact h m (by omega)
theorem Evn.some {P : Nat → Prop} (h : Evn P) : ∃ k, P k := by
  obtain ⟨K, h⟩ := h
  exact ⟨K, h K (Nat.le_refl K)⟩
theorem w64 {x : Int} (h0 : -9223372036854775808 ≤ x) (h1 : x ≤ 9223372036854775807) : wrap64 x = x := by
  unfold wrap64
  omega
def okS (s : S35) : Bool := decide (0 ≤ s.f0 ∧ s.f0 ≤ 3) && (decide (1 ≤ s.f1 ∧ s.f1 ≤ 999) && decide (-2 ≤ s.f2 ∧ s.f2 ≤ 999))
def above (p : Option Int) (c : Int) : Bool := match p with
  | none => true
  | some q => decide (q < c)
def sesG : Option Int → List S35 → Bool
  | _, [] => true
  | p, s :: r => okS s && (above p s.f0 && sesG (some s.f0) r)
def sesB (l : List S35) : Bool := sesG none l
def sesP (l : List S35) (j : Nat) : Option Int := if j = 0 then none else some (l.getD (j - 1) z35).f0
theorem ses_nat {l : List S35} {j : Nat} (h : j < l.length) : rd_T35 l (j : Int) = l[j] := by
  simp [rd_T35, List.getD_eq_getElem?_getD, List.getElem?_eq_getElem h]
theorem ses_drop {l : List S35} {j : Nat} (h : j < l.length) : l.drop j = rd_T35 l (j : Int) :: l.drop (j + 1) := by
  rw [ses_nat h, List.drop_eq_getElem_cons h]
theorem ses_prev (l : List S35) (j : Nat) : sesP l (j + 1) = some (rd_T35 l (j : Int)).f0 := by
  unfold sesP rd_T35
  rw [if_neg (by omega), Int.toNat_natCast, Nat.add_sub_cancel]
def findS : List S35 → Int → S35
  | [], _ => z35
  | s :: r, c => if s.f0 = c then s else findS r c
def seqB (l : List S35) (c : Int) : Int := if sesB l = true ∧ 0 ≤ c ∧ c ≤ 3 then (findS l c).f1 else -1
def putL : List S35 → S35 → Bool → List S35
  | [], s, placed => if placed = true then [] else [s]
  | x :: r, s, placed =>
    if placed = false ∧ s.f0 ≤ x.f0 then s :: ((if x.f0 = s.f0 then [] else [x]) ++ putL r s true)
    else (if x.f0 = s.f0 then [] else [x]) ++ putL r s placed
def putB (l : List S35) (s : S35) : List S35 × Bool :=
  if sesB l = true ∧ sesB [s] = true then (if s.f1 ≤ seqB l s.f0 then (l, false) else (putL l s false, true)) else ([], false)
theorem putL_true (s : S35) (l : List S35) : (putL l s true).length ≤ l.length := by
  induction l with
  | nil => simp [putL]
  | cons y q ihq =>
    rw [putL, if_neg (by simp)]
    split <;> simp <;> omega
theorem putL_length (s : S35) (l : List S35) : ∀ b, (putL l s b).length ≤ l.length + 1 := by
  induction l with
  | nil => intro b; cases b <;> simp [putL]
  | cons x r ih =>
    intro b
    have h1 := putL_true s r
    have h2 := ih b
    rw [putL]
    split
    · split <;> simp <;> omega
    · split <;> simp <;> omega
theorem putB_length (l : List S35) (s : S35) : (putB l s).1.length ≤ l.length + 1 := by
  unfold putB
  split
  · split
    · simp
    · exact putL_length s l false
  · simp
theorem l1In (a b c : Int) : spec_l1In.f a b c = some (decide (b ≤ a ∧ a ≤ c)) := by
  unfold spec_l1In.f
  by_cases h : a ≥ b
  · rw [if_pos h]
    simp [h]
  · rw [if_neg h]
    simp [h]
theorem specSes_loop (l : List S35) (hn : l.length ≤ 1099511627776) (d : Nat) : ∀ j : Nat, j + d = l.length → Evn fun k => spec_SessionsValid.l0 k l (j : Int) = some (sesG (sesP l j) (l.drop j)) := by
  induction d with
  | zero =>
    intro j hj
    refine Evn.succ (Evn.all fun k => ?_)
    simp only [spec_SessionsValid.l0]
    rw [if_neg (by omega), List.drop_of_length_le (by omega)]
    rfl
  | succ d ih =>
    intro j hj
    have hlt : j < l.length := by omega
    refine Evn.succ (Evn.mp (ih (j + 1) (by omega)) (Evn.all fun k e => ?_))
    rw [ses_drop hlt, ses_prev] at *
    simp only [spec_SessionsValid.l0, l1In, Option.bind_some]
    rw [if_pos (by omega), if_pos (by omega), w64 (x := (j : Int) + 1) (by omega) (by omega), show ((j : Int) + 1) = ((j + 1 : Nat) : Int) by omega, e]
    simp only [sesG]
    unfold okS
    by_cases h0 : 0 ≤ (rd_T35 l (j : Int)).f0 ∧ (rd_T35 l (j : Int)).f0 ≤ 3
    · rw [if_pos (by simpa using h0), decide_eq_true h0]
      by_cases h1 : 1 ≤ (rd_T35 l (j : Int)).f1 ∧ (rd_T35 l (j : Int)).f1 ≤ 999
      · rw [if_pos (by simpa using h1), decide_eq_true h1]
        by_cases h2 : -2 ≤ (rd_T35 l (j : Int)).f2 ∧ (rd_T35 l (j : Int)).f2 ≤ 999
        · rw [if_pos (by simpa using h2), decide_eq_true h2]
          by_cases hj0 : j = 0
          · rw [if_neg (by omega)]
            simp [sesP, hj0, above]
          · obtain ⟨i, rfl⟩ : ∃ i, j = i + 1 := ⟨j - 1, by omega⟩
            rw [if_pos (by omega), w64 (by omega) (by omega), if_pos (by omega), if_pos (by omega), ses_prev, show ((i + 1 : Nat) : Int) - 1 = (i : Int) by omega]
            simp only [above, Bool.true_and]
            by_cases hc : (rd_T35 l ((i + 1 : Nat) : Int)).f0 ≤ (rd_T35 l (i : Int)).f0
            · rw [if_pos hc, decide_eq_false (by omega)]
              rfl
            · rw [if_neg hc, decide_eq_true (by omega)]
              rfl
        · rw [if_neg (by simpa using h2), decide_eq_false h2]
          rfl
      · rw [if_neg (by simpa using h1), decide_eq_false h1]
        rfl
    · rw [if_neg (by simpa using h0), decide_eq_false h0]
      rfl
theorem specSes (l : List S35) (hn : l.length ≤ 1099511627776) : Evn fun k => spec_SessionsValid.f k l = some (sesB l) :=
  Evn.mp (specSes_loop l hn l.length 0 (by omega)) (Evn.all fun k e => by
    unfold spec_SessionsValid.f sesB
    exact e)
theorem sesG_len (l : List S35) : ∀ q : Int, sesG (some q) l = true → (l.length : Int) + q ≤ 3 ∨ l = [] := by
  induction l with
  | nil => intro q _; exact .inr rfl
  | cons s r ih =>
    intro q h
    simp only [sesG, Bool.and_eq_true] at h
    obtain ⟨h1, h2, h3⟩ := h
    unfold okS at h1
    rw [Bool.and_eq_true, decide_eq_true_eq] at h1
    have hq : q < s.f0 := by simpa [above] using h2
    left
    simp only [List.length_cons]
    rcases ih s.f0 h3 with hr | rfl
    · omega
    · simp only [List.length_nil]
      omega
theorem sesB_len {l : List S35} (h : sesB l = true) : l.length ≤ 4 := by
  cases l with
  | nil => simp
  | cons s r =>
    unfold sesB at h
    simp only [sesG, Bool.and_eq_true] at h
    obtain ⟨h1, _, h3⟩ := h
    unfold okS at h1
    rw [Bool.and_eq_true, decide_eq_true_eq] at h1
    simp only [List.length_cons]
    rcases sesG_len r s.f0 h3 with hr | rfl
    · omega
    · simp
theorem specFind_loop (l : List S35) (hn : l.length ≤ 1099511627776) (c : Int) (d : Nat) : ∀ j : Nat, j + d = l.length →
    Evn fun k => spec_l9Find.l0 k l c (j : Int) = some ((findS (l.drop j) c).f0, (findS (l.drop j) c).f1, (findS (l.drop j) c).f2) := by
  induction d with
  | zero =>
    intro j hj
    refine Evn.succ (Evn.all fun k => ?_)
    simp only [spec_l9Find.l0]
    rw [if_neg (by omega), List.drop_of_length_le (by omega)]
    rfl
  | succ d ih =>
    intro j hj
    have hlt : j < l.length := by omega
    refine Evn.succ (Evn.mp (ih (j + 1) (by omega)) (Evn.all fun k e => ?_))
    simp only [spec_l9Find.l0]
    rw [if_pos (by omega), if_pos (by omega), ses_drop hlt]
    simp only [findS]
    by_cases h : (rd_T35 l (j : Int)).f0 = c
    · rw [if_pos h, if_pos h]
    · rw [if_neg h, if_neg h, w64 (by omega) (by omega)]
      exact e
theorem specSeq (l : List S35) (hn : l.length ≤ 1099511627776) (c : Int) : Evn fun k => spec_SessionSeq.f k l c = some (seqB l c) := by
  refine Evn.mp (specSes l hn) (Evn.mp (specFind_loop l hn c l.length 0 (by omega)) (Evn.all fun k e2 e1 => ?_))
  unfold spec_SessionSeq.f seqB spec_l9Find.f
  rw [e1]
  simp only [Option.bind_some]
  cases sesB l with
  | false => simp
  | true =>
    rw [if_pos rfl]
    by_cases h : 0 ≤ c ∧ c ≤ 3
    · rw [if_pos h, if_pos ⟨rfl, h⟩]
      refine (congrArg (fun o => Option.bind o _) e2).trans rfl
    · rw [if_neg h, if_neg (fun q => h q.2)]
theorem specPut_loop (l : List S35) (hn : l.length ≤ 1000000) (s : S35) (d : Nat) : ∀ (j : Nat) (acc : List S35) (b : Bool), j + d = l.length → acc.length ≤ 2 * j →
    Evn fun k => spec_SessionPut.l0 k l acc b (j : Int) s.f0 s.f1 s.f2 = some (acc ++ putL (l.drop j) s b, true) := by
  induction d with
  | zero =>
    intro j acc b hj ha
    refine Evn.succ (Evn.all fun k => ?_)
    simp only [spec_SessionPut.l0]
    rw [if_neg (by omega), List.drop_of_length_le (by omega)]
    cases b with
    | true => simp [putL]
    | false => rw [if_neg (by simp), if_pos (by omega)]; simp [putL]
  | succ d ih =>
    intro j acc b hj ha
    have hlt : j < l.length := by omega
    rw [ses_drop hlt]
    obtain ⟨x, hx⟩ : ∃ x, rd_T35 l (j : Int) = x := ⟨_, rfl⟩
    rw [hx]
    have rest : ∀ (acc : List S35) (b : Bool), acc.length ≤ 2 * j + 1 → Evn fun k =>
        (if 0 ≤ (j : Int) then (if (j : Int) < (l.length : Int) then (if x.f0 = s.f0 then (spec_SessionPut.l0 k l acc b (wrap64 ((j : Int) + 1)) s.f0 s.f1 s.f2) else (if acc.length < 5864062014805 then (spec_SessionPut.l0 k l (acc ++ [(⟨x.f0, x.f1, x.f2⟩ : S35)]) b (wrap64 ((j : Int) + 1)) s.f0 s.f1 s.f2) else (none))) else (none)) else (none))
        = some (acc ++ ((if x.f0 = s.f0 then [] else [x]) ++ putL (l.drop (j + 1)) s b), true) := by
      intro acc b ha
      by_cases h : x.f0 = s.f0
      · refine Evn.mp (ih (j + 1) acc b (by omega) (by omega)) (Evn.all fun k e => ?_)
        rw [if_pos (by omega), if_pos (by omega), if_pos h, if_pos h, w64 (by omega) (by omega)]
        exact e
      · refine Evn.mp (ih (j + 1) (acc ++ [x]) b (by omega) (by rw [List.length_append]; simp only [List.length_cons, List.length_nil]; omega)) (Evn.all fun k e => ?_)
        rw [if_pos (by omega), if_pos (by omega), if_neg h, if_neg h, if_pos (by omega), w64 (by omega) (by omega)]
        refine Eq.trans e ?_
        simp
    by_cases hc : b = false ∧ s.f0 ≤ x.f0
    · obtain ⟨rfl, hle⟩ := hc
      refine Evn.succ (Evn.succ (Evn.mp (rest (acc ++ [s]) true (by rw [List.length_append]; simp only [List.length_cons, List.length_nil]; omega)) (Evn.all fun k e => ?_)))
      simp only [spec_SessionPut.l0]
      rw [if_pos (by omega), if_neg (by simp), if_pos (by omega), hx, decide_eq_true (show x.f0 ≥ s.f0 from hle)]
      simp only [spec_SessionPut.j2, if_true, hx]
      rw [if_pos (by omega)]
      simp only [Option.bind_some]
      refine Eq.trans e ?_
      have hp : putL (x :: l.drop (j + 1)) s false = s :: ((if x.f0 = s.f0 then [] else [x]) ++ putL (l.drop (j + 1)) s true) := by
        rw [putL]
        exact if_pos ⟨rfl, hle⟩
      rw [hp]
      simp
    · refine Evn.succ (Evn.succ (Evn.mp (rest acc b (by omega)) (Evn.all fun k e => ?_)))
      have e2 : spec_SessionPut.j2 (k + 1) l acc b (j : Int) false s.f0 s.f1 s.f2 = some (acc ++ putL (x :: l.drop (j + 1)) s b, true) := by
        simp only [spec_SessionPut.j2, hx]
        rw [if_neg (by simp)]
        refine Eq.trans e ?_
        rw [putL, if_neg hc]
      simp only [spec_SessionPut.l0]
      rw [if_pos (by omega)]
      cases b with
      | true => rw [if_pos rfl]; exact e2
      | false =>
        rw [if_neg (by simp), if_pos (by omega), hx, decide_eq_false (fun h => hc ⟨rfl, h⟩)]
        exact e2
theorem specPut (l : List S35) (hn : l.length ≤ 1099511627776) (s : S35) : Evn fun k => spec_SessionPut.f k l s.f0 s.f1 s.f2 = some (putB l s) := by
  obtain ⟨K1, h1⟩ := specSes l (by omega)
  obtain ⟨K2, h2⟩ := specSes [s] (by simp)
  obtain ⟨K3, h3⟩ := specSeq l (by omega) s.f0
  obtain ⟨K4, h4⟩ : Evn fun k => sesB l = true → spec_SessionPut.l0 k l [] false ((0 : Nat) : Int) s.f0 s.f1 s.f2 = some ([] ++ putL (l.drop 0) s false, true) := by
    by_cases hv : sesB l = true
    · have := sesB_len hv
      exact Evn.mp (specPut_loop l (by omega) s l.length 0 [] false (by omega) (by simp)) (Evn.all fun k e _ => e)
    · exact Evn.all fun k h => absurd h hv
  refine ⟨K1 + K2 + K3 + K4 + 1, fun k hk => ?_⟩
  obtain ⟨m, rfl⟩ : ∃ m, k = m + 1 := ⟨k - 1, by omega⟩
  have g1 := h1 (m + 1) (by omega)
  have g2 := h2 (m + 1) (by omega)
  have g3 := h3 m (by omega)
  have g4 := h4 m (by omega)
  have ht : ∀ k, spec_SessionPut.j0 (k + 1) l [] true s.f0 s.f1 s.f2 = some ([], false) := fun k => by simp [spec_SessionPut.j0]
  unfold spec_SessionPut.f putB
  simp only [Option.bind_some]
  rw [g1]
  simp only [Option.bind_some]
  cases hv : sesB l with
  | false => rw [if_neg (by simp), ht, if_neg (by simp)]
  | true =>
    rw [if_pos rfl]
    have : sesB [(⟨s.f0, s.f1, s.f2⟩ : S35)] = sesB [s] := rfl
    refine (congrArg (fun o => Option.bind o _) (show spec_SessionsValid.f (m + 1) [(⟨s.f0, s.f1, s.f2⟩ : S35)] = some (sesB [s]) from g2)).trans ?_
    simp only [Option.bind_some]
    cases sesB [s] with
    | false => rw [if_neg (by simp)]; exact ht m
    | true =>
      rw [if_pos ⟨trivial, rfl⟩]
      simp only [Bool.not_true, spec_SessionPut.j0]
      rw [if_neg (by simp), g3]
      simp only [Option.bind_some]
      by_cases hq : s.f1 ≤ seqB l s.f0
      · rw [if_pos (show seqB l s.f0 ≥ s.f1 from hq), if_pos (by simp only [List.length_nil]; omega), if_pos hq]
        rfl
      · rw [if_neg (show ¬ seqB l s.f0 ≥ s.f1 from hq), if_neg hq]
        exact g4 hv
theorem implSeqS (x : Int) : impl_seqValid.f x = some (decide (1 ≤ x ∧ x ≤ 999)) := by
  unfold impl_seqValid.f
  by_cases h : x ≥ 1
  · rw [if_pos h]
    exact congrArg some (decide_eq_decide.mpr (by omega))
  · rw [if_neg h, decide_eq_false (by omega)]
theorem implSes_loop (l : List S35) (hn : l.length ≤ 1099511627776) (d : Nat) : ∀ j : Nat, j + d = l.length → Evn fun k => impl_SessionsValid.l0 k l l (l.length : Int) (j : Int) = some (sesG (sesP l j) (l.drop j)) := by
  induction d with
  | zero =>
    intro j hj
    refine Evn.succ (Evn.all fun k => ?_)
    simp only [impl_SessionsValid.l0]
    rw [if_neg (by omega), List.drop_of_length_le (by omega)]
    rfl
  | succ d ih =>
    intro j hj
    have hlt : j < l.length := by omega
    refine Evn.succ (Evn.succ (Evn.mp (ih (j + 1) (by omega)) (Evn.all fun k e => ?_)))
    rw [ses_drop hlt, ses_prev] at *
    have rest : ∀ b, impl_SessionsValid.j1 (k + 1) l (j : Int) l (l.length : Int) (j : Int) b (rd_T35 l (j : Int)).f0 (rd_T35 l (j : Int)).f1 (rd_T35 l (j : Int)).f2
        = some (!b && (above (sesP l j) (rd_T35 l (j : Int)).f0 && sesG (some (rd_T35 l (j : Int)).f0) (l.drop (j + 1)))) := by
      intro b
      simp only [impl_SessionsValid.j1]
      cases b with
      | true => rfl
      | false =>
        rw [if_neg (by simp), w64 (x := (j : Int) + 1) (by omega) (by omega), show ((j : Int) + 1) = ((j + 1 : Nat) : Int) by omega, e]
        by_cases hj0 : j = 0
        · rw [if_neg (by omega)]
          simp [sesP, hj0, above]
        · obtain ⟨i, rfl⟩ : ∃ i, j = i + 1 := ⟨j - 1, by omega⟩
          rw [if_pos (by omega), w64 (by omega) (by omega), if_pos (by omega), if_pos (by omega), ses_prev, show ((i + 1 : Nat) : Int) - 1 = (i : Int) by omega]
          simp only [above]
          by_cases hc : (rd_T35 l (i : Int)).f0 ≥ (rd_T35 l ((i + 1 : Nat) : Int)).f0
          · rw [if_pos hc, decide_eq_false (by omega)]
            rfl
          · rw [if_neg hc, decide_eq_true (by omega)]
            rfl
    simp only [impl_SessionsValid.l0, implSeqS, Option.bind_some, rest]
    rw [if_pos (by omega), if_pos (by omega), if_pos (by omega)]
    simp only [sesG]
    unfold okS
    by_cases h0 : (rd_T35 l (j : Int)).f0 < 0
    · rw [if_pos h0, decide_eq_false (show ¬ (0 ≤ (rd_T35 l (j : Int)).f0 ∧ (rd_T35 l (j : Int)).f0 ≤ 3) by omega)]
      rfl
    · rw [if_neg h0]
      by_cases h4 : (rd_T35 l (j : Int)).f0 ≥ 4
      · rw [if_pos h4, decide_eq_false (show ¬ (0 ≤ (rd_T35 l (j : Int)).f0 ∧ (rd_T35 l (j : Int)).f0 ≤ 3) by omega)]
        rfl
      · rw [if_neg h4, decide_eq_true (show (0 ≤ (rd_T35 l (j : Int)).f0 ∧ (rd_T35 l (j : Int)).f0 ≤ 3) by omega)]
        by_cases h1 : 1 ≤ (rd_T35 l (j : Int)).f1 ∧ (rd_T35 l (j : Int)).f1 ≤ 999
        · rw [decide_eq_true h1, if_pos rfl]
          by_cases h2 : (rd_T35 l (j : Int)).f2 < -2
          · rw [if_pos h2, decide_eq_false (show ¬ (-2 ≤ (rd_T35 l (j : Int)).f2 ∧ (rd_T35 l (j : Int)).f2 ≤ 999) by omega)]
            rfl
          · rw [if_neg h2]
            by_cases h3 : (rd_T35 l (j : Int)).f2 > 999
            · rw [decide_eq_true h3, decide_eq_false (show ¬ (-2 ≤ (rd_T35 l (j : Int)).f2 ∧ (rd_T35 l (j : Int)).f2 ≤ 999) by omega)]
              rfl
            · rw [decide_eq_false h3, decide_eq_true (show (-2 ≤ (rd_T35 l (j : Int)).f2 ∧ (rd_T35 l (j : Int)).f2 ≤ 999) by omega)]
              simp
        · rw [decide_eq_false h1, if_neg (by simp)]
          rfl
theorem implSes (l : List S35) (hn : l.length ≤ 1099511627776) : Evn fun k => impl_SessionsValid.f k l = some (sesB l) :=
  Evn.mp (implSes_loop l hn l.length 0 (by omega)) (Evn.all fun k e => by
    unfold impl_SessionsValid.f sesB
    exact e)
theorem sesG_all (l : List S35) : ∀ q : Int, sesG (some q) l = true → ∀ x ∈ l, q < x.f0 := by
  induction l with
  | nil => intro q _ x hx; cases hx
  | cons s r ih =>
    intro q h x hx
    simp only [sesG, Bool.and_eq_true] at h
    have h1 : q < s.f0 := by simpa [above] using h.2.1
    rcases List.mem_cons.mp hx with rfl | hx
    · exact h1
    · exact Int.lt_trans h1 (ih s.f0 h.2.2 x hx)
theorem sesG_order (l : List S35) : ∀ p : Option Int, sesG p l = true → l.Pairwise (fun a b => a.f0 < b.f0) := by
  induction l with
  | nil => intro p _; exact List.Pairwise.nil
  | cons s r ih =>
    intro p h
    simp only [sesG, Bool.and_eq_true] at h
    exact List.Pairwise.cons (sesG_all r s.f0 h.2.2) (ih _ h.2.2)
theorem find_none (c : Int) : ∀ l : List S35, (∀ x ∈ l, x.f0 ≠ c) → findS l c = z35
  | [], _ => rfl
  | s :: r, h => by
    rw [findS, if_neg (h s (by simp))]
    exact find_none c r fun x hx => h x (List.mem_cons_of_mem _ hx)
theorem find_at (c : Int) : ∀ (l : List S35) (R : Nat) (hR : R < l.length), (∀ i (hi : i < R), (l[i]'(by omega)).f0 ≠ c) → l[R].f0 = c → findS l c = l[R]
  | s :: r, 0, _, _, h => by
    have h' : s.f0 = c := h
    rw [findS, if_pos h']
    rfl
  | s :: r, R + 1, hR, hb, h => by
    have h0 := hb 0 (by omega)
    simp only [List.getElem_cons_zero] at h0
    rw [findS, if_neg h0]
    have := find_at c r R (by simpa using hR) (fun i hi => by have := hb (i + 1) (by omega); simpa using this) (by simpa using h)
    simpa using this
theorem placeOf_spec {l : List S35} (ho : l.Pairwise (fun a b => a.f0 < b.f0)) (c : Int) : ∀ (d lo hi : Nat), lo ≤ hi → hi ≤ l.length → hi - lo ≤ d →
    (∀ i (h : i < l.length), i < lo → l[i].f0 < c) → (∀ i (h : i < l.length), hi ≤ i → c ≤ l[i].f0) →
    placeOf l c d lo hi ≤ l.length ∧ (∀ i (h : i < l.length), i < placeOf l c d lo hi → l[i].f0 < c) ∧ (∀ i (h : i < l.length), placeOf l c d lo hi ≤ i → c ≤ l[i].f0)
  | 0, lo, hi, h1, h2, h3, h4, h5 => by
    obtain rfl : lo = hi := by omega
    exact ⟨h2, h4, h5⟩
  | d + 1, lo, hi, h1, h2, h3, h4, h5 => by
    rw [placeOf]
    by_cases hlt : lo < hi
    · rw [if_pos hlt]
      have hm : (lo + hi) / 2 < l.length := by omega
      rw [ses_nat hm]
      have hord : ∀ i j (hi : i < l.length) (hj : j < l.length), i < j → l[i].f0 < l[j].f0 := fun i j hi hj hij => List.pairwise_iff_getElem.mp ho i j hi hj hij
      by_cases hc : (l[(lo + hi) / 2]'hm).f0 < c
      · rw [if_pos hc]
        refine placeOf_spec ho c d _ _ (by omega) h2 (by omega) (fun i hil hlo => ?_) h5
        rcases Nat.lt_or_eq_of_le (show i ≤ (lo + hi) / 2 by omega) with h | h
        · exact Int.lt_trans (hord i _ hil hm h) hc
        · subst h; exact hc
      · rw [if_neg hc]
        refine placeOf_spec ho c d _ _ (by omega) (by omega) (by omega) h4 (fun i hil hlo => ?_)
        rcases Nat.lt_or_eq_of_le (show (lo + hi) / 2 ≤ i by omega) with h | h
        · have := hord _ i hm hil h
          omega
        · subst h; omega
    · rw [if_neg hlt]
      obtain rfl : lo = hi := by omega
      exact ⟨h2, h4, h5⟩
theorem placeOf_find {l : List S35} (h : sesB l = true) (c : Int) : (if hitOf l c = true then (rd_T35 l ((placeOf l c l.length 0 l.length : Nat) : Int)).f1 else 0) = (findS l c).f1 := by
  obtain ⟨h1, h2, h3⟩ := placeOf_spec (sesG_order l none h) c l.length 0 l.length (Nat.zero_le _) (Nat.le_refl _) (by omega) (fun i _ hi => absurd hi (Nat.not_lt_zero _)) (fun i hil hi => by omega)
  unfold hitOf
  generalize placeOf l c l.length 0 l.length = R at h1 h2 h3 ⊢
  by_cases hR : R < l.length
  · rw [decide_eq_true hR, ses_nat hR]
    by_cases hc : l[R].f0 = c
    · rw [decide_eq_true hc, find_at c l R hR (fun i hi => by have := h2 i (by omega) hi; omega) hc]
      rfl
    · rw [decide_eq_false hc, find_none c l fun x hx => ?_]
      · rfl
      · obtain ⟨i, hi, rfl⟩ := List.getElem_of_mem hx
        by_cases hlt : i < R
        · have := h2 i hi hlt; omega
        · have a := h3 R hR (Nat.le_refl _)
          rcases Nat.lt_or_eq_of_le (show R ≤ i by omega) with h' | h'
          · have := List.pairwise_iff_getElem.mp (sesG_order l none h) R i hR hi h'
            omega
          · subst h'; exact hc
  · rw [decide_eq_false hR, find_none c l fun x hx => ?_]
    · rfl
    · obtain ⟨i, hi, rfl⟩ := List.getElem_of_mem hx
      have := h2 i hi (by omega)
      omega
theorem putL_keep (s : S35) : ∀ l : List S35, (∀ x ∈ l, s.f0 < x.f0) → putL l s true = l
  | [], _ => rfl
  | x :: r, h => by
    have h0 := h x (by simp)
    rw [putL, if_neg (by simp), if_neg (by omega), putL_keep s r fun y hy => h y (List.mem_cons_of_mem _ hy)]
    rfl
theorem putL_place (s : S35) : ∀ (l : List S35) (R : Nat), l.Pairwise (fun a b => a.f0 < b.f0) → R ≤ l.length → (∀ i (h : i < l.length), i < R → l[i].f0 < s.f0) → (∀ i (h : i < l.length), R ≤ i → s.f0 ≤ l[i].f0) →
    putL l s false = (l.take R ++ [s]) ++ l.drop (R + (if ∃ h : R < l.length, l[R].f0 = s.f0 then 1 else 0))
  | [], R, _, hR, _, _ => by
    obtain rfl : R = 0 := by simpa using hR
    rw [if_neg (by rintro ⟨h, _⟩; exact absurd h (Nat.not_lt_zero _))]
    rfl
  | x :: r, 0, ho, _, _, h2 => by
    have hx := h2 0 (by simp) (Nat.zero_le _)
    simp only [List.getElem_cons_zero] at hx
    have hr := (List.pairwise_cons.mp ho).1
    have hk : putL r s true = r := putL_keep s r fun y hy => by have := hr y hy; omega
    have hp : putL (x :: r) s false = s :: ((if x.f0 = s.f0 then [] else [x]) ++ putL r s true) := by
      rw [putL]
      exact if_pos ⟨rfl, hx⟩
    rw [hp, hk]
    by_cases hc : x.f0 = s.f0
    · rw [if_pos hc, if_pos ⟨by simp, by simpa using hc⟩]
      rfl
    · rw [if_neg hc, if_neg (by rintro ⟨_, h⟩; exact hc (by simpa using h))]
      rfl
  | x :: r, R + 1, ho, hR, h1, h2 => by
    have hx := h1 0 (by simp) (by omega)
    simp only [List.getElem_cons_zero] at hx
    have hp : putL (x :: r) s false = (if x.f0 = s.f0 then [] else [x]) ++ putL r s false := by
      rw [putL]
      exact if_neg (by omega)
    have ih := putL_place s r R (List.pairwise_cons.mp ho).2 (by simpa using hR) (fun i hi hr => by have := h1 (i + 1) (by simpa using hi) (by omega); simpa using this) (fun i hi hr => by have := h2 (i + 1) (by simpa using hi) (by omega); simpa using this)
    rw [hp, ih, if_neg (by omega)]
    have he : (∃ h : R + 1 < (x :: r).length, (x :: r)[R + 1].f0 = s.f0) ↔ ∃ h : R < r.length, r[R].f0 = s.f0 := by simp
    by_cases hc : ∃ h : R < r.length, r[R].f0 = s.f0
    · rw [if_pos hc, if_pos (he.mpr hc)]
      rfl
    · rw [if_neg hc, if_neg (fun h => hc (he.mp h))]
      rfl
theorem sesOne (s : S35) : sesB [s] = okS s := by
  unfold sesB
  simp [sesG, above]
theorem implPut (l : List S35) (hn : l.length ≤ 1099511627776) (s : S35) : Evn fun k => impl_SessionPut.f k l s.f0 s.f1 s.f2 = some (putB l s) := by
  refine Evn.mp (implSes l hn) (Evn.mp (implSes [s] (by simp)) (Evn.all fun k e2 e1 => ?_))
  unfold impl_SessionPut.f putB
  rw [e1]
  simp only [Option.bind_some]
  by_cases hv : sesB l = true
  · rw [if_neg (by simp [hv])]
    refine (congrArg (fun o => Option.bind o _) (show impl_SessionsValid.f k [(⟨s.f0, s.f1, s.f2⟩ : S35)] = some (sesB [s]) from e2)).trans ?_
    simp only [Option.bind_some]
    by_cases hs : sesB [s] = true
    · rw [if_neg (show ¬ sesB [s] = false by simp [hs]), if_pos (by have := sesB_len hv; omega), if_pos (show sesB l = true ∧ sesB [s] = true from ⟨hv, hs⟩)]
      have ho := sesG_order l none hv
      obtain ⟨p1, p2, p3⟩ := placeOf_spec ho s.f0 l.length 0 l.length (Nat.zero_le _) (Nat.le_refl _) (by omega) (fun i _ hi => absurd hi (Nat.not_lt_zero _)) (fun i hil hi => by omega)
      have hf := placeOf_find hv s.f0
      have hpl := putL_place s l (plOf l s.f0) ho p1 p2 p3
      have hs3 : 0 ≤ s.f0 ∧ s.f0 ≤ 3 ∧ 1 ≤ s.f1 := by
        rw [sesOne] at hs
        unfold okS at hs
        simp only [Bool.and_eq_true, decide_eq_true_eq] at hs
        omega
      have hq : seqB l s.f0 = (findS l s.f0).f1 := by
        unfold seqB
        rw [if_pos ⟨hv, hs3.1, hs3.2.1⟩]
      have hh : hitOf l s.f0 = true ↔ ∃ h : plOf l s.f0 < l.length, l[plOf l s.f0].f0 = s.f0 := by
        unfold hitOf plOf
        rw [Bool.and_eq_true, decide_eq_true_eq, decide_eq_true_eq]
        constructor
        · rintro ⟨a, b⟩
          rw [ses_nat a] at b
          exact ⟨a, b⟩
        · rintro ⟨a, b⟩
          exact ⟨a, by rw [ses_nat a]; exact b⟩
      by_cases hit : hitOf l s.f0 = true
      · rw [if_neg (show ¬ hitOf l s.f0 = false by simp [hit])]
        rw [if_pos hit] at hf
        rw [if_pos (hh.mp hit)] at hpl
        by_cases hle : s.f1 ≤ seqB l s.f0
        · rw [if_pos (show (rd_T35 l ((plOf l s.f0 : Nat) : Int)).f1 ≥ s.f1 by rw [show (rd_T35 l ((plOf l s.f0 : Nat) : Int)).f1 = (findS l s.f0).f1 from hf, ← hq]; exact hle), if_pos hle]
        · rw [if_neg (show ¬ (rd_T35 l ((plOf l s.f0 : Nat) : Int)).f1 ≥ s.f1 by rw [show (rd_T35 l ((plOf l s.f0 : Nat) : Int)).f1 = (findS l s.f0).f1 from hf, ← hq]; exact hle), if_neg hle, hpl]
      · rw [if_pos (Bool.eq_false_iff.mpr hit)]
        rw [if_neg hit] at hf
        rw [if_neg (fun h => hit (hh.mpr h))] at hpl
        rw [if_neg (by rw [hq, ← hf]; omega), hpl]
    · rw [if_pos (Bool.eq_false_iff.mpr hs), if_neg (fun h => hs h.2)]
  · rw [if_pos (Bool.eq_false_iff.mpr hv), if_neg (fun h => hv h.1)]
def sesOf (x : S32) : S35 := ⟨x.f0, x.f1, x.f2⟩
theorem lses_nat {l : List S32} {j : Nat} (h : j < l.length) : rd_T32 l (j : Int) = l[j] := by
  simp [rd_T32, List.getD_eq_getElem?_getD, List.getElem?_eq_getElem h]
theorem toSes_loop (xs : List S32) (hn : xs.length ≤ 1048576) (d : Nat) : ∀ (j : Nat) (ys : List S35), j + d = xs.length → ys.length = xs.length → ys.take j = (xs.map sesOf).take j →
    Evn fun k => laws_toSessionS.l0 k xs ys (j : Int) = some (xs.map sesOf) := by
  induction d with
  | zero =>
    intro j ys hj hl ht
    refine Evn.succ (Evn.all fun k => ?_)
    simp only [laws_toSessionS.l0]
    rw [if_neg (by omega)]
    rw [List.take_of_length_le (by omega), List.take_of_length_le (by rw [List.length_map]; omega)] at ht
    rw [ht]
  | succ d ih =>
    intro j ys hj hl ht
    have hlt : j < xs.length := by omega
    refine Evn.succ (Evn.mp (ih (j + 1) (ys.set j (sesOf (rd_T32 xs (j : Int)))) (by omega) (by simpa using hl) ?_) (Evn.all fun k e => ?_))
    · rw [lses_nat hlt, List.take_succ_eq_append_getElem (by simp; omega), List.take_succ_eq_append_getElem (by simp; omega), ← ht]
      simp [List.take_set_of_le]
    · simp only [laws_toSessionS.l0, laws_toSession.f, Option.bind_some]
      rw [if_pos (by omega), if_pos (by omega), if_pos (by omega), w64 (by omega) (by omega)]
      exact e
theorem toSes (xs : List S32) (hn : xs.length ≤ 1048576) : Evn fun k => laws_toSessionS.f k xs = some (xs.map sesOf) := by
  refine Evn.mp (toSes_loop xs hn xs.length 0 (List.replicate xs.length z35) (by omega) (by simp) (by simp)) (Evn.all fun k e => ?_)
  unfold laws_toSessionS.f
  rw [if_pos (by omega), if_pos (by omega)]
  exact e
theorem eqSes_loop (xs : List S35) (hn : xs.length ≤ 1099511627776) (d : Nat) : ∀ (j : Nat), j + d = xs.length → Evn fun k => laws_eqSessionS.l0 k xs xs (j : Int) = some true := by
  induction d with
  | zero =>
    intro j hj
    refine Evn.succ (Evn.all fun k => ?_)
    simp only [laws_eqSessionS.l0]
    rw [if_neg (by omega)]
  | succ d ih =>
    intro j hj
    refine Evn.succ (Evn.mp (ih (j + 1) (by omega)) (Evn.all fun k e => ?_))
    simp only [laws_eqSessionS.l0, laws_eqSession.f, if_true, Option.bind_some]
    rw [if_pos (by omega), if_pos (by omega), if_pos (by omega), w64 (by omega) (by omega)]
    exact e
theorem eqSes_self (xs : List S35) (hn : xs.length ≤ 1099511627776) : Evn fun k => laws_eqSessionS.f k xs xs = some true :=
  Evn.mp (eqSes_loop xs hn xs.length 0 (by omega)) (Evn.all fun k e => by
    unfold laws_eqSessionS.f
    rw [if_pos rfl]
    exact e)
theorem szSes (l : List S32) (hl : l.length ≤ 9223372036854775807) (left : Int) (h0 : 0 ≤ left) (h1 : left ≤ 1048576) :
    laws_szSessionS.f l left = some (-1) ∨ (laws_szSessionS.f l left = some (left - (l.length : Int)) ∧ (l.length : Int) ≤ left) := by
  unfold laws_szSessionS.f
  rw [w64 (by omega) (by omega)]
  by_cases h : left - (l.length : Int) < 0
  · rw [if_pos h]
    exact .inl rfl
  · rw [if_neg h]
    exact .inr ⟨rfl, by omega⟩
def mkSes (k : Int) : S35 := ⟨k, k + 1, k + 2⟩
def sesTo (n : Nat) (q : Int) : List S35 := (List.range n).map fun (i : Nat) => mkSes (q + 3 * (i : Int))
theorem sesTo_length (n : Nat) (q : Int) : (sesTo n q).length = n := by simp [sesTo]
theorem rd_set {l : List S35} {j : Nat} (h : j < l.length) (x : S35) : rd_T35 (l.set j x) (j : Int) = x := by
  rw [ses_nat (by simpa using h)]
  simp
theorem markSes_loop (n : Nat) (hn : n ≤ 1048576) (q : Int) (h0 : 0 ≤ q) (h1 : q ≤ 1099511627776) (d : Nat) : ∀ (j : Nat) (xs : List S35), j + d = n → xs.length = n → xs.take j = (sesTo n q).take j →
    Evn fun k => laws_markSessionS.l0 k xs (q + 3 * (j : Int)) (j : Int) = some (q + 3 * (n : Int), sesTo n q) := by
  induction d with
  | zero =>
    intro j xs hj hl ht
    refine Evn.succ (Evn.all fun k => ?_)
    simp only [laws_markSessionS.l0]
    rw [if_neg (by omega)]
    rw [List.take_of_length_le (by omega), List.take_of_length_le (by rw [sesTo_length]; omega)] at ht
    rw [ht, show j = n by omega]
  | succ d ih =>
    intro j xs hj hl ht
    refine Evn.succ (Evn.mp (ih (j + 1) (xs.set j (mkSes (q + 3 * (j : Int)))) (by omega) (by simpa using hl) ?_) (Evn.all fun k e => ?_))
    · rw [List.take_succ_eq_append_getElem (by simp; omega), List.take_succ_eq_append_getElem (by rw [sesTo_length]; omega), ← ht]
      simp [List.take_set_of_le, sesTo]
    · simp only [laws_markSessionS.l0, Option.bind_some, Int.toNat_natCast]
      rw [if_pos (by omega), if_pos (by omega), w64 (x := q + 3 * (j : Int) + 1) (by omega) (by omega), w64 (x := q + 3 * (j : Int) + 1 + 1) (by omega) (by omega), w64 (x := q + 3 * (j : Int) + 1 + 1 + 1) (by omega) (by omega), w64 (x := (j : Int) + 1) (by omega) (by omega)]
      rw [rd_set (by omega), rd_set (by rw [List.length_set]; omega)]
      simp only [List.set_set]
      rw [show q + 3 * (j : Int) + 1 + 1 + 1 = q + 3 * ((j + 1 : Nat) : Int) by omega]
      refine Eq.trans ?_ e
      rw [show mkSes (q + 3 * (j : Int)) = (⟨q + 3 * (j : Int), q + 3 * (j : Int) + 1, q + 3 * (j : Int) + 1 + 1⟩ : S35) from by unfold mkSes; congr 1; omega]
      rfl
theorem markSes (xs : List S35) (hn : xs.length ≤ 1048576) (q : Int) (h0 : 0 ≤ q) (h1 : q ≤ 1099511627776) :
    Evn fun k => laws_markSessionS.f k xs q = some (q + 3 * (xs.length : Int), sesTo xs.length q) := by
  refine Evn.mp (markSes_loop xs.length hn q h0 h1 xs.length 0 xs (by omega) rfl (by simp)) (Evn.all fun k e => ?_)
  unfold laws_markSessionS.f
  simpa using e
theorem heldSes_loop (n : Nat) (hn : n ≤ 1048576) (q : Int) (h0 : 0 ≤ q) (h1 : q ≤ 1099511627776) (d : Nat) : ∀ (j : Nat), j + d = n →
    Evn fun k => laws_heldSessionS.l0 k (sesTo n q) (q + 3 * (j : Int)) (j : Int) = some (q + 3 * (n : Int)) := by
  induction d with
  | zero =>
    intro j hj
    refine Evn.succ (Evn.all fun k => ?_)
    simp only [laws_heldSessionS.l0]
    rw [if_neg (by rw [sesTo_length]; omega), show j = n by omega]
  | succ d ih =>
    intro j hj
    refine Evn.succ (Evn.mp (ih (j + 1) (by omega)) (Evn.all fun k e => ?_))
    have hx : rd_T35 (sesTo n q) (j : Int) = mkSes (q + 3 * (j : Int)) := by
      rw [ses_nat (by rw [sesTo_length]; omega)]
      simp [sesTo]
    simp only [laws_heldSessionS.l0]
    rw [if_pos (by rw [sesTo_length]; omega), if_pos (by omega), hx, w64 (x := q + 3 * (j : Int) + 1) (by omega) (by omega), w64 (x := q + 3 * (j : Int) + 1 + 1) (by omega) (by omega), w64 (x := q + 3 * (j : Int) + 1 + 1 + 1) (by omega) (by omega), w64 (x := (j : Int) + 1) (by omega) (by omega)]
    rw [if_pos (show (mkSes (q + 3 * (j : Int))).f0 = q + 3 * (j : Int) from rfl), if_pos (show (mkSes (q + 3 * (j : Int))).f1 = q + 3 * (j : Int) + 1 from rfl), if_pos (show (mkSes (q + 3 * (j : Int))).f2 = q + 3 * (j : Int) + 1 + 1 from show q + 3 * (j : Int) + 2 = q + 3 * (j : Int) + 1 + 1 by omega)]
    rw [show q + 3 * (j : Int) + 1 + 1 + 1 = q + 3 * ((j + 1 : Nat) : Int) by omega]
    exact e
theorem heldSes (n : Nat) (hn : n ≤ 1048576) (q : Int) (h0 : 0 ≤ q) (h1 : q ≤ 1099511627776) : Evn fun k => laws_heldSessionS.f k (sesTo n q) q = some (q + 3 * (n : Int)) := by
  refine Evn.mp (heldSes_loop n hn q h0 h1 n 0 (by omega)) (Evn.all fun k e => ?_)
  unfold laws_heldSessionS.f
  simpa using e
theorem putB_small (l : List S35) (s : S35) (hl : l.length ≤ 1048576) : (putB l s).1.length ≤ 1048576 := by
  by_cases hv : sesB l = true
  · have := sesB_len hv
    have := putB_length l s
    omega
  · unfold putB
    rw [if_neg (fun h => hv h.1)]
    simp
theorem judge_true (l : List S32) (hl : l.length ≤ 1048576) (a b c : Int) : Evn fun k => laws_FnExactSessionPut.judge k l a b c = some true := by
  have hm : (l.map sesOf).length = l.length := List.length_map _
  have hx := putB_small (l.map sesOf) ⟨a, b, c⟩ (by omega)
  refine Evn.mp (toSes l (by omega)) (Evn.mp (specPut (l.map sesOf) (by omega) ⟨a, b, c⟩) (Evn.mp (implPut (l.map sesOf) (by omega) ⟨a, b, c⟩) (Evn.mp (eqSes_self (putB (l.map sesOf) ⟨a, b, c⟩).1 (by omega)) (Evn.mp (eqSes_self (l.map sesOf) (by omega)) ?_))))
  refine Evn.mp (markSes (l.map sesOf) (by omega) 1 (by omega) (by omega)) (Evn.mp (markSes (putB (l.map sesOf) ⟨a, b, c⟩).1 (by omega) 1 (by omega) (by omega)) (Evn.mp (heldSes (putB (l.map sesOf) ⟨a, b, c⟩).1.length (by omega) 1 (by omega) (by omega)) (Evn.all fun k e8 e7 e6 e5 e4 e3 e2 e1 => ?_)))
  unfold laws_FnExactSessionPut.judge
  rw [e1]
  simp only [Option.bind_some, laws_toSession.f]
  rw [e2, e3]
  simp only [Option.bind_some]
  rw [e4, e5, e6, e7]
  simp only [Option.bind_some]
  rw [e8]
  simp only [Option.bind_some]
  rw [if_pos ⟨trivial, trivial, trivial, by omega, by omega, trivial⟩]
theorem FnExactSessionPut : FnExactSessionPut.Said := by
  intro l a b c hl _ _ _
  refine Evn.some ?_
  rcases szSes l (by have := hl.1; unfold maxLen at this; omega) 1048576 (by omega) (by omega) with h | ⟨h, hn⟩
  · refine Evn.all fun k => ?_
    unfold laws_FnExactSessionPut.f
    rw [h]
    rfl
  · refine Evn.mp (judge_true l (by omega) a b c) (Evn.all fun k e => ?_)
    unfold laws_FnExactSessionPut.f
    rw [h]
    simp only [Option.bind_some]
    rw [if_neg (by omega)]
    exact e
end Go.Proofs.Ytmljefpcjlelmaa.Pure
