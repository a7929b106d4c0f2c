/- Joined sessions are the later ones: every client has the greater number of both lists, every session is one of the two lists, the list is valid, and joining a list with itself changes nothing. No condition beyond the row's own. -/
import Derived.Test.YtmljefpcjlelmaaQFnSessionsJoinall
namespace Go.Proofs.Ytmljefpcjlelmaa.Pure
open Go.RowKit Go.Proofs.Ytmljefpcjlelmaa.PFnSessionsJoin Go.Proofs.YtmljefpcjlelmaaW.PrintWords Go.Proofs.YtmljefpcjlelmaaW.PrintLast
def FnSessionsJoin.Said : Prop := ∀ (l0 : (List Int)), (l0.length ≤ maxLen ∧ ∀ y ∈ l0, (Lit.int .u8 y).wf = true) → ∃ k, laws_FnSessionsJoin.f k l0 = some true
end Go.Proofs.Ytmljefpcjlelmaa.Pure
namespace Go.Proofs.Ytmljefpcjlelmaa.Pure
open Go.RowKit Go.Proofs.Ytmljefpcjlelmaa.PFnSessionsJoin Go.Proofs.YtmljefpcjlelmaaW.PrintWords Go.Proofs.YtmljefpcjlelmaaW.PrintLast
set_option linter.unusedVariables false
set_option linter.unusedSimpArgs false
def Evn (P : Nat → Prop) : Prop := ∃ K, ∀ k, K ≤ k → P k
theorem Evn.all {P : Nat → Prop} (h : ∀ k, P k) : Evn P := ⟨0, fun k _ => h k⟩
theorem Evn.mp {P Q : Nat → Prop} (hp : Evn P) (hq : Evn fun k => P k → Q k) : Evn Q := by
  obtain ⟨K1, h1⟩ := hp
  obtain ⟨K2, h2⟩ := hq
  exact ⟨max K1 K2, fun k hk => h2 k (by omega) (h1 k (by omega))⟩
theorem Evn.succ {P : Nat → Prop} (h : Evn fun k => P (k + 1)) : Evn P := by
  obtain ⟨K, h⟩ := h
  refine ⟨K + 1, fun k hk => ?_⟩
  obtain ⟨m, rfl⟩ : ∃ m, k = m + 1 := ⟨k - 1, by omega⟩
  exact h m (by omega)
theorem Evn.some {P : Nat → Prop} (h : Evn P) : ∃ k, P k := by
  obtain ⟨K, h⟩ := h
  exact ⟨K, h K (Nat.le_refl K)⟩
theorem w64 {x : Int} (h0 : -9223372036854775808 ≤ x) (h1 : x ≤ 9223372036854775807) : wrap64 x = x := by
  unfold wrap64
  omega
def okS (s : S35) : Bool := decide (0 ≤ s.f0 ∧ s.f0 ≤ 3) && (decide (1 ≤ s.f1 ∧ s.f1 ≤ 999) && decide (-2 ≤ s.f2 ∧ s.f2 ≤ 999))
def above (p : Option Int) (c : Int) : Bool := match p with
  | none => true
  | some q => decide (q < c)
def sesG : Option Int → List S35 → Bool
  | _, [] => true
  | p, s :: r => okS s && (above p s.f0 && sesG (some s.f0) r)
def sesB (l : List S35) : Bool := sesG none l
def sesP (l : List S35) (j : Nat) : Option Int := if j = 0 then none else some (l.getD (j - 1) z35).f0
theorem ses_nat {l : List S35} {j : Nat} (h : j < l.length) : rd_T35 l (j : Int) = l[j] := by
  simp [rd_T35, List.getD_eq_getElem?_getD, List.getElem?_eq_getElem h]
theorem ses_drop {l : List S35} {j : Nat} (h : j < l.length) : l.drop j = rd_T35 l (j : Int) :: l.drop (j + 1) := by
  rw [ses_nat h, List.drop_eq_getElem_cons h]
theorem ses_prev (l : List S35) (j : Nat) : sesP l (j + 1) = some (rd_T35 l (j : Int)).f0 := by
  unfold sesP rd_T35
  rw [if_neg (by omega), Int.toNat_natCast, Nat.add_sub_cancel]
def findS : List S35 → Int → S35
  | [], _ => z35
  | s :: r, c => if s.f0 = c then s else findS r c
def seqB (l : List S35) (c : Int) : Int := if sesB l = true ∧ 0 ≤ c ∧ c ≤ 3 then (findS l c).f1 else -1
def putL : List S35 → S35 → Bool → List S35
  | [], s, placed => if placed = true then [] else [s]
  | x :: r, s, placed =>
    if placed = false ∧ s.f0 ≤ x.f0 then s :: ((if x.f0 = s.f0 then [] else [x]) ++ putL r s true)
    else (if x.f0 = s.f0 then [] else [x]) ++ putL r s placed
def putB (l : List S35) (s : S35) : List S35 × Bool :=
  if sesB l = true ∧ sesB [s] = true then (if s.f1 ≤ seqB l s.f0 then (l, false) else (putL l s false, true)) else ([], false)
theorem putL_true (s : S35) (l : List S35) : (putL l s true).length ≤ l.length := by
  induction l with
  | nil => simp [putL]
  | cons y q ihq =>
    rw [putL, if_neg (by simp)]
    split <;> simp <;> omega
theorem putL_length (s : S35) (l : List S35) : ∀ b, (putL l s b).length ≤ l.length + 1 := by
  induction l with
  | nil => intro b; cases b <;> simp [putL]
  | cons x r ih =>
    intro b
    have h1 := putL_true s r
    have h2 := ih b
    rw [putL]
    split
    · split <;> simp <;> omega
    · split <;> simp <;> omega
theorem putB_length (l : List S35) (s : S35) : (putB l s).1.length ≤ l.length + 1 := by
  unfold putB
  split
  · split
    · simp
    · exact putL_length s l false
  · simp
theorem l1In (a b c : Int) : spec_l1In.f a b c = some (decide (b ≤ a ∧ a ≤ c)) := by
  unfold spec_l1In.f
  by_cases h : a ≥ b
  · rw [if_pos h]
    simp [h]
  · rw [if_neg h]
    simp [h]
theorem specSes_loop (l : List S35) (hn : l.length ≤ 1099511627776) (d : Nat) : ∀ j : Nat, j + d = l.length → Evn fun k => spec_SessionsValid.l0 k l (j : Int) = some (sesG (sesP l j) (l.drop j)) := by
  induction d with
  | zero =>
    intro j hj
    refine Evn.succ (Evn.all fun k => ?_)
    simp only [spec_SessionsValid.l0]
    rw [if_neg (by omega), List.drop_of_length_le (by omega)]
    rfl
  | succ d ih =>
    intro j hj
    have hlt : j < l.length := by omega
    refine Evn.succ (Evn.mp (ih (j + 1) (by omega)) (Evn.all fun k e => ?_))
    rw [ses_drop hlt, ses_prev] at *
    simp only [spec_SessionsValid.l0, l1In, Option.bind_some]
    rw [if_pos (by omega), if_pos (by omega), w64 (x := (j : Int) + 1) (by omega) (by omega), show ((j : Int) + 1) = ((j + 1 : Nat) : Int) by omega, e]
    simp only [sesG]
    unfold okS
    by_cases h0 : 0 ≤ (rd_T35 l (j : Int)).f0 ∧ (rd_T35 l (j : Int)).f0 ≤ 3
    · rw [if_pos (by simpa using h0), decide_eq_true h0]
      by_cases h1 : 1 ≤ (rd_T35 l (j : Int)).f1 ∧ (rd_T35 l (j : Int)).f1 ≤ 999
      · rw [if_pos (by simpa using h1), decide_eq_true h1]
        by_cases h2 : -2 ≤ (rd_T35 l (j : Int)).f2 ∧ (rd_T35 l (j : Int)).f2 ≤ 999
        · rw [if_pos (by simpa using h2), decide_eq_true h2]
          by_cases hj0 : j = 0
          · rw [if_neg (by omega)]
            simp [sesP, hj0, above]
          · obtain ⟨i, rfl⟩ : ∃ i, j = i + 1 := ⟨j - 1, by omega⟩
            rw [if_pos (by omega), w64 (by omega) (by omega), if_pos (by omega), if_pos (by omega), ses_prev, show ((i + 1 : Nat) : Int) - 1 = (i : Int) by omega]
            simp only [above, Bool.true_and]
            by_cases hc : (rd_T35 l ((i + 1 : Nat) : Int)).f0 ≤ (rd_T35 l (i : Int)).f0
            · rw [if_pos hc, decide_eq_false (by omega)]
              rfl
            · rw [if_neg hc, decide_eq_true (by omega)]
              rfl
        · rw [if_neg (by simpa using h2), decide_eq_false h2]
          rfl
      · rw [if_neg (by simpa using h1), decide_eq_false h1]
        rfl
    · rw [if_neg (by simpa using h0), decide_eq_false h0]
      rfl
theorem specSes (l : List S35) (hn : l.length ≤ 1099511627776) : Evn fun k => spec_SessionsValid.f k l = some (sesB l) :=
  Evn.mp (specSes_loop l hn l.length 0 (by omega)) (Evn.all fun k e => by
    unfold spec_SessionsValid.f sesB
    exact e)
theorem sesG_len (l : List S35) : ∀ q : Int, sesG (some q) l = true → (l.length : Int) + q ≤ 3 ∨ l = [] := by
  induction l with
  | nil => intro q _; exact .inr rfl
  | cons s r ih =>
    intro q h
    simp only [sesG, Bool.and_eq_true] at h
    obtain ⟨h1, h2, h3⟩ := h
    unfold okS at h1
    rw [Bool.and_eq_true, decide_eq_true_eq] at h1
    have hq : q < s.f0 := by simpa [above] using h2
    left
    simp only [List.length_cons]
    rcases ih s.f0 h3 with hr | rfl
    · omega
    · simp only [List.length_nil]
      omega
theorem sesB_len {l : List S35} (h : sesB l = true) : l.length ≤ 4 := by
  cases l with
  | nil => simp
  | cons s r =>
    unfold sesB at h
    simp only [sesG, Bool.and_eq_true] at h
    obtain ⟨h1, _, h3⟩ := h
    unfold okS at h1
    rw [Bool.and_eq_true, decide_eq_true_eq] at h1
    simp only [List.length_cons]
    rcases sesG_len r s.f0 h3 with hr | rfl
    · omega
    · simp
theorem specFind_loop (l : List S35) (hn : l.length ≤ 1099511627776) (c : Int) (d : Nat) : ∀ j : Nat, j + d = l.length →
    Evn fun k => spec_l9Find.l0 k l c (j : Int) = some ((findS (l.drop j) c).f0, (findS (l.drop j) c).f1, (findS (l.drop j) c).f2) := by
  induction d with
  | zero =>
    intro j hj
    refine Evn.succ (Evn.all fun k => ?_)
    simp only [spec_l9Find.l0]
    rw [if_neg (by omega), List.drop_of_length_le (by omega)]
    rfl
  | succ d ih =>
    intro j hj
    have hlt : j < l.length := by omega
    refine Evn.succ (Evn.mp (ih (j + 1) (by omega)) (Evn.all fun k e => ?_))
    simp only [spec_l9Find.l0]
    rw [if_pos (by omega), if_pos (by omega), ses_drop hlt]
    simp only [findS]
    by_cases h : (rd_T35 l (j : Int)).f0 = c
    · rw [if_pos h, if_pos h]
    · rw [if_neg h, if_neg h, w64 (by omega) (by omega)]
      exact e
theorem specSeq (l : List S35) (hn : l.length ≤ 1099511627776) (c : Int) : Evn fun k => spec_SessionSeq.f k l c = some (seqB l c) := by
  refine Evn.mp (specSes l hn) (Evn.mp (specFind_loop l hn c l.length 0 (by omega)) (Evn.all fun k e2 e1 => ?_))
  unfold spec_SessionSeq.f seqB spec_l9Find.f
  rw [e1]
  simp only [Option.bind_some]
  cases sesB l with
  | false => simp
  | true =>
    rw [if_pos rfl]
    by_cases h : 0 ≤ c ∧ c ≤ 3
    · rw [if_pos h, if_pos ⟨rfl, h⟩]
      refine (congrArg (fun o => Option.bind o _) e2).trans rfl
    · rw [if_neg h, if_neg (fun q => h q.2)]
theorem specPut_loop (l : List S35) (hn : l.length ≤ 1000000) (s : S35) (d : Nat) : ∀ (j : Nat) (acc : List S35) (b : Bool), j + d = l.length → acc.length ≤ 2 * j →
    Evn fun k => spec_SessionPut.l0 k l acc b (j : Int) s.f0 s.f1 s.f2 = some (acc ++ putL (l.drop j) s b, true) := by
  induction d with
  | zero =>
    intro j acc b hj ha
    refine Evn.succ (Evn.all fun k => ?_)
    simp only [spec_SessionPut.l0]
    rw [if_neg (by omega), List.drop_of_length_le (by omega)]
    cases b with
    | true => simp [putL]
    | false => rw [if_neg (by simp), if_pos (by omega)]; simp [putL]
  | succ d ih =>
    intro j acc b hj ha
    have hlt : j < l.length := by omega
    rw [ses_drop hlt]
    obtain ⟨x, hx⟩ : ∃ x, rd_T35 l (j : Int) = x := ⟨_, rfl⟩
    rw [hx]
    have rest : ∀ (acc : List S35) (b : Bool), acc.length ≤ 2 * j + 1 → Evn fun k =>
        (if 0 ≤ (j : Int) then (if (j : Int) < (l.length : Int) then (if x.f0 = s.f0 then (spec_SessionPut.l0 k l acc b (wrap64 ((j : Int) + 1)) s.f0 s.f1 s.f2) else (if acc.length < 5864062014805 then (spec_SessionPut.l0 k l (acc ++ [(⟨x.f0, x.f1, x.f2⟩ : S35)]) b (wrap64 ((j : Int) + 1)) s.f0 s.f1 s.f2) else (none))) else (none)) else (none))
        = some (acc ++ ((if x.f0 = s.f0 then [] else [x]) ++ putL (l.drop (j + 1)) s b), true) := by
      intro acc b ha
      by_cases h : x.f0 = s.f0
      · refine Evn.mp (ih (j + 1) acc b (by omega) (by omega)) (Evn.all fun k e => ?_)
        rw [if_pos (by omega), if_pos (by omega), if_pos h, if_pos h, w64 (by omega) (by omega)]
        exact e
      · refine Evn.mp (ih (j + 1) (acc ++ [x]) b (by omega) (by rw [List.length_append]; simp only [List.length_cons, List.length_nil]; omega)) (Evn.all fun k e => ?_)
        rw [if_pos (by omega), if_pos (by omega), if_neg h, if_neg h, if_pos (by omega), w64 (by omega) (by omega)]
        refine Eq.trans e ?_
        simp
    by_cases hc : b = false ∧ s.f0 ≤ x.f0
    · obtain ⟨rfl, hle⟩ := hc
      refine Evn.succ (Evn.succ (Evn.mp (rest (acc ++ [s]) true (by rw [List.length_append]; simp only [List.length_cons, List.length_nil]; omega)) (Evn.all fun k e => ?_)))
      simp only [spec_SessionPut.l0]
      rw [if_pos (by omega), if_neg (by simp), if_pos (by omega), hx, decide_eq_true (show x.f0 ≥ s.f0 from hle)]
      simp only [spec_SessionPut.j2, if_true, hx]
      rw [if_pos (by omega)]
      simp only [Option.bind_some]
      refine Eq.trans e ?_
      have hp : putL (x :: l.drop (j + 1)) s false = s :: ((if x.f0 = s.f0 then [] else [x]) ++ putL (l.drop (j + 1)) s true) := by
        rw [putL]
        exact if_pos ⟨rfl, hle⟩
      rw [hp]
      simp
    · refine Evn.succ (Evn.succ (Evn.mp (rest acc b (by omega)) (Evn.all fun k e => ?_)))
      have e2 : spec_SessionPut.j2 (k + 1) l acc b (j : Int) false s.f0 s.f1 s.f2 = some (acc ++ putL (x :: l.drop (j + 1)) s b, true) := by
        simp only [spec_SessionPut.j2, hx]
        rw [if_neg (by simp)]
        refine Eq.trans e ?_
        rw [putL, if_neg hc]
      simp only [spec_SessionPut.l0]
      rw [if_pos (by omega)]
      cases b with
      | true => rw [if_pos rfl]; exact e2
      | false =>
        rw [if_neg (by simp), if_pos (by omega), hx, decide_eq_false (fun h => hc ⟨rfl, h⟩)]
        exact e2
theorem specPut (l : List S35) (hn : l.length ≤ 1099511627776) (s : S35) : Evn fun k => spec_SessionPut.f k l s.f0 s.f1 s.f2 = some (putB l s) := by
  obtain ⟨K1, h1⟩ := specSes l (by omega)
  obtain ⟨K2, h2⟩ := specSes [s] (by simp)
  obtain ⟨K3, h3⟩ := specSeq l (by omega) s.f0
  obtain ⟨K4, h4⟩ : Evn fun k => sesB l = true → spec_SessionPut.l0 k l [] false ((0 : Nat) : Int) s.f0 s.f1 s.f2 = some ([] ++ putL (l.drop 0) s false, true) := by
    by_cases hv : sesB l = true
    · have := sesB_len hv
      exact Evn.mp (specPut_loop l (by omega) s l.length 0 [] false (by omega) (by simp)) (Evn.all fun k e _ => e)
    · exact Evn.all fun k h => absurd h hv
  refine ⟨K1 + K2 + K3 + K4 + 1, fun k hk => ?_⟩
  obtain ⟨m, rfl⟩ : ∃ m, k = m + 1 := ⟨k - 1, by omega⟩
  have g1 := h1 (m + 1) (by omega)
  have g2 := h2 (m + 1) (by omega)
  have g3 := h3 m (by omega)
  have g4 := h4 m (by omega)
  have ht : ∀ k, spec_SessionPut.j0 (k + 1) l [] true s.f0 s.f1 s.f2 = some ([], false) := fun k => by simp [spec_SessionPut.j0]
  unfold spec_SessionPut.f putB
  simp only [Option.bind_some]
  rw [g1]
  simp only [Option.bind_some]
  cases hv : sesB l with
  | false => rw [if_neg (by simp), ht, if_neg (by simp)]
  | true =>
    rw [if_pos rfl]
    have : sesB [(⟨s.f0, s.f1, s.f2⟩ : S35)] = sesB [s] := rfl
    refine (congrArg (fun o => Option.bind o _) (show spec_SessionsValid.f (m + 1) [(⟨s.f0, s.f1, s.f2⟩ : S35)] = some (sesB [s]) from g2)).trans ?_
    simp only [Option.bind_some]
    cases sesB [s] with
    | false => rw [if_neg (by simp)]; exact ht m
    | true =>
      rw [if_pos ⟨trivial, rfl⟩]
      simp only [Bool.not_true, spec_SessionPut.j0]
      rw [if_neg (by simp), g3]
      simp only [Option.bind_some]
      by_cases hq : s.f1 ≤ seqB l s.f0
      · rw [if_pos (show seqB l s.f0 ≥ s.f1 from hq), if_pos (by simp only [List.length_nil]; omega), if_pos hq]
        rfl
      · rw [if_neg (show ¬ seqB l s.f0 ≥ s.f1 from hq), if_neg hq]
        exact g4 hv
theorem implSeqS (x : Int) : impl_seqValid.f x = some (decide (1 ≤ x ∧ x ≤ 999)) := by
  unfold impl_seqValid.f
  by_cases h : x ≥ 1
  · rw [if_pos h]
    exact congrArg some (decide_eq_decide.mpr (by omega))
  · rw [if_neg h, decide_eq_false (by omega)]
theorem implSes_loop (l : List S35) (hn : l.length ≤ 1099511627776) (d : Nat) : ∀ j : Nat, j + d = l.length → Evn fun k => impl_SessionsValid.l0 k l l (l.length : Int) (j : Int) = some (sesG (sesP l j) (l.drop j)) := by
  induction d with
  | zero =>
    intro j hj
    refine Evn.succ (Evn.all fun k => ?_)
    simp only [impl_SessionsValid.l0]
    rw [if_neg (by omega), List.drop_of_length_le (by omega)]
    rfl
  | succ d ih =>
    intro j hj
    have hlt : j < l.length := by omega
    refine Evn.succ (Evn.succ (Evn.mp (ih (j + 1) (by omega)) (Evn.all fun k e => ?_)))
    rw [ses_drop hlt, ses_prev] at *
    have rest : ∀ b, impl_SessionsValid.j1 (k + 1) l (j : Int) l (l.length : Int) (j : Int) b (rd_T35 l (j : Int)).f0 (rd_T35 l (j : Int)).f1 (rd_T35 l (j : Int)).f2
        = some (!b && (above (sesP l j) (rd_T35 l (j : Int)).f0 && sesG (some (rd_T35 l (j : Int)).f0) (l.drop (j + 1)))) := by
      intro b
      simp only [impl_SessionsValid.j1]
      cases b with
      | true => rfl
      | false =>
        rw [if_neg (by simp), w64 (x := (j : Int) + 1) (by omega) (by omega), show ((j : Int) + 1) = ((j + 1 : Nat) : Int) by omega, e]
        by_cases hj0 : j = 0
        · rw [if_neg (by omega)]
          simp [sesP, hj0, above]
        · obtain ⟨i, rfl⟩ : ∃ i, j = i + 1 := ⟨j - 1, by omega⟩
          rw [if_pos (by omega), w64 (by omega) (by omega), if_pos (by omega), if_pos (by omega), ses_prev, show ((i + 1 : Nat) : Int) - 1 = (i : Int) by omega]
          simp only [above]
          by_cases hc : (rd_T35 l (i : Int)).f0 ≥ (rd_T35 l ((i + 1 : Nat) : Int)).f0
          · rw [if_pos hc, decide_eq_false (by omega)]
            rfl
          · rw [if_neg hc, decide_eq_true (by omega)]
            rfl
    simp only [impl_SessionsValid.l0, implSeqS, Option.bind_some, rest]
    rw [if_pos (by omega), if_pos (by omega), if_pos (by omega)]
    simp only [sesG]
    unfold okS
    by_cases h0 : (rd_T35 l (j : Int)).f0 < 0
    · rw [if_pos h0, decide_eq_false (show ¬ (0 ≤ (rd_T35 l (j : Int)).f0 ∧ (rd_T35 l (j : Int)).f0 ≤ 3) by omega)]
      rfl
    · rw [if_neg h0]
      by_cases h4 : (rd_T35 l (j : Int)).f0 ≥ 4
      · rw [if_pos h4, decide_eq_false (show ¬ (0 ≤ (rd_T35 l (j : Int)).f0 ∧ (rd_T35 l (j : Int)).f0 ≤ 3) by omega)]
        rfl
      · rw [if_neg h4, decide_eq_true (show (0 ≤ (rd_T35 l (j : Int)).f0 ∧ (rd_T35 l (j : Int)).f0 ≤ 3) by omega)]
        by_cases h1 : 1 ≤ (rd_T35 l (j : Int)).f1 ∧ (rd_T35 l (j : Int)).f1 ≤ 999
        · rw [decide_eq_true h1, if_pos rfl]
          by_cases h2 : (rd_T35 l (j : Int)).f2 < -2
          · rw [if_pos h2, decide_eq_false (show ¬ (-2 ≤ (rd_T35 l (j : Int)).f2 ∧ (rd_T35 l (j : Int)).f2 ≤ 999) by omega)]
            rfl
          · rw [if_neg h2]
            by_cases h3 : (rd_T35 l (j : Int)).f2 > 999
            · rw [decide_eq_true h3, decide_eq_false (show ¬ (-2 ≤ (rd_T35 l (j : Int)).f2 ∧ (rd_T35 l (j : Int)).f2 ≤ 999) by omega)]
              rfl
            · rw [decide_eq_false h3, decide_eq_true (show (-2 ≤ (rd_T35 l (j : Int)).f2 ∧ (rd_T35 l (j : Int)).f2 ≤ 999) by omega)]
              simp
        · rw [decide_eq_false h1, if_neg (by simp)]
          rfl
theorem implSes (l : List S35) (hn : l.length ≤ 1099511627776) : Evn fun k => impl_SessionsValid.f k l = some (sesB l) :=
  Evn.mp (implSes_loop l hn l.length 0 (by omega)) (Evn.all fun k e => by
    unfold impl_SessionsValid.f sesB
    exact e)
theorem sesG_all (l : List S35) : ∀ q : Int, sesG (some q) l = true → ∀ x ∈ l, q < x.f0 := by
  induction l with
  | nil => intro q _ x hx; cases hx
  | cons s r ih =>
    intro q h x hx
    simp only [sesG, Bool.and_eq_true] at h
    have h1 : q < s.f0 := by simpa [above] using h.2.1
    rcases List.mem_cons.mp hx with rfl | hx
    · exact h1
    · exact Int.lt_trans h1 (ih s.f0 h.2.2 x hx)
theorem sesG_order (l : List S35) : ∀ p : Option Int, sesG p l = true → l.Pairwise (fun a b => a.f0 < b.f0) := by
  induction l with
  | nil => intro p _; exact List.Pairwise.nil
  | cons s r ih =>
    intro p h
    simp only [sesG, Bool.and_eq_true] at h
    exact List.Pairwise.cons (sesG_all r s.f0 h.2.2) (ih _ h.2.2)
theorem find_none (c : Int) : ∀ l : List S35, (∀ x ∈ l, x.f0 ≠ c) → findS l c = z35
  | [], _ => rfl
  | s :: r, h => by
    rw [findS, if_neg (h s (by simp))]
    exact find_none c r fun x hx => h x (List.mem_cons_of_mem _ hx)
theorem find_at (c : Int) : ∀ (l : List S35) (R : Nat) (hR : R < l.length), (∀ i (hi : i < R), (l[i]'(by omega)).f0 ≠ c) → l[R].f0 = c → findS l c = l[R]
  | s :: r, 0, _, _, h => by
    have h' : s.f0 = c := h
    rw [findS, if_pos h']
    rfl
  | s :: r, R + 1, hR, hb, h => by
    have h0 := hb 0 (by omega)
    simp only [List.getElem_cons_zero] at h0
    rw [findS, if_neg h0]
    have := find_at c r R (by simpa using hR) (fun i hi => by have := hb (i + 1) (by omega); simpa using this) (by simpa using h)
    simpa using this
theorem placeOf_spec {l : List S35} (ho : l.Pairwise (fun a b => a.f0 < b.f0)) (c : Int) : ∀ (d lo hi : Nat), lo ≤ hi → hi ≤ l.length → hi - lo ≤ d →
    (∀ i (h : i < l.length), i < lo → l[i].f0 < c) → (∀ i (h : i < l.length), hi ≤ i → c ≤ l[i].f0) →
    placeOf l c d lo hi ≤ l.length ∧ (∀ i (h : i < l.length), i < placeOf l c d lo hi → l[i].f0 < c) ∧ (∀ i (h : i < l.length), placeOf l c d lo hi ≤ i → c ≤ l[i].f0)
  | 0, lo, hi, h1, h2, h3, h4, h5 => by
    obtain rfl : lo = hi := by omega
    exact ⟨h2, h4, h5⟩
  | d + 1, lo, hi, h1, h2, h3, h4, h5 => by
    rw [placeOf]
    by_cases hlt : lo < hi
    · rw [if_pos hlt]
      have hm : (lo + hi) / 2 < l.length := by omega
      rw [ses_nat hm]
      have hord : ∀ i j (hi : i < l.length) (hj : j < l.length), i < j → l[i].f0 < l[j].f0 := fun i j hi hj hij => List.pairwise_iff_getElem.mp ho i j hi hj hij
      by_cases hc : (l[(lo + hi) / 2]'hm).f0 < c
      · rw [if_pos hc]
        refine placeOf_spec ho c d _ _ (by omega) h2 (by omega) (fun i hil hlo => ?_) h5
        rcases Nat.lt_or_eq_of_le (show i ≤ (lo + hi) / 2 by omega) with h | h
        · exact Int.lt_trans (hord i _ hil hm h) hc
        · subst h; exact hc
      · rw [if_neg hc]
        refine placeOf_spec ho c d _ _ (by omega) (by omega) (by omega) h4 (fun i hil hlo => ?_)
        rcases Nat.lt_or_eq_of_le (show (lo + hi) / 2 ≤ i by omega) with h | h
        · have := hord _ i hm hil h
          omega
        · subst h; omega
    · rw [if_neg hlt]
      obtain rfl : lo = hi := by omega
      exact ⟨h2, h4, h5⟩
theorem placeOf_find {l : List S35} (h : sesB l = true) (c : Int) : (if hitOf l c = true then (rd_T35 l ((placeOf l c l.length 0 l.length : Nat) : Int)).f1 else 0) = (findS l c).f1 := by
  obtain ⟨h1, h2, h3⟩ := placeOf_spec (sesG_order l none h) c l.length 0 l.length (Nat.zero_le _) (Nat.le_refl _) (by omega) (fun i _ hi => absurd hi (Nat.not_lt_zero _)) (fun i hil hi => by omega)
  unfold hitOf
  generalize placeOf l c l.length 0 l.length = R at h1 h2 h3 ⊢
  by_cases hR : R < l.length
  · rw [decide_eq_true hR, ses_nat hR]
    by_cases hc : l[R].f0 = c
    · rw [decide_eq_true hc, find_at c l R hR (fun i hi => by have := h2 i (by omega) hi; omega) hc]
      rfl
    · rw [decide_eq_false hc, find_none c l fun x hx => ?_]
      · rfl
      · obtain ⟨i, hi, rfl⟩ := List.getElem_of_mem hx
        by_cases hlt : i < R
        · have := h2 i hi hlt; omega
        · have a := h3 R hR (Nat.le_refl _)
          rcases Nat.lt_or_eq_of_le (show R ≤ i by omega) with h' | h'
          · have := List.pairwise_iff_getElem.mp (sesG_order l none h) R i hR hi h'
            omega
          · subst h'; exact hc
  · rw [decide_eq_false hR, find_none c l fun x hx => ?_]
    · rfl
    · obtain ⟨i, hi, rfl⟩ := List.getElem_of_mem hx
      have := h2 i hi (by omega)
      omega
theorem implSeqN (l : List S35) (c : Int) (hn : l.length ≤ 1099511627776) : Evn fun k => impl_SessionSeq.f k l c = some (seqB l c) := by
  refine Evn.mp (implSes l hn) (Evn.all fun k e => ?_)
  unfold impl_SessionSeq.f seqB
  rw [e]
  simp only [Option.bind_some]
  by_cases hv : sesB l = true
  · by_cases hc : 0 ≤ c ∧ c ≤ 3
    · have h4 := sesB_len hv
      have hf := placeOf_find hv c
      rw [if_pos (⟨hv, hc⟩ : sesB l = true ∧ 0 ≤ c ∧ c ≤ 3), if_neg (by simp only [hv]; simp; omega), if_pos (by omega), ← hf]
      by_cases hh : hitOf l c = true
      · rw [if_pos hh, if_pos hh]
      · rw [if_neg hh, if_neg hh]
    · rw [if_pos (by omega), if_neg (by intro h; exact hc h.2)]
  · rw [if_pos (.inl (Bool.eq_false_iff.mpr hv)), if_neg (by intro h; exact hv h.1)]
theorem putL_keep (s : S35) : ∀ l : List S35, (∀ x ∈ l, s.f0 < x.f0) → putL l s true = l
  | [], _ => rfl
  | x :: r, h => by
    have h0 := h x (by simp)
    rw [putL, if_neg (by simp), if_neg (by omega), putL_keep s r fun y hy => h y (List.mem_cons_of_mem _ hy)]
    rfl
theorem putL_place (s : S35) : ∀ (l : List S35) (R : Nat), l.Pairwise (fun a b => a.f0 < b.f0) → R ≤ l.length → (∀ i (h : i < l.length), i < R → l[i].f0 < s.f0) → (∀ i (h : i < l.length), R ≤ i → s.f0 ≤ l[i].f0) →
    putL l s false = (l.take R ++ [s]) ++ l.drop (R + (if ∃ h : R < l.length, l[R].f0 = s.f0 then 1 else 0))
  | [], R, _, hR, _, _ => by
    obtain rfl : R = 0 := by simpa using hR
    rw [if_neg (by rintro ⟨h, _⟩; exact absurd h (Nat.not_lt_zero _))]
    rfl
  | x :: r, 0, ho, _, _, h2 => by
    have hx := h2 0 (by simp) (Nat.zero_le _)
    simp only [List.getElem_cons_zero] at hx
    have hr := (List.pairwise_cons.mp ho).1
    have hk : putL r s true = r := putL_keep s r fun y hy => by have := hr y hy; omega
    have hp : putL (x :: r) s false = s :: ((if x.f0 = s.f0 then [] else [x]) ++ putL r s true) := by
      rw [putL]
      exact if_pos ⟨rfl, hx⟩
    rw [hp, hk]
    by_cases hc : x.f0 = s.f0
    · rw [if_pos hc, if_pos ⟨by simp, by simpa using hc⟩]
      rfl
    · rw [if_neg hc, if_neg (by rintro ⟨_, h⟩; exact hc (by simpa using h))]
      rfl
  | x :: r, R + 1, ho, hR, h1, h2 => by
    have hx := h1 0 (by simp) (by omega)
    simp only [List.getElem_cons_zero] at hx
    have hp : putL (x :: r) s false = (if x.f0 = s.f0 then [] else [x]) ++ putL r s false := by
      rw [putL]
      exact if_neg (by omega)
    have ih := putL_place s r R (List.pairwise_cons.mp ho).2 (by simpa using hR) (fun i hi hr => by have := h1 (i + 1) (by simpa using hi) (by omega); simpa using this) (fun i hi hr => by have := h2 (i + 1) (by simpa using hi) (by omega); simpa using this)
    rw [hp, ih, if_neg (by omega)]
    have he : (∃ h : R + 1 < (x :: r).length, (x :: r)[R + 1].f0 = s.f0) ↔ ∃ h : R < r.length, r[R].f0 = s.f0 := by simp
    by_cases hc : ∃ h : R < r.length, r[R].f0 = s.f0
    · rw [if_pos hc, if_pos (he.mpr hc)]
      rfl
    · rw [if_neg hc, if_neg (fun h => hc (he.mp h))]
      rfl
theorem putL_valid (s : S35) (hs : okS s = true) (l : List S35) : ∀ p, sesG p l = true → above p s.f0 = true → sesG p (putL l s false) = true := by
  induction l with
  | nil => intro p _ hp; simp [putL, sesG, hs, hp]
  | cons x r ih =>
    intro p h hp
    have ho := sesG_order _ _ h
    simp only [sesG, Bool.and_eq_true] at h
    obtain ⟨h1, h2, h3⟩ := h
    by_cases hc : s.f0 ≤ x.f0
    · have hk : putL r s true = r := putL_keep s r fun y hy => by have := (List.pairwise_cons.mp ho).1 y hy; omega
      have hp' : putL (x :: r) s false = s :: ((if x.f0 = s.f0 then [] else [x]) ++ putL r s true) := by
        rw [putL]
        exact if_pos ⟨rfl, hc⟩
      rw [hp', hk]
      by_cases he : x.f0 = s.f0
      · rw [if_pos he]
        rw [he] at h3
        simp [sesG, hs, hp, h3]
      · rw [if_neg he]
        have ha : above (some s.f0) x.f0 = true := by simp only [above, decide_eq_true_eq]; omega
        simp [sesG, hs, hp, h1, ha, h3]
    · have hp' : putL (x :: r) s false = (if x.f0 = s.f0 then [] else [x]) ++ putL r s false := by
        rw [putL]
        exact if_neg (by omega)
      rw [hp', if_neg (by omega)]
      have ha : above (some x.f0) s.f0 = true := by simp only [above, decide_eq_true_eq]; omega
      simp [sesG, h1, h2, ih (some x.f0) h3 ha]
theorem putL_find (s : S35) (c : Int) (l : List S35) (ho : l.Pairwise (fun a b => a.f0 < b.f0)) : findS (putL l s false) c = if s.f0 = c then s else findS l c := by
  induction l with
  | nil => simp [putL, findS]
  | cons x r ih =>
    have hr := (List.pairwise_cons.mp ho).1
    by_cases hc : s.f0 ≤ x.f0
    · have hk : putL r s true = r := putL_keep s r fun y hy => by have := hr y hy; omega
      have hp' : putL (x :: r) s false = s :: ((if x.f0 = s.f0 then [] else [x]) ++ putL r s true) := by
        rw [putL]
        exact if_pos ⟨rfl, hc⟩
      rw [hp', hk, findS]
      by_cases e : s.f0 = c
      · rw [if_pos e, if_pos e]
      · rw [if_neg e, if_neg e]
        by_cases he : x.f0 = s.f0
        · rw [if_pos he, findS, if_neg (by omega)]
          rfl
        · rw [if_neg he]
          rfl
    · have hp' : putL (x :: r) s false = (if x.f0 = s.f0 then [] else [x]) ++ putL r s false := by
        rw [putL]
        exact if_neg (by omega)
      rw [hp', if_neg (by omega)]
      simp only [List.cons_append, List.nil_append, findS, ih (List.pairwise_cons.mp ho).2]
      by_cases e : x.f0 = c
      · rw [if_pos e, if_pos e, if_neg (by omega)]
      · rw [if_neg e, if_neg e]
theorem sesOne (s : S35) : sesB [s] = okS s := by
  unfold sesB
  simp [sesG, above]
theorem implPut (l : List S35) (hn : l.length ≤ 1099511627776) (s : S35) : Evn fun k => impl_SessionPut.f k l s.f0 s.f1 s.f2 = some (putB l s) := by
  refine Evn.mp (implSes l hn) (Evn.mp (implSes [s] (by simp)) (Evn.all fun k e2 e1 => ?_))
  unfold impl_SessionPut.f putB
  rw [e1]
  simp only [Option.bind_some]
  by_cases hv : sesB l = true
  · rw [if_neg (by simp [hv])]
    refine (congrArg (fun o => Option.bind o _) (show impl_SessionsValid.f k [(⟨s.f0, s.f1, s.f2⟩ : S35)] = some (sesB [s]) from e2)).trans ?_
    simp only [Option.bind_some]
    by_cases hs : sesB [s] = true
    · rw [if_neg (show ¬ sesB [s] = false by simp [hs]), if_pos (by have := sesB_len hv; omega), if_pos (show sesB l = true ∧ sesB [s] = true from ⟨hv, hs⟩)]
      have ho := sesG_order l none hv
      obtain ⟨p1, p2, p3⟩ := placeOf_spec ho s.f0 l.length 0 l.length (Nat.zero_le _) (Nat.le_refl _) (by omega) (fun i _ hi => absurd hi (Nat.not_lt_zero _)) (fun i hil hi => by omega)
      have hf := placeOf_find hv s.f0
      have hpl := putL_place s l (plOf l s.f0) ho p1 p2 p3
      have hs3 : 0 ≤ s.f0 ∧ s.f0 ≤ 3 ∧ 1 ≤ s.f1 := by
        rw [sesOne] at hs
        unfold okS at hs
        simp only [Bool.and_eq_true, decide_eq_true_eq] at hs
        omega
      have hq : seqB l s.f0 = (findS l s.f0).f1 := by
        unfold seqB
        rw [if_pos ⟨hv, hs3.1, hs3.2.1⟩]
      have hh : hitOf l s.f0 = true ↔ ∃ h : plOf l s.f0 < l.length, l[plOf l s.f0].f0 = s.f0 := by
        unfold hitOf plOf
        rw [Bool.and_eq_true, decide_eq_true_eq, decide_eq_true_eq]
        constructor
        · rintro ⟨a, b⟩
          rw [ses_nat a] at b
          exact ⟨a, b⟩
        · rintro ⟨a, b⟩
          exact ⟨a, by rw [ses_nat a]; exact b⟩
      by_cases hit : hitOf l s.f0 = true
      · rw [if_neg (show ¬ hitOf l s.f0 = false by simp [hit])]
        rw [if_pos hit] at hf
        rw [if_pos (hh.mp hit)] at hpl
        by_cases hle : s.f1 ≤ seqB l s.f0
        · rw [if_pos (show (rd_T35 l ((plOf l s.f0 : Nat) : Int)).f1 ≥ s.f1 by rw [show (rd_T35 l ((plOf l s.f0 : Nat) : Int)).f1 = (findS l s.f0).f1 from hf, ← hq]; exact hle), if_pos hle]
        · rw [if_neg (show ¬ (rd_T35 l ((plOf l s.f0 : Nat) : Int)).f1 ≥ s.f1 by rw [show (rd_T35 l ((plOf l s.f0 : Nat) : Int)).f1 = (findS l s.f0).f1 from hf, ← hq]; exact hle), if_neg hle, hpl]
      · rw [if_pos (Bool.eq_false_iff.mpr hit)]
        rw [if_neg hit] at hf
        rw [if_neg (fun h => hit (hh.mpr h))] at hpl
        rw [if_neg (by rw [hq, ← hf]; omega), hpl]
    · rw [if_pos (Bool.eq_false_iff.mpr hs), if_neg (fun h => hs h.2)]
  · rw [if_pos (Bool.eq_false_iff.mpr hv), if_neg (fun h => hv h.1)]
def joinL : List S35 → List S35 → List S35
  | acc, [] => acc
  | acc, s :: r => joinL (putB acc s).1 r
def joinB (a b : List S35) : List S35 := if sesB a = true ∧ sesB b = true then joinL a b else []
theorem putB_valid {acc : List S35} {s : S35} (h : sesB acc = true) (hs : okS s = true) :
    sesB (putB acc s).1 = true ∧ (if (putB acc s).2 = true then (putB acc s).1 else acc) = (putB acc s).1 := by
  unfold putB
  rw [if_pos (show sesB acc = true ∧ sesB [s] = true from ⟨h, by rw [sesOne]; exact hs⟩)]
  by_cases hle : s.f1 ≤ seqB acc s.f0
  · rw [if_pos hle]
    exact ⟨h, by simp⟩
  · rw [if_neg hle]
    exact ⟨putL_valid s hs acc none h rfl, by simp⟩
theorem sesG_ok (l : List S35) : ∀ p, sesG p l = true → ∀ s ∈ l, okS s = true := by
  induction l with
  | nil => intro p _ s hs; cases hs
  | cons x r ih =>
    intro p h s hs
    simp only [sesG, Bool.and_eq_true] at h
    rcases List.mem_cons.mp hs with rfl | hs
    · exact h.1
    · exact ih _ h.2.2 s hs
theorem joinL_valid (b : List S35) : ∀ acc, sesB acc = true → (∀ s ∈ b, okS s = true) → sesB (joinL acc b) = true := by
  induction b with
  | nil => intro acc h _; exact h
  | cons s r ih =>
    intro acc h hb
    exact ih _ (putB_valid h (hb s (by simp))).1 fun x hx => hb x (List.mem_cons_of_mem _ hx)
theorem implJoin_loop (b : List S35) : ∀ acc, sesB acc = true → (∀ s ∈ b, okS s = true) → Evn fun k => impl_SessionsJoin.l k acc b = some (joinL acc b) := by
  induction b with
  | nil => intro acc _ _; exact Evn.all fun k => rfl
  | cons s r ih =>
    intro acc h hb
    have hp := putB_valid h (hb s (by simp))
    refine Evn.mp (implPut acc (by have := sesB_len h; omega) s) (Evn.mp (ih _ hp.1 fun x hx => hb x (List.mem_cons_of_mem _ hx)) (Evn.all fun k e2 e1 => ?_))
    unfold impl_SessionsJoin.l
    rw [e1]
    simp only [Option.bind_some]
    rw [hp.2, e2]
    rfl
theorem implJoin (a b : List S35) (ha : a.length ≤ 1099511627776) (hb : b.length ≤ 1099511627776) : Evn fun k => impl_SessionsJoin.f k a b = some (joinB a b) := by
  by_cases hv : sesB a = true ∧ sesB b = true
  · refine Evn.mp (implSes a ha) (Evn.mp (implSes b hb) (Evn.mp (implJoin_loop b a hv.1 (sesG_ok b none hv.2)) (Evn.all fun k e3 e2 e1 => ?_)))
    unfold impl_SessionsJoin.f joinB
    rw [e1, if_pos hv]
    simp only [Option.bind_some]
    rw [if_neg (by simp [hv.1]), e2]
    simp only [Option.bind_some]
    have h1 := sesB_len hv.1
    have h2 := sesB_len hv.2
    rw [if_neg (by simp [hv.2]), if_pos ⟨by omega, by omega⟩, e3]
  · refine Evn.mp (implSes a ha) (Evn.mp (implSes b hb) (Evn.all fun k e2 e1 => ?_))
    unfold impl_SessionsJoin.f joinB
    rw [e1, if_neg hv]
    simp only [Option.bind_some]
    cases h1 : sesB a with
    | false => simp
    | true =>
      rw [if_neg (by simp), e2]
      simp only [Option.bind_some]
      cases h2 : sesB b with
      | false => simp
      | true => exact absurd ⟨h1, h2⟩ hv
theorem specJoin_loop (b : List S35) (hn : b.length ≤ 1000) (hb : ∀ s ∈ b, okS s = true) (d : Nat) : ∀ (j : Nat) acc, j + d = b.length → sesB acc = true → Evn fun k => spec_SessionsJoin.l0 k b acc (j : Int) = some (joinL acc (b.drop j)) := by
  induction d with
  | zero =>
    intro j acc hj h
    refine Evn.succ (Evn.all fun k => ?_)
    simp only [spec_SessionsJoin.l0]
    rw [if_neg (by omega), List.drop_of_length_le (by omega)]
    rfl
  | succ d ih =>
    intro j acc hj h
    have hlt : j < b.length := by omega
    have hm : okS (rd_T35 b (j : Int)) = true := hb _ (by rw [ses_nat hlt]; exact List.getElem_mem hlt)
    refine Evn.succ (Evn.mp (specPut acc (by have := sesB_len h; omega) (rd_T35 b (j : Int))) (Evn.mp (ih (j + 1) _ (by omega) (putB_valid h hm).1) (Evn.all fun k e2 e1 => ?_)))
    simp only [spec_SessionsJoin.l0]
    rw [if_pos (by omega), if_pos (by omega), e1]
    simp only [Option.bind_some]
    rw [w64 (by omega) (by omega), ses_drop hlt]
    exact e2
theorem specJoin (a b : List S35) (ha : a.length ≤ 1099511627776) (hb : b.length ≤ 1099511627776) : Evn fun k => spec_SessionsJoin.f k a b = some (joinB a b) := by
  have ht : ∀ k, spec_SessionsJoin.j0 (k + 1) a b true = some [] := fun k => by simp [spec_SessionsJoin.j0]
  obtain ⟨K1, g1⟩ := specSes a ha
  obtain ⟨K2, g2⟩ := specSes b hb
  obtain ⟨K3, g3⟩ : Evn fun k => sesB a = true → sesB b = true → spec_SessionsJoin.l0 k b a 0 = some (joinL a b) := by
    by_cases hv : sesB a = true ∧ sesB b = true
    · have h2 := sesB_len hv.2
      exact Evn.mp (specJoin_loop b (by omega) (sesG_ok b none hv.2) b.length 0 a (by omega) hv.1) (Evn.all fun k e _ _ => e)
    · exact Evn.all fun k h1 h2 => absurd ⟨h1, h2⟩ hv
  refine ⟨K1 + K2 + K3 + 1, fun k hk => ?_⟩
  obtain ⟨m, rfl⟩ : ∃ m, k = m + 1 := ⟨k - 1, by omega⟩
  have e1 := g1 (m + 1) (by omega)
  have e2 := g2 (m + 1) (by omega)
  have e3 := g3 m (by omega)
  unfold spec_SessionsJoin.f joinB
  rw [e1]
  simp only [Option.bind_some]
  cases h1 : sesB a with
  | false => rw [if_neg (by simp), if_neg (by simp), ht]
  | true =>
    rw [if_pos rfl, e2]
    simp only [Option.bind_some]
    cases h2 : sesB b with
    | false => rw [if_neg (by simp)]; exact ht m
    | true =>
      have h4 := sesB_len h1
      rw [if_pos ⟨trivial, rfl⟩]
      simp only [Bool.not_true, spec_SessionsJoin.j0]
      rw [if_neg (by simp)]
      simp only [Option.bind_some]
      rw [if_pos (by simp only [List.length_nil]; omega), List.nil_append]
      exact e3 h1 h2
theorem hasSes_loop (l : List S35) (s : S35) (hn : l.length ≤ 1099511627776) (d : Nat) : ∀ j : Nat, j + d = l.length → s ∈ l.drop j → Evn fun k => laws_hasSession.l0 k l (j : Int) s.f0 s.f1 s.f2 = some true := by
  induction d with
  | zero =>
    intro j hj hm
    rw [List.drop_of_length_le (by omega)] at hm
    cases hm
  | succ d ih =>
    intro j hj hm
    have hlt : j < l.length := by omega
    have hd := ses_drop hlt
    rw [hd] at hm
    by_cases h : (((rd_T35 l (j : Int)).f0) == s.f0 && (((rd_T35 l (j : Int)).f1) == s.f1 && (((rd_T35 l (j : Int)).f2) == s.f2))) = true
    · refine Evn.succ (Evn.all fun k => ?_)
      simp only [laws_hasSession.l0]
      rw [if_pos (by omega), if_pos (by omega), if_pos h]
    · have hm' : s ∈ l.drop (j + 1) := by
        rcases List.mem_cons.mp hm with e | e
        · rw [← e] at h
          exact absurd (by simp) h
        · exact e
      refine Evn.succ (Evn.mp (ih (j + 1) (by omega) hm') (Evn.all fun k e => ?_))
      simp only [laws_hasSession.l0]
      rw [if_pos (by omega), if_pos (by omega), if_neg h, w64 (by omega) (by omega)]
      exact e
theorem hasSes {l : List S35} {s : S35} (hn : l.length ≤ 1099511627776) (hm : s ∈ l) : Evn fun k => laws_hasSession.f k l s.f0 s.f1 s.f2 = some true :=
  Evn.mp (hasSes_loop l s hn l.length 0 (by omega) (by simpa using hm)) (Evn.all fun k e => by
    unfold laws_hasSession.f
    exact e)
theorem find_pos (c : Int) (l : List S35) : ∀ p, sesG p l = true → 0 ≤ (findS l c).f1 := by
  induction l with
  | nil => intro p _; exact Int.le_refl 0
  | cons s r ih =>
    intro p h
    simp only [sesG, Bool.and_eq_true] at h
    have h1 := h.1
    unfold okS at h1
    simp only [Bool.and_eq_true, decide_eq_true_eq] at h1
    rw [findS]
    by_cases hc : s.f0 = c
    · rw [if_pos hc]
      omega
    · rw [if_neg hc]
      exact ih _ h.2.2
theorem seq_find {l : List S35} (h : sesB l = true) {c : Int} (h0 : 0 ≤ c) (h1 : c ≤ 3) : seqB l c = (findS l c).f1 := by
  unfold seqB
  exact if_pos ⟨h, h0, h1⟩
theorem okS_client {s : S35} (h : okS s = true) : 0 ≤ s.f0 ∧ s.f0 ≤ 3 := by
  unfold okS at h
  simp only [Bool.and_eq_true, decide_eq_true_eq] at h
  omega
theorem put_find {acc : List S35} {s : S35} (h : sesB acc = true) (hs : okS s = true) (c : Int) :
    (findS (putB acc s).1 c).f1 = if s.f0 = c then max s.f1 (findS acc c).f1 else (findS acc c).f1 := by
  have hc := okS_client hs
  unfold putB
  rw [if_pos (show sesB acc = true ∧ sesB [s] = true from ⟨h, by rw [sesOne]; exact hs⟩), seq_find h hc.1 hc.2]
  by_cases hle : s.f1 ≤ (findS acc s.f0).f1
  · rw [if_pos hle]
    by_cases e : s.f0 = c
    · subst e
      rw [if_pos rfl]
      dsimp only
      omega
    · rw [if_neg e]
  · rw [if_neg hle]
    dsimp only
    rw [putL_find s c acc (sesG_order acc none h)]
    by_cases e : s.f0 = c
    · subst e
      rw [if_pos rfl, if_pos rfl]
      omega
    · rw [if_neg e, if_neg e]
theorem join_find (c : Int) (b : List S35) : ∀ p acc, sesG p b = true → sesB acc = true → (findS (joinL acc b) c).f1 = max (findS acc c).f1 (findS b c).f1 := by
  induction b with
  | nil =>
    intro p acc _ h
    have := find_pos c acc none h
    rw [joinL, show (findS [] c).f1 = 0 from rfl]
    omega
  | cons s r ih =>
    intro p acc hb h
    have hr := (List.pairwise_cons.mp (sesG_order _ _ hb)).1
    simp only [sesG, Bool.and_eq_true] at hb
    have hp := find_pos c r (some s.f0) hb.2.2
    have ha := find_pos c acc none h
    rw [joinL, ih (some s.f0) _ hb.2.2 (putB_valid h hb.1).1, put_find h hb.1 c, findS]
    by_cases e : s.f0 = c
    · rw [if_pos e, if_pos e, find_none c r fun x hx => by have := hr x hx; omega]
      rw [show (z35 : S35).f1 = 0 from rfl]
      omega
    · rw [if_neg e, if_neg e]
theorem join_seq {a b : List S35} (ha : sesB a = true) (hb : sesB b = true) {c : Int} (h0 : 0 ≤ c) (h1 : c ≤ 3) : seqB (joinB a b) c = max (seqB a c) (seqB b c) := by
  have e : joinB a b = joinL a b := by
    unfold joinB
    exact if_pos ⟨ha, hb⟩
  rw [e, seq_find (joinL_valid b a ha (sesG_ok b none hb)) h0 h1, seq_find ha h0 h1, seq_find hb h0 h1]
  exact join_find c b none a hb ha
theorem putL_sub {x s : S35} (l : List S35) : ∀ b, x ∈ putL l s b → x = s ∨ x ∈ l := by
  induction l with
  | nil =>
    intro b h
    rw [putL] at h
    cases b with
    | true => simp at h
    | false => exact .inl (by simpa using h)
  | cons y r ih =>
    intro b h
    have hy : ∀ z, z ∈ (if y.f0 = s.f0 then [] else [y]) → z = y := by
      intro z hz
      split at hz
      · cases hz
      · simpa using hz
    rw [putL] at h
    have rest : ∀ b, x ∈ (if y.f0 = s.f0 then [] else [y]) ++ putL r s b → x = s ∨ x ∈ y :: r := by
      intro b h
      rcases List.mem_append.mp h with h | h
      · exact .inr (by rw [hy x h]; simp)
      · rcases ih b h with h | h
        · exact .inl h
        · exact .inr (List.mem_cons_of_mem _ h)
    split at h
    · rcases List.mem_cons.mp h with h | h
      · exact .inl h
      · exact rest true h
    · exact rest b h
theorem put_sub {x s : S35} {l : List S35} (h : x ∈ (putB l s).1) : x = s ∨ x ∈ l := by
  unfold putB at h
  split at h
  · split at h
    · exact .inr h
    · exact putL_sub l false h
  · cases h
theorem join_sub {x : S35} (b : List S35) : ∀ acc, x ∈ joinL acc b → x ∈ acc ∨ x ∈ b := by
  induction b with
  | nil => intro acc h; exact .inl h
  | cons s r ih =>
    intro acc h
    rcases ih _ h with h | h
    · rcases put_sub h with rfl | h
      · exact .inr (by simp)
      · exact .inl h
    · exact .inr (List.mem_cons_of_mem _ h)
theorem find_mem {l : List S35} (h : sesB l = true) {s : S35} (hs : s ∈ l) : findS l s.f0 = s := by
  obtain ⟨R, hR, rfl⟩ := List.getElem_of_mem hs
  have ho := sesG_order l none h
  exact find_at _ l R hR (fun i hi => by have := List.pairwise_iff_getElem.mp ho i R (by omega) hR hi; omega) rfl
theorem put_same {l : List S35} (h : sesB l = true) {s : S35} (hs : s ∈ l) : (putB l s).1 = l := by
  have ok := sesG_ok l none h s hs
  have hc := okS_client ok
  unfold putB
  rw [if_pos (show sesB l = true ∧ sesB [s] = true from ⟨h, by rw [sesOne]; exact ok⟩), seq_find h hc.1 hc.2, find_mem h hs, if_pos (Int.le_refl _)]
theorem join_same {l : List S35} (h : sesB l = true) : ∀ b : List S35, (∀ s ∈ b, s ∈ l) → joinL l b = l
  | [], _ => rfl
  | s :: r, hb => by
    rw [joinL, put_same h (hb s (by simp))]
    exact join_same h r fun x hx => hb x (List.mem_cons_of_mem _ hx)
theorem hasSes_not_loop (l : List S35) (s : S35) (hn : l.length ≤ 1099511627776) (hm : s ∉ l) (d : Nat) : ∀ j : Nat, j + d = l.length → Evn fun k => laws_hasSession.l0 k l (j : Int) s.f0 s.f1 s.f2 = some false := by
  induction d with
  | zero =>
    intro j hj
    refine Evn.succ (Evn.all fun k => ?_)
    simp only [laws_hasSession.l0]
    rw [if_neg (by omega)]
  | succ d ih =>
    intro j hj
    have hlt : j < l.length := by omega
    have h : ¬ (((rd_T35 l (j : Int)).f0) == s.f0 && (((rd_T35 l (j : Int)).f1) == s.f1 && (((rd_T35 l (j : Int)).f2) == s.f2))) = true := by
      rw [ses_nat hlt]
      intro q
      refine hm ?_
      have : l[j] = s := by
        simp only [Bool.and_eq_true, beq_iff_eq] at q
        obtain ⟨q1, q2, q3⟩ := q
        cases s
        cases h : l[j]
        simp_all
      exact this ▸ List.getElem_mem hlt
    refine Evn.succ (Evn.mp (ih (j + 1) (by omega)) (Evn.all fun k e => ?_))
    simp only [laws_hasSession.l0]
    rw [if_pos (by omega), if_pos (by omega), if_neg h, w64 (by omega) (by omega)]
    exact e
theorem hasSes_not {l : List S35} {s : S35} (hn : l.length ≤ 1099511627776) (hm : s ∉ l) : Evn fun k => laws_hasSession.f k l s.f0 s.f1 s.f2 = some false :=
  Evn.mp (hasSes_not_loop l s hn hm l.length 0 (by omega)) (Evn.all fun k e => by
    unfold laws_hasSession.f
    exact e)
theorem sameSes_loop (l : List S35) (hn : l.length ≤ 1099511627776) (d : Nat) : ∀ j : Nat, j + d = l.length → Evn fun k => laws_sameSessions.l0 k l l (j : Int) = some true := by
  induction d with
  | zero =>
    intro j hj
    refine Evn.succ (Evn.all fun k => ?_)
    simp only [laws_sameSessions.l0]
    rw [if_neg (by omega)]
  | succ d ih =>
    intro j hj
    refine Evn.succ (Evn.mp (ih (j + 1) (by omega)) (Evn.all fun k e => ?_))
    simp only [laws_sameSessions.l0]
    rw [if_pos (by omega), if_pos (by omega), if_pos (by omega), if_neg (by simp), w64 (by omega) (by omega)]
    exact e
theorem sameSes_self (l : List S35) (hn : l.length ≤ 1099511627776) : Evn fun k => laws_sameSessions.f k l l = some true :=
  Evn.mp (sameSes_loop l hn l.length 0 (by omega)) (Evn.all fun k e => by
    unfold laws_sameSessions.f
    rw [if_pos rfl]
    exact e)
def Code (b : List Int) : Prop := b.length ≤ 2000 ∧ ∀ x ∈ b, 0 ≤ x ∧ x ≤ 255
theorem rd_code {b : List Int} (h : Code b) (i : Int) : 0 ≤ rd b i ∧ rd b i ≤ 255 := by
  unfold rd
  rw [List.getD_eq_getElem?_getD]
  by_cases hi : i.toNat < b.length
  · rw [List.getElem?_eq_getElem hi]
    exact h.2 _ (List.getElem_mem hi)
  · rw [List.getElem?_eq_none (by omega)]
    simp
theorem xor_pos (a b : Int) (ha0 : 0 ≤ a) (ha1 : a < 4611686018427387904) (hb0 : 0 ≤ b) (hb1 : b < 4611686018427387904) : 0 ≤ Go.bits .xor .i64 a b := by
  obtain ⟨n, rfl⟩ := Int.eq_ofNat_of_zero_le ha0
  obtain ⟨m, rfl⟩ := Int.eq_ofNat_of_zero_le hb0
  have hn : n < 2 ^ 62 := by omega
  have hm : m < 2 ^ 62 := by omega
  have hx := Nat.xor_lt_two_pow hn hm
  have n64 : n % 2 ^ 64 = n := Nat.mod_eq_of_lt (by omega)
  have m64 : m % 2 ^ 64 = m := Nat.mod_eq_of_lt (by omega)
  have e : Go.bits .xor .i64 (n : Int) (m : Int) = IntKind.i64.wrap ((n ^^^ m : Nat) : Int) := by
    show IntKind.i64.wrap (((BitVec.ofInt 64 (n : Int) ^^^ BitVec.ofInt 64 (m : Int)).toNat : Nat) : Int) = _
    rw [BitVec.ofInt_natCast, BitVec.ofInt_natCast, BitVec.toNat_xor, BitVec.toNat_ofNat, BitVec.toNat_ofNat, n64, m64]
  rw [e, IntKind.wrap_i64]
  omega
theorem spec_pick (b : List Int) (hb : Code b) (p n : Int) (h0 : 0 ≤ p) (h1 : p ≤ 1099511627776) :
    ∃ r, 0 ≤ r ∧ (1 ≤ n → r < n) ∧ (n ≤ 1 → r = 0) ∧ Evn fun k => spec_l20Rd_pick.f k b p n = some (r, p + 1) := by
  have hw : wrap64 (p + 1) = p + 1 := w64 (by omega) (by omega)
  by_cases hn : n < 1
  · refine ⟨0, by omega, by omega, by omega, Evn.succ (Evn.all fun k => ?_)⟩
    unfold spec_l20Rd_pick.f
    rw [if_pos hn, hw]
    simp only [spec_l20Rd_pick.j0]
    rw [if_pos trivial]
  · by_cases hl : b.length = 0
    · refine ⟨0, by omega, by omega, by omega, Evn.succ (Evn.all fun k => ?_)⟩
      unfold spec_l20Rd_pick.f
      rw [if_neg hn, hw, hl]
      simp only [spec_l20Rd_pick.j0]
      rw [if_pos (by rfl)]
    · have hl1 : 1 ≤ (b.length : Int) := by omega
      have hle : ((b.length : Int) == 0) = false := by simpa using hl
      have e1 : wrap64 (p + 1 - 1) = p := by rw [show p + 1 - 1 = p by omega]; exact w64 (by omega) (by omega)
      by_cases hp : p < (b.length : Int)
      · have hr := rd_code hb p
        refine ⟨Int.tmod (rd b p) n, Int.tmod_nonneg n hr.1, fun h => Int.tmod_lt_of_pos _ (by omega), fun h => ?_, Evn.succ (Evn.all fun k => ?_)⟩
        · have : n = 1 := by omega
          subst this
          exact Int.tmod_one _
        · unfold spec_l20Rd_pick.f
          rw [if_neg hn, hw, hle]
          simp only [spec_l20Rd_pick.j0]
          rw [if_neg (by simp), e1, if_pos hp, if_pos h0, if_neg (by omega), w64 (x := rd b p) (by omega) (by omega)]
      · have ei : Int.tmod p (b.length : Int) = p % (b.length : Int) := Int.tmod_eq_emod_of_nonneg h0
        have i0 : 0 ≤ p % (b.length : Int) := Int.emod_nonneg _ (by omega)
        have i1 : p % (b.length : Int) < (b.length : Int) := Int.emod_lt_of_pos _ (by omega)
        have e7 : wrap64 (wrap64 (p * 7) + 3) = p * 7 + 3 := by rw [w64 (x := p * 7) (by omega) (by omega), w64 (by omega) (by omega)]
        have ej : Int.tmod (p * 7 + 3) (b.length : Int) = (p * 7 + 3) % (b.length : Int) := Int.tmod_eq_emod_of_nonneg (by omega)
        have j0 : 0 ≤ (p * 7 + 3) % (b.length : Int) := Int.emod_nonneg _ (by omega)
        have j1 : (p * 7 + 3) % (b.length : Int) < (b.length : Int) := Int.emod_lt_of_pos _ (by omega)
        have eq : Int.tdiv p (b.length : Int) = p / (b.length : Int) := Int.tdiv_eq_ediv_of_nonneg h0
        have q0 : 0 ≤ p / (b.length : Int) := Int.ediv_nonneg h0 (by omega)
        have q1 : p / (b.length : Int) ≤ p := Int.ediv_le_self _ h0
        have hu := rd_code hb (p % (b.length : Int))
        have hv := rd_code hb ((p * 7 + 3) % (b.length : Int))
        have main : ∀ u v q : Int, 0 ≤ u → u ≤ 255 → 0 ≤ v → v ≤ 255 → 0 ≤ q → q ≤ p →
            ∃ x, wrap64 ((wrap64 ((wrap64 ((wrap64 ((wrap64 u) * 131)) + (wrap64 ((wrap64 v) * 1117)))) + (wrap64 (p * 29)))) + (wrap64 ((wrap64 q) * 53))) = x ∧ 0 ≤ x ∧ x < 4611686018427387904 ∧ 0 ≤ wrap64 (Int.tdiv x 64) ∧ wrap64 (Int.tdiv x 64) < 4611686018427387904 := by
          intro u v q u0 u1 v0 v1 q0 q1
          refine ⟨u * 131 + v * 1117 + p * 29 + q * 53, ?_, by omega, by omega, ?_, ?_⟩
          · rw [w64 (x := u) (by omega) (by omega), w64 (x := v) (by omega) (by omega), w64 (x := q) (by omega) (by omega), w64 (x := u * 131) (by omega) (by omega), w64 (x := v * 1117) (by omega) (by omega), w64 (x := p * 29) (by omega) (by omega), w64 (x := q * 53) (by omega) (by omega), w64 (x := u * 131 + v * 1117) (by omega) (by omega), w64 (x := u * 131 + v * 1117 + p * 29) (by omega) (by omega), w64 (by omega) (by omega)]
          all_goals
            rw [Int.tdiv_eq_ediv_of_nonneg (by omega), w64 (by omega) (by omega)]
            omega
        obtain ⟨x, hx, x0, x1, y0, y1⟩ := main _ _ _ hu.1 hu.2 hv.1 hv.2 q0 q1
        refine ⟨Int.tmod (Go.bits .xor .i64 x (wrap64 (Int.tdiv x 64))) n, Int.tmod_nonneg n (xor_pos _ _ x0 x1 y0 y1), fun h => Int.tmod_lt_of_pos _ (by omega), fun h => ?_, Evn.succ (Evn.all fun k => ?_)⟩
        · have : n = 1 := by omega
          subst this
          exact Int.tmod_one _
        · unfold spec_l20Rd_pick.f
          rw [if_neg hn, hw, hle]
          simp only [spec_l20Rd_pick.j0]
          rw [if_neg (by simp), e1, if_neg hp, if_neg (by omega), ei, if_pos i0, if_pos i1, e7, ej, if_pos j0, if_pos j1, if_neg (by omega), eq, hx]
theorem spec_odd (b : List Int) (hb : Code b) (p n : Int) (h0 : 0 ≤ p) (h1 : p ≤ 1099511627776) (hn : n ≤ 1000000) :
    ∃ r q, p ≤ q ∧ q ≤ p + 1 ∧ (n ≤ 0 → r = false) ∧ Evn fun k => spec_l20Rd_odd.f k b p n = some (r, q) := by
  by_cases h : n > 0
  · obtain ⟨r, _, _, _, e⟩ := spec_pick b hb p n h0 h1
    refine ⟨r == wrap64 (n - 1), p + 1, by omega, by omega, by omega, Evn.mp e (Evn.all fun k e => ?_)⟩
    unfold spec_l20Rd_odd.f
    rw [if_pos h, e]
    rfl
  · refine ⟨false, p, by omega, by omega, fun _ => rfl, Evn.all fun k => ?_⟩
    unfold spec_l20Rd_odd.f
    rw [if_neg h]
theorem spec_open (l : List Int) (hl : ∀ x ∈ l, (Lit.int .u8 x).wf = true) : ∃ b, Code b ∧ spec_l20Open.f l = some (b, 0) := by
  have hx : ∀ x ∈ l, 0 ≤ x ∧ x ≤ 255 := fun x hx => by
    have h' : (decide (IntKind.u8.min ≤ x) && decide (x ≤ IntKind.u8.max)) = true := hl x hx
    rw [Bool.and_eq_true, decide_eq_true_eq, decide_eq_true_eq] at h'
    exact h'
  unfold spec_l20Open.f
  by_cases h : (l.length : Int) > 2000
  · refine ⟨l.take 2000, ⟨by rw [List.length_take]; omega, fun x hm => hx x (List.mem_of_mem_take hm)⟩, ?_⟩
    rw [if_pos h, if_pos (by omega)]
  · exact ⟨l, ⟨by omega, hx⟩, by rw [if_neg h]⟩
def Dr {α : Type} (g : Nat → Option (α × Int)) (p c : Int) (P : α → Prop) : Prop := ∃ r q, p ≤ q ∧ q ≤ p + c ∧ P r ∧ Evn fun k => g k = some (r, q)
theorem Dr.bind {α β : Type} {g : Nat → Option (α × Int)} {H : Nat → α × Int → Option (β × Int)} {p c C : Int} {P : α → Prop} {Q : β → Prop}
    (h1 : Dr g p c P) (h2 : ∀ bt : α × Int, P bt.1 → p ≤ bt.2 → bt.2 ≤ p + c → Dr (fun k => H k bt) bt.2 (C - c) Q) : Dr (fun k => (g k).bind (H k)) p C Q := by
  obtain ⟨r, q, hq0, hq1, hr, e⟩ := h1
  obtain ⟨r', q', h0, h1, hr', e'⟩ := h2 (r, q) hr hq0 hq1
  refine ⟨r', q', by simp only at h0; omega, by simp only at h1; omega, hr', Evn.mp e (Evn.mp e' (Evn.all fun k e' e => ?_))⟩
  dsimp only
  rw [e]
  exact e'
theorem Dr.pure {α : Type} {p c : Int} {P : α → Prop} {r : α} (hr : P r) (hc : 0 ≤ c) : Dr (fun _ => some (r, p)) p c P :=
  ⟨r, p, by omega, by omega, hr, Evn.all fun _ => rfl⟩
theorem Dr.ite {α : Type} {g h : Nat → Option (α × Int)} {p c : Int} {P : α → Prop} {b : Prop} [Decidable b] (h1 : b → Dr g p c P) (h2 : ¬ b → Dr h p c P) : Dr (fun k => if b then g k else h k) p c P := by
  by_cases hb : b
  · simpa [hb] using h1 hb
  · simpa [hb] using h2 hb
theorem Dr.run {α β : Type} {g : Nat → Option α} {H : Nat → α → Option (β × Int)} {p c : Int} {Q : β → Prop} {r : α} (h1 : Evn fun k => g k = some r) (h2 : Dr (fun k => H k r) p c Q) : Dr (fun k => (g k).bind (H k)) p c Q := by
  obtain ⟨r', q', h0, h1', hr', e'⟩ := h2
  refine ⟨r', q', h0, h1', hr', Evn.mp h1 (Evn.mp e' (Evn.all fun k e' e => ?_))⟩
  dsimp only
  rw [e]
  exact e'
theorem Dr.le {α : Type} {g : Nat → Option (α × Int)} {p c C : Int} {P Q : α → Prop} (h : Dr g p c P) (hc : c ≤ C) (hp : ∀ r, P r → Q r) : Dr g p C Q := by
  obtain ⟨r, q, h0, h1, hr, e⟩ := h
  exact ⟨r, q, h0, by omega, hp r hr, e⟩
theorem Dr.congr {α : Type} {g h : Nat → Option (α × Int)} {p c : Int} {P : α → Prop} (hg : Dr h p c P) (e : ∀ k, g k = h k) : Dr g p c P := by
  obtain ⟨r, q, h0, h1, hr, e'⟩ := hg
  exact ⟨r, q, h0, h1, hr, Evn.mp e' (Evn.all fun k e' => (e k).trans e')⟩
theorem Dr.succ {α : Type} {g : Nat → Option (α × Int)} {p c : Int} {P : α → Prop} (h : Dr (fun k => g (k + 1)) p c P) : Dr g p c P := by
  obtain ⟨r, q, h0, h1, hr, e⟩ := h
  exact ⟨r, q, h0, h1, hr, Evn.succ e⟩
def InPick (n r : Int) : Prop := 0 ≤ r ∧ (1 ≤ n → r < n) ∧ (n ≤ 1 → r = 0)
theorem dr_pick {b : List Int} (hb : Code b) {p : Int} (n : Int) (h0 : 0 ≤ p) (h1 : p ≤ 1099511627776) : Dr (fun k => spec_l20Rd_pick.f k b p n) p 1 (InPick n) := by
  obtain ⟨r, a, c, d, e⟩ := spec_pick b hb p n h0 h1
  exact ⟨r, p + 1, by omega, by omega, ⟨a, c, d⟩, e⟩
theorem dr_odd {b : List Int} (hb : Code b) {p : Int} (n : Int) (h0 : 0 ≤ p) (h1 : p ≤ 1099511627776) (hn : n ≤ 1000000) : Dr (fun k => spec_l20Rd_odd.f k b p n) p 1 (fun r => n ≤ 0 → r = false) := by
  obtain ⟨r, q, a, c, d, e⟩ := spec_odd b hb p n h0 h1 hn
  exact ⟨r, q, a, c, d, e⟩
def Drw {α : Type} (g : Nat → Option α) (P : α → Prop) : Prop := ∃ r, P r ∧ Evn fun k => g k = some r
theorem Drw.bind {α β : Type} {g : Nat → Option (α × Int)} {H : Nat → α × Int → Option β} {p c : Int} {P : α → Prop} {Q : β → Prop}
    (h1 : Dr g p c P) (h2 : ∀ bt : α × Int, P bt.1 → p ≤ bt.2 → bt.2 ≤ p + c → Drw (fun k => H k bt) Q) : Drw (fun k => (g k).bind (H k)) Q := by
  obtain ⟨r, q, hq0, hq1, hr, e⟩ := h1
  obtain ⟨r', hr', e'⟩ := h2 (r, q) hr hq0 hq1
  refine ⟨r', hr', Evn.mp e (Evn.mp e' (Evn.all fun k e' e => ?_))⟩
  dsimp only
  rw [e]
  exact e'
theorem Drw.pure {α : Type} {P : α → Prop} {r : α} (hr : P r) : Drw (fun _ => some r) P := ⟨r, hr, Evn.all fun _ => rfl⟩
theorem Drw.some_bind {α β : Type} {H : Nat → α → Option β} {Q : β → Prop} {r : α} (h2 : Drw (fun k => H k r) Q) : Drw (fun k => (some r).bind (H k)) Q := h2
def Dp {τ : Type} (pl : τ → Int) (g : Nat → Option τ) (p c : Int) (P : τ → Prop) : Prop := ∃ r, p ≤ pl r ∧ pl r ≤ p + c ∧ P r ∧ Evn fun k => g k = some r
theorem Dr.bindP {α τ : Type} {pl : τ → Int} {g : Nat → Option (α × Int)} {H : Nat → α × Int → Option τ} {p c C : Int} {P : α → Prop} {Q : τ → Prop}
    (h1 : Dr g p c P) (h2 : ∀ bt : α × Int, P bt.1 → p ≤ bt.2 → bt.2 ≤ p + c → Dp pl (fun k => H k bt) bt.2 (C - c) Q) : Dp pl (fun k => (g k).bind (H k)) p C Q := by
  obtain ⟨r, q, hq0, hq1, hr, e⟩ := h1
  obtain ⟨r', h0, h1, hr', e'⟩ := h2 (r, q) hr hq0 hq1
  refine ⟨r', by simp only at h0; omega, by simp only at h1; omega, hr', Evn.mp e (Evn.mp e' (Evn.all fun k e' e => ?_))⟩
  dsimp only
  rw [e]
  exact e'
theorem Dp.bindR {σ β : Type} {pl : σ → Int} {g : Nat → Option σ} {H : Nat → σ → Option (β × Int)} {p c C : Int} {P : σ → Prop} {Q : β → Prop}
    (h1 : Dp pl g p c P) (h2 : ∀ r : σ, P r → p ≤ pl r → pl r ≤ p + c → Dr (fun k => H k r) (pl r) (C - c) Q) : Dr (fun k => (g k).bind (H k)) p C Q := by
  obtain ⟨r, hq0, hq1, hr, e⟩ := h1
  obtain ⟨r', q', h0, h1, hr', e'⟩ := h2 r hr hq0 hq1
  refine ⟨r', q', by omega, by omega, hr', Evn.mp e (Evn.mp e' (Evn.all fun k e' e => ?_))⟩
  dsimp only
  rw [e]
  exact e'
theorem Dp.pure {τ : Type} {pl : τ → Int} {p c : Int} {P : τ → Prop} {r : τ} (hp : pl r = p) (hr : P r) (hc : 0 ≤ c) : Dp pl (fun _ => some r) p c P :=
  ⟨r, by omega, by omega, hr, Evn.all fun _ => rfl⟩
theorem Dp.ite {τ : Type} {pl : τ → Int} {g h : Nat → Option τ} {p c : Int} {P : τ → Prop} {b : Prop} [Decidable b] (h1 : b → Dp pl g p c P) (h2 : ¬ b → Dp pl h p c P) : Dp pl (fun k => if b then g k else h k) p c P := by
  by_cases hb : b
  · simpa [hb] using h1 hb
  · simpa [hb] using h2 hb
theorem Dp.some_bind {α τ : Type} {pl : τ → Int} {H : Nat → α → Option τ} {p c : Int} {Q : τ → Prop} {r : α} (h2 : Dp pl (fun k => H k r) p c Q) : Dp pl (fun k => (some r).bind (H k)) p c Q := h2
def sesPl (r : Int × Int × Int × Int) : Int := r.2.2.2
theorem dr_session {b : List Int} (hb : Code b) {p : Int} (n : Int) (h0 : 0 ≤ p) (h1 : p ≤ 1099511000000) (hn : n ≤ 1000000) :
    Dp sesPl (fun k => spec_l20Session.f k b p n) p 5 (fun r => n ≤ 0 → okS ⟨r.1, r.2.1, r.2.2.1⟩ = true) := by
  unfold spec_l20Session.f
  refine Dr.bindP (dr_odd hb n (by omega) (by omega) hn) fun bt ho _ _ => Dp.ite (fun ht => ?_) (fun _ => ?_)
  · refine Dp.some_bind (Dr.bindP (dr_pick hb 6 (by omega) (by omega)) fun bt2 hr _ _ => ?_)
    refine Dp.ite (fun h0 => Dp.ite (fun h1 => Dp.pure rfl (fun hn0 => ?_) (by omega)) fun h => absurd (hr.2.1 (by omega)) h) fun h => absurd hr.1 h
    rw [ho hn0] at ht
    cases ht
  · refine Dr.bindP (dr_pick hb 4 (by omega) (by omega)) fun bt2 hr2 _ _ => Dr.bindP (dr_pick hb 6 (by omega) (by omega)) fun bt3 hr3 _ _ => Dr.bindP (dr_pick hb 9 (by omega) (by omega)) fun bt4 hr4 _ _ => ?_
    have a := hr2.1
    have c := hr2.2.1 (by omega)
    have d := hr3.1
    have e := hr3.2.1 (by omega)
    have f := hr4.1
    have g := hr4.2.1 (by omega)
    refine Dp.pure rfl (fun _ => ?_) (by omega)
    unfold okS
    dsimp only
    rw [w64 (by omega) (by omega), w64 (by omega) (by omega), decide_eq_true (by omega), decide_eq_true (by omega), decide_eq_true (by omega)]
    rfl
theorem dr_sessionsl {b : List Int} (hb : Code b) (x : Int) (hx : x ≤ 1000000) (m : Nat) : ∀ (l : List S35) (p : Int), 0 ≤ p → p ≤ 1099510000000 - 100 * (m : Int) → m ≤ 100 → l.length + m ≤ 1000 →
    Dr (fun k => spec_l20Sessions.l0 k x l (m : Int) b p) p (10 * (m : Int) + 10) (fun r => r.length ≤ 5000) := by
  induction m with
  | zero =>
    intro l p h0 h1 hm hl
    refine Dr.succ (Dr.congr ?_ fun k => spec_l20Sessions.l0.eq_2 ..)
    refine Dr.ite (fun h => absurd h (by omega)) (fun _ => ?_)
    refine Dr.bind (dr_odd hb x (by omega) (by omega) hx) fun bt _ _ _ => Dr.ite (fun _ => ?_) (fun _ => Dr.pure (by omega) (by omega))
    refine Dr.bind (dr_pick hb 2 (by omega) (by omega)) fun bt2 _ _ _ => Dr.ite (fun _ => ?_) (fun _ => ?_)
    · exact Dr.ite (fun _ => Dr.pure (by rw [List.length_append]; omega) (by omega)) (fun h => absurd h (by omega))
    · refine Dp.bindR (dr_session hb 1 (by omega) (by omega) (by omega)) fun r _ _ _ => ?_
      exact Dr.ite (fun _ => Dr.pure (by rw [List.length_append]; simp only [List.length_cons, List.length_nil]; omega) (by omega)) (fun h => absurd h (by omega))
  | succ m ih =>
    intro l p h0 h1 hm hl
    refine Dr.succ (Dr.congr ?_ fun k => spec_l20Sessions.l0.eq_2 ..)
    refine Dr.ite (fun _ => ?_) (fun h => absurd (show ((m + 1 : Nat) : Int) > 0 by omega) h)
    refine Dp.bindR (dr_session hb 0 (by omega) (by omega) (by omega)) fun r _ _ _ => ?_
    have hpl : sesPl r = r.2.2.2 := rfl
    refine Dr.run (specPut l (by omega) ⟨r.1, r.2.1, r.2.2.1⟩) ?_
    rw [show wrap64 (((m + 1 : Nat) : Int) - 1) = (m : Int) by rw [w64 (by omega) (by omega)]; omega]
    have := putB_length l ⟨r.1, r.2.1, r.2.2.1⟩
    exact Dr.le (ih _ _ (by omega) (by omega) (by omega) (by omega)) (by omega) fun r hr => hr
theorem dr_sessions {b : List Int} (hb : Code b) {p : Int} (n : Int) (h0 : 0 ≤ p) (h1 : p ≤ 1099500000000) (hn : n ≤ 1000000) :
    Dr (fun k => spec_l20Sessions.f k b p n) p 60 (fun r => r.length ≤ 5000) := by
  unfold spec_l20Sessions.f
  refine Dr.bind (dr_pick hb 5 (by omega) (by omega)) fun bt hr _ _ => ?_
  obtain ⟨m, hm⟩ : ∃ m : Nat, bt.1 = (m : Int) := ⟨bt.1.toNat, by have := hr.1; omega⟩
  have := hr.2.1 (by omega)
  rw [hm]
  exact Dr.le (dr_sessionsl hb n hn m [] bt.2 (by omega) (by omega) (by omega) (by simp; omega)) (by omega) fun r hr => hr
theorem alive : Evn fun k => laws_alive.f k = some true := Ev.of laws_alive.mono (k := 12) (by decide +kernel)
theorem seqs_true {x a b : List S35} (hx : x.length ≤ 1099511627776) (ha : a.length ≤ 1099511627776) (hb : b.length ≤ 1099511627776) (h : ∀ i : Nat, i < 4 → seqB x (i : Int) = max (seqB a (i : Int)) (seqB b (i : Int))) : ∀ m : Nat, m ≤ 4 → Evn fun k => laws_FnSessionsJoin.seqs k x a b m = some true
  | 0, _ => Evn.all fun k => rfl
  | m + 1, hm => by
    refine Evn.mp (seqs_true hx ha hb h m (by omega)) (Evn.mp (implSeqN x (m : Int) hx) (Evn.mp (implSeqN a (m : Int) ha) (Evn.mp (implSeqN b (m : Int) hb) (Evn.all fun k e4 e3 e2 e1 => ?_))))
    unfold laws_FnSessionsJoin.seqs
    rw [e2, e3, e4]
    simp only [Option.bind_some]
    rw [if_pos (h m (by omega)), e1]
theorem has_true {a b : List S35} (ha : a.length ≤ 1099511627776) (hb : b.length ≤ 1099511627776) : ∀ x : List S35, (∀ s ∈ x, s ∈ a ∨ s ∈ b) → Evn fun k => laws_FnSessionsJoin.has k a b x = some true
  | [], _ => Evn.all fun k => rfl
  | s :: x, h => by
    have ih := has_true ha hb x fun y hy => h y (List.mem_cons_of_mem _ hy)
    by_cases hm : s ∈ a
    · refine Evn.mp ih (Evn.mp (hasSes ha hm) (Evn.all fun k e2 e1 => ?_))
      unfold laws_FnSessionsJoin.has
      rw [e2]
      simp only [Option.bind_some]
      rw [if_pos trivial, e1]
    · have hm2 : s ∈ b := (h s (by simp)).resolve_left hm
      refine Evn.mp ih (Evn.mp (hasSes_not ha hm) (Evn.mp (hasSes hb hm2) (Evn.all fun k e3 e2 e1 => ?_)))
      unfold laws_FnSessionsJoin.has
      rw [e2]
      simp only [Option.bind_some]
      rw [if_neg (by simp), e3]
      simp only [Option.bind_some]
      rw [if_pos trivial, e1]
theorem judge_true (a b : List S35) (ha : a.length ≤ 900000) (hb : b.length ≤ 900000) : Evn fun k => laws_FnSessionsJoin.judge k a b = some true := by
  by_cases hv : sesB a = true ∧ sesB b = true
  · have ej : joinB a b = joinL a b := by
      unfold joinB
      exact if_pos hv
    have ejs : joinB a a = a := by
      unfold joinB
      rw [if_pos ⟨hv.1, hv.1⟩]
      exact join_same hv.1 a fun s hs => hs
    have hjv : sesB (joinB a b) = true := by rw [ej]; exact joinL_valid b a hv.1 (sesG_ok b none hv.2)
    have hx := sesB_len hjv
    have h1 := implJoin a a (by omega) (by omega)
    rw [ejs] at h1
    refine Evn.mp (implJoin a b (by omega) (by omega)) (Evn.mp (specJoin a b (by omega) (by omega)) (Evn.mp (sameSes_self (joinB a b) (by omega)) (Evn.mp (implSes a (by omega)) (Evn.mp (implSes b (by omega)) ?_))))
    refine Evn.mp (seqs_true (by omega) (by omega) (by omega) (fun i hi => join_seq hv.1 hv.2 (by omega) (by omega)) 4 (Nat.le_refl _)) (Evn.mp (has_true (a := a) (b := b) (by omega) (by omega) (joinB a b) (fun s hs => by rw [ej] at hs; exact join_sub b a hs)) (Evn.mp (implSes (joinB a b) (by omega)) (Evn.mp h1 (Evn.mp (sameSes_self a (by omega)) (Evn.all fun k e10 e9 e8 e7 e6 e5 e4 e3 e2 e1 => ?_)))))
    unfold laws_FnSessionsJoin.judge
    rw [e1, e2]
    simp only [Option.bind_some]
    rw [e3]
    simp only [Option.bind_some]
    rw [if_pos trivial, e4]
    simp only [Option.bind_some]
    rw [if_neg (by simp [hv.1]), e5]
    simp only [Option.bind_some]
    rw [if_neg (by simp [hv.2]), e6, e7, e8, e9]
    simp only [Option.bind_some]
    rw [e10]
    simp only [Option.bind_some]
    rw [if_pos ⟨by omega, hjv, trivial⟩]
  · have ej : joinB a b = [] := by
      unfold joinB
      exact if_neg hv
    have h1 := implJoin a b (by omega) (by omega)
    have h2 := specJoin a b (by omega) (by omega)
    rw [ej] at h1 h2
    refine Evn.mp h1 (Evn.mp h2 (Evn.mp (sameSes_self [] (by simp)) (Evn.mp (implSes a (by omega)) (Evn.mp (implSes b (by omega)) (Evn.mp alive (Evn.all fun k e6 e5 e4 e3 e2 e1 => ?_))))))
    unfold laws_FnSessionsJoin.judge
    rw [e1, e2]
    simp only [Option.bind_some]
    rw [e3]
    simp only [Option.bind_some]
    rw [if_pos trivial, e4]
    simp only [Option.bind_some]
    by_cases va : sesB a = true
    · rw [if_neg (by simp [va]), e5]
      simp only [Option.bind_some]
      rw [if_pos (Bool.eq_false_iff.mpr fun h => hv ⟨va, h⟩), e6]
      simp
    · rw [if_pos (Bool.eq_false_iff.mpr va), e6]
      simp
theorem FnSessionsJoin : FnSessionsJoin.Said := by
  intro l0 hw
  by_cases hl0 : l0.length ≤ 1048576
  · have hD : Drw (fun k => spec_DrawSessionsJoin.f k l0) (fun r : List S35 × List S35 => r.1.length ≤ 5000 ∧ r.2.length ≤ 5000) := by
      obtain ⟨b, hb, eo⟩ := spec_open l0 hw.2
      unfold spec_DrawSessionsJoin.f
      rw [eo]
      refine Drw.some_bind (Drw.bind (dr_sessions hb 12 (Int.le_refl 0) (by omega) (by omega)) fun bt hl _ _ => ?_)
      dsimp only at *
      exact Drw.bind (dr_sessions hb 12 (by omega) (by omega) (by omega)) fun bt2 hl2 _ _ => Drw.pure ⟨hl, hl2⟩
    obtain ⟨⟨a, b⟩, hls, eD⟩ := hD
    dsimp only at eD hls
    refine Evn.some (Evn.mp eD (Evn.mp (judge_true a b (by omega) (by omega)) (Evn.all fun k e2 e1 => ?_)))
    unfold laws_FnSessionsJoin.f
    rw [if_neg (by omega), e1]
    simp only [Option.bind_some]
    exact e2
  · refine ⟨0, ?_⟩
    unfold laws_FnSessionsJoin.f
    rw [if_pos (by omega)]
end Go.Proofs.Ytmljefpcjlelmaa.Pure
