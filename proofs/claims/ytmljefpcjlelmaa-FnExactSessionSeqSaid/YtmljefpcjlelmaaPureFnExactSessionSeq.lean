/- The program's SessionSeq answers as the reference's for every list of sessions and every client, and leaves the list as it was. No condition beyond the row's own. -/
import Derived.Test.YtmljefpcjlelmaaQFnExactSessionSeqall
namespace Go.Proofs.Ytmljefpcjlelmaa.Pure
open Go.RowKit Go.Proofs.Ytmljefpcjlelmaa.PFnExactSessionSeq Go.Proofs.YtmljefpcjlelmaaW.PrintWords Go.Proofs.YtmljefpcjlelmaaW.PrintLast
def FnExactSessionSeq.Said : Prop := ∀ (l0 : (List S32)) (a1 : Int), (l0.length ≤ maxLen ∧ ∀ y ∈ l0, ((Lit.int .i64 y.f0).wf = true) ∧ ((Lit.int .i64 y.f1).wf = true) ∧ ((Lit.int .i64 y.f2).wf = true)) → ((Lit.int .i64 a1).wf = true) → ∃ k, laws_FnExactSessionSeq.f k l0 a1 = some true
end Go.Proofs.Ytmljefpcjlelmaa.Pure
namespace Go.Proofs.Ytmljefpcjlelmaa.Pure
open Go.RowKit Go.Proofs.Ytmljefpcjlelmaa.PFnExactSessionSeq Go.Proofs.YtmljefpcjlelmaaW.PrintWords Go.Proofs.YtmljefpcjlelmaaW.PrintLast
set_option linter.unusedVariables false
set_option linter.unusedSimpArgs false
def Evn (P : Nat → Prop) : Prop := ∃ K, ∀ k, K ≤ k → P k
theorem Evn.all {P : Nat → Prop} (h : ∀ k, P k) : Evn P := ⟨0, fun k _ => h k⟩
theorem Evn.mp {P Q : Nat → Prop} (hp : Evn P) (hq : Evn fun k => P k → Q k) : Evn Q := by
  obtain ⟨K1, h1⟩ := hp
  obtain ⟨K2, h2⟩ := hq
  exact ⟨max K1 K2, fun k hk => h2 k (by omega) (h1 k (by omega))⟩
theorem Evn.succ {P : Nat → Prop} (h : Evn fun k => P (k + 1)) : Evn P := by
  obtain ⟨K, h⟩ := h
  refine ⟨K + 1, fun k hk => ?_⟩
  obtain ⟨m, rfl⟩ : ∃ m, k = m + 1 := ⟨k - 1, by omega⟩
  exact h m (by omega)
theorem Evn.some {P : Nat → Prop} (h : Evn P) : ∃ k, P k := by
  obtain ⟨K, h⟩ := h
  exact ⟨K, h K (Nat.le_refl K)⟩
theorem w64 {x : Int} (h0 : -9223372036854775808 ≤ x) (h1 : x ≤ 9223372036854775807) : wrap64 x = x := by
  unfold wrap64
  omega
def okS (s : S35) : Bool := decide (0 ≤ s.f0 ∧ s.f0 ≤ 3) && (decide (1 ≤ s.f1 ∧ s.f1 ≤ 999) && decide (-2 ≤ s.f2 ∧ s.f2 ≤ 999))
def above (p : Option Int) (c : Int) : Bool := match p with
  | none => true
  | some q => decide (q < c)
def sesG : Option Int → List S35 → Bool
  | _, [] => true
  | p, s :: r => okS s && (above p s.f0 && sesG (some s.f0) r)
def sesB (l : List S35) : Bool := sesG none l
def sesP (l : List S35) (j : Nat) : Option Int := if j = 0 then none else some (l.getD (j - 1) z35).f0
theorem ses_nat {l : List S35} {j : Nat} (h : j < l.length) : rd_T35 l (j : Int) = l[j] := by
  simp [rd_T35, List.getD_eq_getElem?_getD, List.getElem?_eq_getElem h]
theorem ses_drop {l : List S35} {j : Nat} (h : j < l.length) : l.drop j = rd_T35 l (j : Int) :: l.drop (j + 1) := by
  rw [ses_nat h, List.drop_eq_getElem_cons h]
theorem ses_prev (l : List S35) (j : Nat) : sesP l (j + 1) = some (rd_T35 l (j : Int)).f0 := by
  unfold sesP rd_T35
  rw [if_neg (by omega), Int.toNat_natCast, Nat.add_sub_cancel]
def findS : List S35 → Int → S35
  | [], _ => z35
  | s :: r, c => if s.f0 = c then s else findS r c
def seqB (l : List S35) (c : Int) : Int := if sesB l = true ∧ 0 ≤ c ∧ c ≤ 3 then (findS l c).f1 else -1
theorem l1In (a b c : Int) : spec_l1In.f a b c = some (decide (b ≤ a ∧ a ≤ c)) := by
  unfold spec_l1In.f
  by_cases h : a ≥ b
  · rw [if_pos h]
    simp [h]
  · rw [if_neg h]
    simp [h]
theorem specSes_loop (l : List S35) (hn : l.length ≤ 1099511627776) (d : Nat) : ∀ j : Nat, j + d = l.length → Evn fun k => spec_SessionsValid.l0 k l (j : Int) = some (sesG (sesP l j) (l.drop j)) := by
  induction d with
  | zero =>
    intro j hj
    refine Evn.succ (Evn.all fun k => ?_)
    simp only [spec_SessionsValid.l0]
    rw [if_neg (by omega), List.drop_of_length_le (by omega)]
    rfl
  | succ d ih =>
    intro j hj
    have hlt : j < l.length := by omega
    refine Evn.succ (Evn.mp (ih (j + 1) (by omega)) (Evn.all fun k e => ?_))
    rw [ses_drop hlt, ses_prev] at *
    simp only [spec_SessionsValid.l0, l1In, Option.bind_some]
    rw [if_pos (by omega), if_pos (by omega), w64 (x := (j : Int) + 1) (by omega) (by omega), show ((j : Int) + 1) = ((j + 1 : Nat) : Int) by omega, e]
    simp only [sesG]
    unfold okS
    by_cases h0 : 0 ≤ (rd_T35 l (j : Int)).f0 ∧ (rd_T35 l (j : Int)).f0 ≤ 3
    · rw [if_pos (by simpa using h0), decide_eq_true h0]
      by_cases h1 : 1 ≤ (rd_T35 l (j : Int)).f1 ∧ (rd_T35 l (j : Int)).f1 ≤ 999
      · rw [if_pos (by simpa using h1), decide_eq_true h1]
        by_cases h2 : -2 ≤ (rd_T35 l (j : Int)).f2 ∧ (rd_T35 l (j : Int)).f2 ≤ 999
        · rw [if_pos (by simpa using h2), decide_eq_true h2]
          by_cases hj0 : j = 0
          · rw [if_neg (by omega)]
            simp [sesP, hj0, above]
          · obtain ⟨i, rfl⟩ : ∃ i, j = i + 1 := ⟨j - 1, by omega⟩
            rw [if_pos (by omega), w64 (by omega) (by omega), if_pos (by omega), if_pos (by omega), ses_prev, show ((i + 1 : Nat) : Int) - 1 = (i : Int) by omega]
            simp only [above, Bool.true_and]
            by_cases hc : (rd_T35 l ((i + 1 : Nat) : Int)).f0 ≤ (rd_T35 l (i : Int)).f0
            · rw [if_pos hc, decide_eq_false (by omega)]
              rfl
            · rw [if_neg hc, decide_eq_true (by omega)]
              rfl
        · rw [if_neg (by simpa using h2), decide_eq_false h2]
          rfl
      · rw [if_neg (by simpa using h1), decide_eq_false h1]
        rfl
    · rw [if_neg (by simpa using h0), decide_eq_false h0]
      rfl
theorem specSes (l : List S35) (hn : l.length ≤ 1099511627776) : Evn fun k => spec_SessionsValid.f k l = some (sesB l) :=
  Evn.mp (specSes_loop l hn l.length 0 (by omega)) (Evn.all fun k e => by
    unfold spec_SessionsValid.f sesB
    exact e)
theorem specFind_loop (l : List S35) (hn : l.length ≤ 1099511627776) (c : Int) (d : Nat) : ∀ j : Nat, j + d = l.length →
    Evn fun k => spec_l9Find.l0 k l c (j : Int) = some ((findS (l.drop j) c).f0, (findS (l.drop j) c).f1, (findS (l.drop j) c).f2) := by
  induction d with
  | zero =>
    intro j hj
    refine Evn.succ (Evn.all fun k => ?_)
    simp only [spec_l9Find.l0]
    rw [if_neg (by omega), List.drop_of_length_le (by omega)]
    rfl
  | succ d ih =>
    intro j hj
    have hlt : j < l.length := by omega
    refine Evn.succ (Evn.mp (ih (j + 1) (by omega)) (Evn.all fun k e => ?_))
    simp only [spec_l9Find.l0]
    rw [if_pos (by omega), if_pos (by omega), ses_drop hlt]
    simp only [findS]
    by_cases h : (rd_T35 l (j : Int)).f0 = c
    · rw [if_pos h, if_pos h]
    · rw [if_neg h, if_neg h, w64 (by omega) (by omega)]
      exact e
theorem specSeq (l : List S35) (hn : l.length ≤ 1099511627776) (c : Int) : Evn fun k => spec_SessionSeq.f k l c = some (seqB l c) := by
  refine Evn.mp (specSes l hn) (Evn.mp (specFind_loop l hn c l.length 0 (by omega)) (Evn.all fun k e2 e1 => ?_))
  unfold spec_SessionSeq.f seqB spec_l9Find.f
  rw [e1]
  simp only [Option.bind_some]
  cases sesB l with
  | false => simp
  | true =>
    rw [if_pos rfl]
    by_cases h : 0 ≤ c ∧ c ≤ 3
    · rw [if_pos h, if_pos ⟨rfl, h⟩]
      refine (congrArg (fun o => Option.bind o _) e2).trans rfl
    · rw [if_neg h, if_neg (fun q => h q.2)]
theorem implSeqS (x : Int) : impl_seqValid.f x = some (decide (1 ≤ x ∧ x ≤ 999)) := by
  unfold impl_seqValid.f
  by_cases h : x ≥ 1
  · rw [if_pos h]
    exact congrArg some (decide_eq_decide.mpr (by omega))
  · rw [if_neg h, decide_eq_false (by omega)]
theorem implSes_loop (l : List S35) (hn : l.length ≤ 1099511627776) (d : Nat) : ∀ j : Nat, j + d = l.length → Evn fun k => impl_SessionsValid.l0 k l l (l.length : Int) (j : Int) = some (sesG (sesP l j) (l.drop j)) := by
  induction d with
  | zero =>
    intro j hj
    refine Evn.succ (Evn.all fun k => ?_)
    simp only [impl_SessionsValid.l0]
    rw [if_neg (by omega), List.drop_of_length_le (by omega)]
    rfl
  | succ d ih =>
    intro j hj
    have hlt : j < l.length := by omega
    refine Evn.succ (Evn.succ (Evn.mp (ih (j + 1) (by omega)) (Evn.all fun k e => ?_)))
    rw [ses_drop hlt, ses_prev] at *
    have rest : ∀ b, impl_SessionsValid.j1 (k + 1) l (j : Int) l (l.length : Int) (j : Int) b (rd_T35 l (j : Int)).f0 (rd_T35 l (j : Int)).f1 (rd_T35 l (j : Int)).f2
        = some (!b && (above (sesP l j) (rd_T35 l (j : Int)).f0 && sesG (some (rd_T35 l (j : Int)).f0) (l.drop (j + 1)))) := by
      intro b
      simp only [impl_SessionsValid.j1]
      cases b with
      | true => rfl
      | false =>
        rw [if_neg (by simp), w64 (x := (j : Int) + 1) (by omega) (by omega), show ((j : Int) + 1) = ((j + 1 : Nat) : Int) by omega, e]
        by_cases hj0 : j = 0
        · rw [if_neg (by omega)]
          simp [sesP, hj0, above]
        · obtain ⟨i, rfl⟩ : ∃ i, j = i + 1 := ⟨j - 1, by omega⟩
          rw [if_pos (by omega), w64 (by omega) (by omega), if_pos (by omega), if_pos (by omega), ses_prev, show ((i + 1 : Nat) : Int) - 1 = (i : Int) by omega]
          simp only [above]
          by_cases hc : (rd_T35 l (i : Int)).f0 ≥ (rd_T35 l ((i + 1 : Nat) : Int)).f0
          · rw [if_pos hc, decide_eq_false (by omega)]
            rfl
          · rw [if_neg hc, decide_eq_true (by omega)]
            rfl
    simp only [impl_SessionsValid.l0, implSeqS, Option.bind_some, rest]
    rw [if_pos (by omega), if_pos (by omega), if_pos (by omega)]
    simp only [sesG]
    unfold okS
    by_cases h0 : (rd_T35 l (j : Int)).f0 < 0
    · rw [if_pos h0, decide_eq_false (show ¬ (0 ≤ (rd_T35 l (j : Int)).f0 ∧ (rd_T35 l (j : Int)).f0 ≤ 3) by omega)]
      rfl
    · rw [if_neg h0]
      by_cases h4 : (rd_T35 l (j : Int)).f0 ≥ 4
      · rw [if_pos h4, decide_eq_false (show ¬ (0 ≤ (rd_T35 l (j : Int)).f0 ∧ (rd_T35 l (j : Int)).f0 ≤ 3) by omega)]
        rfl
      · rw [if_neg h4, decide_eq_true (show (0 ≤ (rd_T35 l (j : Int)).f0 ∧ (rd_T35 l (j : Int)).f0 ≤ 3) by omega)]
        by_cases h1 : 1 ≤ (rd_T35 l (j : Int)).f1 ∧ (rd_T35 l (j : Int)).f1 ≤ 999
        · rw [decide_eq_true h1, if_pos rfl]
          by_cases h2 : (rd_T35 l (j : Int)).f2 < -2
          · rw [if_pos h2, decide_eq_false (show ¬ (-2 ≤ (rd_T35 l (j : Int)).f2 ∧ (rd_T35 l (j : Int)).f2 ≤ 999) by omega)]
            rfl
          · rw [if_neg h2]
            by_cases h3 : (rd_T35 l (j : Int)).f2 > 999
            · rw [decide_eq_true h3, decide_eq_false (show ¬ (-2 ≤ (rd_T35 l (j : Int)).f2 ∧ (rd_T35 l (j : Int)).f2 ≤ 999) by omega)]
              rfl
            · rw [decide_eq_false h3, decide_eq_true (show (-2 ≤ (rd_T35 l (j : Int)).f2 ∧ (rd_T35 l (j : Int)).f2 ≤ 999) by omega)]
              simp
        · rw [decide_eq_false h1, if_neg (by simp)]
          rfl
theorem implSes (l : List S35) (hn : l.length ≤ 1099511627776) : Evn fun k => impl_SessionsValid.f k l = some (sesB l) :=
  Evn.mp (implSes_loop l hn l.length 0 (by omega)) (Evn.all fun k e => by
    unfold impl_SessionsValid.f sesB
    exact e)
theorem sesG_len (l : List S35) : ∀ q : Int, sesG (some q) l = true → (l.length : Int) + q ≤ 3 ∨ l = [] := by
  induction l with
  | nil => intro q _; exact .inr rfl
  | cons s r ih =>
    intro q h
    simp only [sesG, Bool.and_eq_true] at h
    obtain ⟨h1, h2, h3⟩ := h
    unfold okS at h1
    rw [Bool.and_eq_true, decide_eq_true_eq] at h1
    have hq : q < s.f0 := by simpa [above] using h2
    left
    simp only [List.length_cons]
    rcases ih s.f0 h3 with hr | rfl
    · omega
    · simp only [List.length_nil]
      omega
theorem sesB_len {l : List S35} (h : sesB l = true) : l.length ≤ 4 := by
  cases l with
  | nil => simp
  | cons s r =>
    unfold sesB at h
    simp only [sesG, Bool.and_eq_true] at h
    obtain ⟨h1, _, h3⟩ := h
    unfold okS at h1
    rw [Bool.and_eq_true, decide_eq_true_eq] at h1
    simp only [List.length_cons]
    rcases sesG_len r s.f0 h3 with hr | rfl
    · omega
    · simp
theorem sesG_all (l : List S35) : ∀ q : Int, sesG (some q) l = true → ∀ x ∈ l, q < x.f0 := by
  induction l with
  | nil => intro q _ x hx; cases hx
  | cons s r ih =>
    intro q h x hx
    simp only [sesG, Bool.and_eq_true] at h
    have h1 : q < s.f0 := by simpa [above] using h.2.1
    rcases List.mem_cons.mp hx with rfl | hx
    · exact h1
    · exact Int.lt_trans h1 (ih s.f0 h.2.2 x hx)
theorem sesG_order (l : List S35) : ∀ p : Option Int, sesG p l = true → l.Pairwise (fun a b => a.f0 < b.f0) := by
  induction l with
  | nil => intro p _; exact List.Pairwise.nil
  | cons s r ih =>
    intro p h
    simp only [sesG, Bool.and_eq_true] at h
    exact List.Pairwise.cons (sesG_all r s.f0 h.2.2) (ih _ h.2.2)
theorem find_none (c : Int) : ∀ l : List S35, (∀ x ∈ l, x.f0 ≠ c) → findS l c = z35
  | [], _ => rfl
  | s :: r, h => by
    rw [findS, if_neg (h s (by simp))]
    exact find_none c r fun x hx => h x (List.mem_cons_of_mem _ hx)
theorem find_at (c : Int) : ∀ (l : List S35) (R : Nat) (hR : R < l.length), (∀ i (hi : i < R), (l[i]'(by omega)).f0 ≠ c) → l[R].f0 = c → findS l c = l[R]
  | s :: r, 0, _, _, h => by
    have h' : s.f0 = c := h
    rw [findS, if_pos h']
    rfl
  | s :: r, R + 1, hR, hb, h => by
    have h0 := hb 0 (by omega)
    simp only [List.getElem_cons_zero] at h0
    rw [findS, if_neg h0]
    have := find_at c r R (by simpa using hR) (fun i hi => by have := hb (i + 1) (by omega); simpa using this) (by simpa using h)
    simpa using this
theorem placeOf_spec {l : List S35} (ho : l.Pairwise (fun a b => a.f0 < b.f0)) (c : Int) : ∀ (d lo hi : Nat), lo ≤ hi → hi ≤ l.length → hi - lo ≤ d →
    (∀ i (h : i < l.length), i < lo → l[i].f0 < c) → (∀ i (h : i < l.length), hi ≤ i → c ≤ l[i].f0) →
    placeOf l c d lo hi ≤ l.length ∧ (∀ i (h : i < l.length), i < placeOf l c d lo hi → l[i].f0 < c) ∧ (∀ i (h : i < l.length), placeOf l c d lo hi ≤ i → c ≤ l[i].f0)
  | 0, lo, hi, h1, h2, h3, h4, h5 => by
    obtain rfl : lo = hi := by omega
    exact ⟨h2, h4, h5⟩
  | d + 1, lo, hi, h1, h2, h3, h4, h5 => by
    rw [placeOf]
    by_cases hlt : lo < hi
    · rw [if_pos hlt]
      have hm : (lo + hi) / 2 < l.length := by omega
      rw [ses_nat hm]
      have hord : ∀ i j (hi : i < l.length) (hj : j < l.length), i < j → l[i].f0 < l[j].f0 := fun i j hi hj hij => List.pairwise_iff_getElem.mp ho i j hi hj hij
      by_cases hc : (l[(lo + hi) / 2]'hm).f0 < c
      · rw [if_pos hc]
        refine placeOf_spec ho c d _ _ (by omega) h2 (by omega) (fun i hil hlo => ?_) h5
        rcases Nat.lt_or_eq_of_le (show i ≤ (lo + hi) / 2 by omega) with h | h
        · exact Int.lt_trans (hord i _ hil hm h) hc
        · subst h; exact hc
      · rw [if_neg hc]
        refine placeOf_spec ho c d _ _ (by omega) (by omega) (by omega) h4 (fun i hil hlo => ?_)
        rcases Nat.lt_or_eq_of_le (show (lo + hi) / 2 ≤ i by omega) with h | h
        · have := hord _ i hm hil h
          omega
        · subst h; omega
    · rw [if_neg hlt]
      obtain rfl : lo = hi := by omega
      exact ⟨h2, h4, h5⟩
theorem placeOf_find {l : List S35} (h : sesB l = true) (c : Int) : (if hitOf l c = true then (rd_T35 l ((placeOf l c l.length 0 l.length : Nat) : Int)).f1 else 0) = (findS l c).f1 := by
  obtain ⟨h1, h2, h3⟩ := placeOf_spec (sesG_order l none h) c l.length 0 l.length (Nat.zero_le _) (Nat.le_refl _) (by omega) (fun i _ hi => absurd hi (Nat.not_lt_zero _)) (fun i hil hi => by omega)
  unfold hitOf
  generalize placeOf l c l.length 0 l.length = R at h1 h2 h3 ⊢
  by_cases hR : R < l.length
  · rw [decide_eq_true hR, ses_nat hR]
    by_cases hc : l[R].f0 = c
    · rw [decide_eq_true hc, find_at c l R hR (fun i hi => by have := h2 i (by omega) hi; omega) hc]
      rfl
    · rw [decide_eq_false hc, find_none c l fun x hx => ?_]
      · rfl
      · obtain ⟨i, hi, rfl⟩ := List.getElem_of_mem hx
        by_cases hlt : i < R
        · have := h2 i hi hlt; omega
        · have a := h3 R hR (Nat.le_refl _)
          rcases Nat.lt_or_eq_of_le (show R ≤ i by omega) with h' | h'
          · have := List.pairwise_iff_getElem.mp (sesG_order l none h) R i hR hi h'
            omega
          · subst h'; exact hc
  · rw [decide_eq_false hR, find_none c l fun x hx => ?_]
    · rfl
    · obtain ⟨i, hi, rfl⟩ := List.getElem_of_mem hx
      have := h2 i hi (by omega)
      omega
theorem implSeqN (l : List S35) (c : Int) (hn : l.length ≤ 1099511627776) : Evn fun k => impl_SessionSeq.f k l c = some (seqB l c) := by
  refine Evn.mp (implSes l hn) (Evn.all fun k e => ?_)
  unfold impl_SessionSeq.f seqB
  rw [e]
  simp only [Option.bind_some]
  by_cases hv : sesB l = true
  · by_cases hc : 0 ≤ c ∧ c ≤ 3
    · have h4 := sesB_len hv
      have hf := placeOf_find hv c
      rw [if_pos (⟨hv, hc⟩ : sesB l = true ∧ 0 ≤ c ∧ c ≤ 3), if_neg (by simp only [hv]; simp; omega), if_pos (by omega), ← hf]
      by_cases hh : hitOf l c = true
      · rw [if_pos hh, if_pos hh]
      · rw [if_neg hh, if_neg hh]
    · rw [if_pos (by omega), if_neg (by intro h; exact hc h.2)]
  · rw [if_pos (.inl (Bool.eq_false_iff.mpr hv)), if_neg (by intro h; exact hv h.1)]
def sesOf (x : S32) : S35 := ⟨x.f0, x.f1, x.f2⟩
theorem lses_nat {l : List S32} {j : Nat} (h : j < l.length) : rd_T32 l (j : Int) = l[j] := by
  simp [rd_T32, List.getD_eq_getElem?_getD, List.getElem?_eq_getElem h]
theorem toSes_loop (xs : List S32) (hn : xs.length ≤ 1048576) (d : Nat) : ∀ (j : Nat) (ys : List S35), j + d = xs.length → ys.length = xs.length → ys.take j = (xs.map sesOf).take j →
    Evn fun k => laws_toSessionS.l0 k xs ys (j : Int) = some (xs.map sesOf) := by
  induction d with
  | zero =>
    intro j ys hj hl ht
    refine Evn.succ (Evn.all fun k => ?_)
    simp only [laws_toSessionS.l0]
    rw [if_neg (by omega)]
    rw [List.take_of_length_le (by omega), List.take_of_length_le (by rw [List.length_map]; omega)] at ht
    rw [ht]
  | succ d ih =>
    intro j ys hj hl ht
    have hlt : j < xs.length := by omega
    refine Evn.succ (Evn.mp (ih (j + 1) (ys.set j (sesOf (rd_T32 xs (j : Int)))) (by omega) (by simpa using hl) ?_) (Evn.all fun k e => ?_))
    · rw [lses_nat hlt, List.take_succ_eq_append_getElem (by simp; omega), List.take_succ_eq_append_getElem (by simp; omega), ← ht]
      simp [List.take_set_of_le]
    · simp only [laws_toSessionS.l0, laws_toSession.f, Option.bind_some]
      rw [if_pos (by omega), if_pos (by omega), if_pos (by omega), w64 (by omega) (by omega)]
      exact e
theorem toSes (xs : List S32) (hn : xs.length ≤ 1048576) : Evn fun k => laws_toSessionS.f k xs = some (xs.map sesOf) := by
  refine Evn.mp (toSes_loop xs hn xs.length 0 (List.replicate xs.length z35) (by omega) (by simp) (by simp)) (Evn.all fun k e => ?_)
  unfold laws_toSessionS.f
  rw [if_pos (by omega), if_pos (by omega)]
  exact e
theorem eqSes_loop (xs : List S35) (hn : xs.length ≤ 1099511627776) (d : Nat) : ∀ (j : Nat), j + d = xs.length → Evn fun k => laws_eqSessionS.l0 k xs xs (j : Int) = some true := by
  induction d with
  | zero =>
    intro j hj
    refine Evn.succ (Evn.all fun k => ?_)
    simp only [laws_eqSessionS.l0]
    rw [if_neg (by omega)]
  | succ d ih =>
    intro j hj
    refine Evn.succ (Evn.mp (ih (j + 1) (by omega)) (Evn.all fun k e => ?_))
    simp only [laws_eqSessionS.l0, laws_eqSession.f, if_true, Option.bind_some]
    rw [if_pos (by omega), if_pos (by omega), if_pos (by omega), w64 (by omega) (by omega)]
    exact e
theorem eqSes_self (xs : List S35) (hn : xs.length ≤ 1099511627776) : Evn fun k => laws_eqSessionS.f k xs xs = some true :=
  Evn.mp (eqSes_loop xs hn xs.length 0 (by omega)) (Evn.all fun k e => by
    unfold laws_eqSessionS.f
    rw [if_pos rfl]
    exact e)
theorem szSes (l : List S32) (hl : l.length ≤ 9223372036854775807) (left : Int) (h0 : 0 ≤ left) (h1 : left ≤ 1048576) :
    laws_szSessionS.f l left = some (-1) ∨ (laws_szSessionS.f l left = some (left - (l.length : Int)) ∧ (l.length : Int) ≤ left) := by
  unfold laws_szSessionS.f
  rw [w64 (by omega) (by omega)]
  by_cases h : left - (l.length : Int) < 0
  · rw [if_pos h]
    exact .inl rfl
  · rw [if_neg h]
    exact .inr ⟨rfl, by omega⟩
theorem FnExactSessionSeq : FnExactSessionSeq.Said := by
  intro l c hl hc
  refine Evn.some ?_
  rcases szSes l (by have := hl.1; unfold maxLen at this; omega) 1048576 (by omega) (by omega) with h | ⟨h, hn⟩
  · refine Evn.all fun k => ?_
    unfold laws_FnExactSessionSeq.f
    rw [h]
    rfl
  · have hm : (l.map sesOf).length ≤ 1099511627776 := by rw [List.length_map]; omega
    refine Evn.mp (toSes l (by omega)) (Evn.mp (specSeq _ hm c) (Evn.mp (implSeqN _ c hm) (Evn.mp (eqSes_self _ hm) (Evn.all fun k e4 e3 e2 e1 => ?_))))
    unfold laws_FnExactSessionSeq.f
    rw [h]
    simp only [Option.bind_some]
    rw [if_neg (by omega), e1]
    simp only [Option.bind_some]
    rw [e2, e3]
    simp only [Option.bind_some]
    rw [e4]
    simp
end Go.Proofs.Ytmljefpcjlelmaa.Pure
