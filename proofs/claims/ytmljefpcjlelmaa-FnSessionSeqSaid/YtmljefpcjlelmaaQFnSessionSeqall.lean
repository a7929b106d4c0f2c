/- The place of a client among sessions: slices.BinarySearchFunc at sessions, cmp.Compare and impl.sessionPlace, walked by hand (the print takes no function value). impl_SessionSeq by hand (it calls what the print does not take): the number of a client's session. laws_FnSessionSeq by hand (it calls what the print does not take): the ways on which the law answers true. -/
import Derived.Test.YtmljefpcjlelmaaPFnSessionSeqx0
import Derived.Test.YtmljefpcjlelmaaPFnSessionSeqx13
import Derived.Test.YtmljefpcjlelmaaPFnSessionSeqx20
import Derived.Test.YtmljefpcjlelmaaPFnSessionSeqx4
import Derived.Test.YtmljefpcjlelmaaPFnSessionSeqx6
namespace Go.Proofs.Ytmljefpcjlelmaa.PFnSessionSeq
open Go.RowKit Go.Proofs.YtmljefpcjlelmaaW.PrintWords Go.Proofs.YtmljefpcjlelmaaW.PrintLast Go.Proofs.YtmljefpcjlelmaaW.PrintMore
set_option linter.unusedVariables false
set_option linter.unusedSimpArgs false

def cmpI (x y : Int) : Int := if x < y then -1 else if x > y then 1 else 0
theorem cmp_isNaN.calls (x : Int) (w : World) : Calls Try.prog 64 #[.int .i64 x] w fun e w' => e = .returned (.bool false) ∧ Below w.heap.size w w' := by
  go_enter Try.func64, Try.ntmps64
  go_wp2
  go_ret
  exact ⟨by simp, Below.refl _ _⟩
set_option maxHeartbeats 1000000 in
theorem cmp_Compare.calls (x y : Int) (w : World) : Calls Try.prog 60 #[.int .i64 x, .int .i64 y] w fun e w' => e = .returned (.int .i64 (cmpI x y)) ∧ Below w.heap.size w w' := by
  unfold cmpI
  by_cases h1 : x < y
  · have d1 : decide (x < y) = true := decide_eq_true h1
    rw [if_pos h1]
    clear h1
    go_enter Try.func60, Try.ntmps60
    go_wp2_with (first
      | (go_at_call 64; (with_reducible refine (cmp_isNaN.calls x w).mono ?_); rintro e w1 ⟨rfl, hb⟩; have B1 := Aside0.mk hb; clear hb)
      | (go_at_call 64; (with_reducible refine (cmp_isNaN.calls y w1).mono ?_); rintro e w2 ⟨rfl, hb⟩; have B2 := Aside0.mk (below_step B1.out hb); clear hb))
    go_ret
    exact ⟨rfl, B2.out⟩
  · have d1 : decide (x < y) = false := decide_eq_false h1
    rw [if_neg h1]
    by_cases h2 : x > y
    · have d2 : decide (x > y) = true := decide_eq_true h2
      rw [if_pos h2]
      clear h1 h2
      go_enter Try.func60, Try.ntmps60
      go_wp2_with (first
        | (go_at_call 64; (with_reducible refine (cmp_isNaN.calls x w).mono ?_); rintro e w1 ⟨rfl, hb⟩; have B1 := Aside0.mk hb; clear hb)
        | (go_at_call 64; (with_reducible refine (cmp_isNaN.calls y w1).mono ?_); rintro e w2 ⟨rfl, hb⟩; have B2 := Aside0.mk (below_step B1.out hb); clear hb))
      go_ret
      exact ⟨rfl, B2.out⟩
    · have d2 : decide (x > y) = false := decide_eq_false h2
      rw [if_neg h2]
      clear h1 h2
      go_enter Try.func60, Try.ntmps60
      go_wp2_with (first
        | (go_at_call 64; (with_reducible refine (cmp_isNaN.calls x w).mono ?_); rintro e w1 ⟨rfl, hb⟩; have B1 := Aside0.mk hb; clear hb)
        | (go_at_call 64; (with_reducible refine (cmp_isNaN.calls y w1).mono ?_); rintro e w2 ⟨rfl, hb⟩; have B2 := Aside0.mk (below_step B1.out hb); clear hb))
      go_ret
      exact ⟨rfl, B2.out⟩

set_option maxHeartbeats 1000000 in
theorem impl_sessionPlace1.calls (s : S35) (c : Int) (w : World) : Calls Try.prog 59 #[.agg #[.int .i64 s.f0, .int .i64 s.f1, .int .i64 s.f2], .int .i64 c] w fun e w' => e = .returned (.int .i64 (cmpI s.f0 c)) ∧ Below w.heap.size w w' := by
  have hu := Try.underlying35
  go_enter Try.func59, Try.ntmps59
  go_wp2_with (first
    | ((with_reducible refine gate_dst (N := 2) rfl ?_); refine box_event ?hg (N := 2) ?hd (cs := #[.int .i64 s.f0, .int .i64 s.f1, .int .i64 s.f2]) (t := 35) ?hr ?_; (case hd => rfl); (case hg => rfl); (case hr => first | (go_simp; done) | (go_simp; rfl)); intro g hg w1 hc hb; have B1 := Aside0.mk hb; have c0 : w1.cell? ⟨g, 0, none⟩ = some (.int .i64 s.f0) := (blk_cell hc 0).trans rfl; clear hc hb hg)
    | (go_at_call 60; (with_reducible refine (cmp_Compare.calls s.f0 c w1).mono ?_); rintro e w2 ⟨rfl, hb⟩; have B2 := Aside0.mk (below_step B1.out hb); clear hb))
  go_ret
  exact ⟨rfl, B2.out⟩

/-- where the client is, or were, among lo .. hi -/
def placeOf (l : List S35) (c : Int) : Nat → Nat → Nat → Nat
  | 0, lo, _ => lo
  | d + 1, lo, hi => if lo < hi then (if (rd_T35 l (((lo + hi) / 2 : Nat) : Int)).f0 < c then placeOf l c d ((lo + hi) / 2 + 1) hi else placeOf l c d lo ((lo + hi) / 2)) else lo
theorem cmpI_neg (x c : Int) : decide (cmpI x c < 0) = decide (x < c) := by
  unfold cmpI
  by_cases h : x < c
  · simp [h]
  · by_cases h2 : x > c <;> simp [h, h2]
theorem cmpI_zero (x c : Int) : (cmpI x c == 0) = decide (x = c) := by
  unfold cmpI
  by_cases h : x < c
  · rw [if_pos h, decide_eq_false (by omega)]
    rfl
  · by_cases h2 : x > c
    · rw [if_neg h, if_pos h2, decide_eq_false (by omega)]
      rfl
    · rw [if_neg h, if_neg h2, decide_eq_true (by omega)]
      rfl
def hitOf (l : List S35) (c : Int) : Bool := decide (placeOf l c l.length 0 l.length < l.length) && decide ((rd_T35 l ((placeOf l c l.length 0 l.length : Nat) : Int)).f0 = c)

set_option maxHeartbeats 4000000 in
set_option maxRecDepth 100000 in
theorem slices_BinarySearchFunc.calls (A0 : Option Addr) (c0 : Nat) (l : List S35) (c : Int) (w : World) (hr0 : Kd.C k35 w A0 l.length l) (hc0 : l.length ≤ c0) (hsz : l.length < 4611686018427387904) :
    Calls Try.prog 58 #[.slice A0 l.length c0, .int .i64 c, .func (.func 59) #[] #[]] w fun e w' =>
      e = .returned (.tuple #[.int .i64 ((placeOf l c l.length 0 l.length : Nat) : Int), .bool (hitOf l c)]) ∧ Below w.heap.size w w' := by
  have HR0 := Aside0.mk hr0
  clear hr0
  have hu := Try.underlying35
  generalize hR : placeOf l c l.length 0 l.length = R
  have HT := Aside0.mk (show hitOf l c = (decide (R < l.length) && decide ((rd_T35 l ((R : Nat) : Int)).f0 = c)) by unfold hitOf; rw [hR])
  have PR := Aside0.mk hR
  clear hR
  go_enter Try.func58, Try.ntmps58
  go_wp2
  go_loopg [9, 10] l.length (fun kx s9 s10 wr => ∃ lo hi : Nat, s9 = .int .i64 lo ∧ s10 = .int .i64 hi ∧ lo ≤ hi ∧ hi ≤ l.length ∧ hi - lo ≤ kx ∧ Aside0 (Below w.heap.size w wr) ∧ Aside0 (placeOf l c kx lo hi = R))
  case atStart => exact ⟨0, l.length, rfl, rfl, Nat.zero_le _, Nat.le_refl _, by omega, ⟨Below.refl _ _⟩, PR⟩
  case round =>
    clear PR
    obtain ⟨lo, hi, rfl, rfl, hlh, hin, hg, BW, PW⟩ := hrel
    by_cases hlt : lo < hi
    · obtain ⟨d, rfl⟩ : ∃ d, gk = d + 1 := ⟨gk - 1, by omega⟩
      have hp := PW.out
      simp only [placeOf] at hp
      rw [if_pos hlt] at hp
      obtain ⟨ad, hA, x0, x1, x2⟩ := at_T35 (Kd.C_below HR0.out BW.out) (((lo + hi) / 2 : Nat) : Int) (by omega) (by omega)
      subst hA
      generalize hy : rd_T35 l (((lo + hi) / 2 : Nat) : Int) = y at x0 x1 x2 hp
      rw [Int.toNat_natCast] at x0 x1 x2
      clear hy
      by_cases hyx : y.f0 < c
      · rw [if_pos hyx] at hp
        have P2 := Aside0.mk hp
        have dc : decide (cmpI y.f0 c < 0) = true := (cmpI_neg _ _).trans (decide_eq_true hyx)
        clear PW hp hyx
        go_wp2_with (go_at_call 59; (with_reducible refine (impl_sessionPlace1.calls y c wr).mono ?_); rintro e w1 ⟨rfl, hb⟩; have B1 := Aside0.mk (below_step BW.out hb); clear hb)
        go_roundg d
        case measure => omega
        case rel => exact ⟨(lo + hi) / 2 + 1, hi, by rw [show ((lo : Int) + (hi : Int)) / 2 + 1 = (((lo + hi) / 2 + 1 : Nat) : Int) by omega], rfl, by omega, hin, by omega, B1, P2⟩
      · rw [if_neg hyx] at hp
        have P2 := Aside0.mk hp
        have dc : decide (cmpI y.f0 c < 0) = false := (cmpI_neg _ _).trans (decide_eq_false hyx)
        clear PW hp hyx
        go_wp2_with (go_at_call 59; (with_reducible refine (impl_sessionPlace1.calls y c wr).mono ?_); rintro e w1 ⟨rfl, hb⟩; have B1 := Aside0.mk (below_step BW.out hb); clear hb)
        go_roundg d
        case measure => omega
        case rel => exact ⟨lo, (lo + hi) / 2, rfl, by rw [show ((lo : Int) + (hi : Int)) / 2 = (((lo + hi) / 2 : Nat) : Int) by omega], by omega, by omega, by omega, B1, P2⟩
    · obtain rfl : R = lo := by
        rw [← PW.out]
        cases gk with
        | zero => rfl
        | succ d => simp only [placeOf]; rw [if_neg hlt]
      by_cases hn : R < l.length
      · obtain ⟨ad, hA, x0, x1, x2⟩ := at_T35 (Kd.C_below HR0.out BW.out) (R : Int) (by omega) (by omega)
        subst hA
        generalize hy : rd_T35 l (R : Int) = y at x0 x1 x2 HT
        rw [Int.toNat_natCast] at x0 x1 x2
        clear hy PW
        go_wp2_with (go_at_call 59; (with_reducible refine (impl_sessionPlace1.calls y c wr).mono ?_); rintro e w1 ⟨rfl, hb⟩; have B1 := Aside0.mk (below_step BW.out hb); clear hb)
        go_ret2
        refine ⟨?_, B1.out⟩
        rw [HT.out, decide_eq_true hn, ← cmpI_zero]
        rfl
      · clear PW
        go_wp2
        go_ret2
        refine ⟨?_, BW.out⟩
        rw [HT.out, decide_eq_false hn]
        rfl

theorem impl_sessionPlace.calls (A0 : Option Addr) (c0 : Nat) (l : List S35) (c : Int) (w : World) (hr0 : Kd.C k35 w A0 l.length l) (hc0 : l.length ≤ c0) (hsz : l.length < 4611686018427387904) :
    Calls Try.prog 42 #[.slice A0 l.length c0, .int .i64 c] w fun e w' => e = .returned (.tuple #[.int .i64 ((placeOf l c l.length 0 l.length : Nat) : Int), .bool (hitOf l c)]) ∧ Below w.heap.size w w' := by
  have h := slices_BinarySearchFunc.calls A0 c0 l c w hr0 hc0 hsz
  go_enter Try.func42, Try.ntmps42
  go_wp2_with (go_at_call 58; (with_reducible refine h.mono ?_); rintro e w1 ⟨rfl, hb⟩; have B1 := Aside0.mk hb; clear hb)
  go_ret2
  exact ⟨rfl, B1.out⟩



def impl_SessionSeq.f (k : Nat) (l : List S35) (c : Int) : Option Int :=
  (impl_SessionsValid.f k l).bind fun q => if q = false ∨ c < 0 ∨ c ≥ 4 then some (-1)
    else if l.length ≤ 1000000 then (if hitOf l c = true then some (rd_T35 l ((placeOf l c l.length 0 l.length : Nat) : Int)).f1 else some 0) else none
theorem impl_SessionSeq.mono : ∀ a0 a1 k, LeO (impl_SessionSeq.f k a0 a1) (impl_SessionSeq.f (k + 1) a0 a1) := by
  intro a0 a1 k
  unfold impl_SessionSeq.f
  exact LeO.bind (impl_SessionsValid.mono _ _) fun _ => LeO.refl _

set_option maxHeartbeats 2000000 in
set_option maxRecDepth 100000 in
theorem impl_SessionSeq.calls (k : Nat) (A0 : Option Addr) (c0 : Nat) (l0 : List S35) (a1 : Int) (r : Int) (w : World) (hr0 : Kd.C k35 w A0 l0.length l0) (hc0 : l0.length ≤ c0) (h : impl_SessionSeq.f k l0 a1 = some r) :
    Calls Try.prog 18 #[.slice A0 l0.length c0, .int .i64 a1] w fun e w' => e = .returned (.int .i64 r) ∧ Below w.heap.size w w' := by
  have hu := Try.underlying35
  have HR0 := Aside0.mk hr0
  have HC0 := Aside0.mk hc0
  clear hr0 hc0
  unfold impl_SessionSeq.f at h
  replace h := Option.bind_eq_some_iff.mp h
  obtain ⟨q, hq, h⟩ := h
  have Q := Aside0.mk hq
  clear hq
  cases q with
  | false =>
    rw [if_pos (.inl rfl)] at h
    obtain rfl := Option.some.inj h
    clear h
    go_enter Try.func18, Try.ntmps18
    go_wp2_with (go_at_call 15; (with_reducible refine (impl_SessionsValid.calls k _ _ l0 false w HR0.out HC0.out Q.out).mono ?_); rintro e w1 ⟨rfl, hb⟩; have B1 := Aside0.mk hb; clear hb)
    go_ret
    exact ⟨rfl, B1.out⟩
  | true =>
    by_cases h1 : a1 < 0
    · rw [if_pos (.inr (.inl h1))] at h
      obtain rfl := Option.some.inj h
      have d1 : decide (a1 < 0) = true := decide_eq_true h1
      clear h h1
      go_enter Try.func18, Try.ntmps18
      go_wp2_with (go_at_call 15; (with_reducible refine (impl_SessionsValid.calls k _ _ l0 true w HR0.out HC0.out Q.out).mono ?_); rintro e w1 ⟨rfl, hb⟩; have B1 := Aside0.mk hb; clear hb)
      go_ret
      exact ⟨rfl, B1.out⟩
    · have d1 : decide (a1 < 0) = false := decide_eq_false h1
      by_cases h2 : a1 ≥ 4
      · rw [if_pos (.inr (.inr h2))] at h
        obtain rfl := Option.some.inj h
        have d2 : decide (a1 ≥ 4) = true := decide_eq_true h2
        clear h h1 h2
        go_enter Try.func18, Try.ntmps18
        go_wp2_with (go_at_call 15; (with_reducible refine (impl_SessionsValid.calls k _ _ l0 true w HR0.out HC0.out Q.out).mono ?_); rintro e w1 ⟨rfl, hb⟩; have B1 := Aside0.mk hb; clear hb)
        go_ret
        exact ⟨rfl, B1.out⟩
      · have d2 : decide (a1 ≥ 4) = false := decide_eq_false h2
        rw [if_neg (by simp [h1, h2])] at h
        by_cases hs : l0.length ≤ 1000000
        · rw [if_pos hs] at h
          have SZ := Aside0.mk hs
          clear hs h1 h2
          cases hh : hitOf l0 a1 with
          | false =>
            rw [hh, if_neg (by simp)] at h
            obtain rfl := Option.some.inj h
            have HH := Aside0.mk hh
            clear h hh
            go_enter Try.func18, Try.ntmps18
            go_wp2_with (first
              | (go_at_call 15; (with_reducible refine (impl_SessionsValid.calls k _ _ l0 true w HR0.out HC0.out Q.out).mono ?_); rintro e w1 ⟨rfl, hb⟩; have B1 := Aside0.mk hb; clear hb)
              | (go_at_call 42; (with_reducible refine (impl_sessionPlace.calls _ _ l0 a1 w1 ?side1 HC0.out ?side2).mono ?_); (case side1 => exact Kd.C_below HR0.out B1.out); (case side2 => have := SZ.out; omega); rw [HH.out]; rintro e w2 ⟨rfl, hb⟩; have B2 := Aside0.mk (below_step B1.out hb); clear hb))
            go_ret
            exact ⟨rfl, B2.out⟩
          | true =>
            rw [hh, if_pos rfl] at h
            obtain rfl := Option.some.inj h
            have HH := Aside0.mk hh
            have hp : placeOf l0 a1 l0.length 0 l0.length < l0.length := by
              unfold hitOf at hh
              rw [Bool.and_eq_true, decide_eq_true_eq] at hh
              exact hh.1
            clear h hh
            generalize hR : placeOf l0 a1 l0.length 0 l0.length = R at hp ⊢
            have PR := Aside0.mk hR
            have HP := Aside0.mk hp
            clear hR
            go_enter Try.func18, Try.ntmps18
            go_wp2_with (first
              | (go_at_call 15; (with_reducible refine (impl_SessionsValid.calls k _ _ l0 true w HR0.out HC0.out Q.out).mono ?_); rintro e w1 ⟨rfl, hb⟩; have B1 := Aside0.mk hb; clear hb)
              | (go_at_call 42; (with_reducible refine (impl_sessionPlace.calls _ _ l0 a1 w1 ?side1 HC0.out ?side2).mono ?_); (case side1 => exact Kd.C_below HR0.out B1.out); (case side2 => have := SZ.out; omega); rw [HH.out, PR.out]; rintro e w2 ⟨rfl, hb⟩; have B2 := Aside0.mk (below_step B1.out hb); clear hb; obtain ⟨ad, hA, x0, x1, x2⟩ := at_T35 (Kd.C_below HR0.out B2.out) (R : Int) (by omega) (by have := HP.out; omega); cases hA; rw [Int.toNat_natCast] at x0 x1 x2; have j1 := eq_true (show (R : Int) < (l0.length : Int) by have := HP.out; omega); have j2 := eq_true HP.out))
            go_ret
            exact ⟨rfl, B2.out⟩
        · rw [if_neg hs] at h
          cases h



/-- the number of the last session of the client among the first i -/
def wantOf (l : List S35) (c : Int) : Nat → Int
  | 0 => 0
  | i + 1 => if (rd_T35 l (i : Int)).f0 = c then (rd_T35 l (i : Int)).f1 else wantOf l c i
def laws_FnSessionSeq.f (k : Nat) (l : List Int) : Option Bool :=
  if (l.length : Int) > 1048576 then some true else (spec_DrawSessionSeq.f k l).bind fun x => (impl_SessionSeq.f k x.1 x.2).bind fun n => (spec_SessionSeq.f k x.1 x.2).bind fun m => (laws_alive.f k).bind fun al =>
    if n = m ∧ al = true ∧ x.1.length ≤ 1000000 then (if n < 0 then (if n = -1 then some true else none) else if n = wantOf x.1 x.2 x.1.length then some true else none) else none

set_option maxHeartbeats 4000000 in
set_option maxRecDepth 100000 in
theorem laws_FnSessionSeq.calls (k : Nat) (A0 : Option Addr) (c0 : Nat) (l0 : List Int) (r : Bool) (w : World) (hr0 : Kd.C (Kd.int .u8) w A0 l0.length l0) (hc0 : l0.length ≤ c0) (h : laws_FnSessionSeq.f k l0 = some r) :
    Calls Try.prog 8 #[.slice A0 l0.length c0] w fun e w' => e = .returned (.bool r) ∧ Below w.heap.size w w' := by
  have hu := Try.underlying35
  have HR0 := Aside0.mk hr0
  have HC0 := Aside0.mk hc0
  clear hr0 hc0
  unfold laws_FnSessionSeq.f at h
  by_cases hl : (l0.length : Int) > 1048576
  · rw [if_pos hl] at h
    obtain rfl := Option.some.inj h
    have cl : decide ((l0.length : Int) > 1048576) = true := decide_eq_true hl
    clear h hl
    go_enter Try.func8, Try.ntmps8
    go_wp2
    go_ret
    exact ⟨rfl, Below.refl _ _⟩
  · rw [if_neg hl] at h
    have cl : decide ((l0.length : Int) > 1048576) = false := decide_eq_false hl
    clear hl
    replace h := Option.bind_eq_some_iff.mp h
    obtain ⟨⟨ls, c⟩, h1, h⟩ := h
    replace h := Option.bind_eq_some_iff.mp h
    obtain ⟨n, h2, h⟩ := h
    replace h := Option.bind_eq_some_iff.mp h
    obtain ⟨m, h3, h⟩ := h
    replace h := Option.bind_eq_some_iff.mp h
    obtain ⟨al, h4, h⟩ := h
    dsimp only at h2 h3 h
    by_cases hj : n = m ∧ al = true ∧ ls.length ≤ 1000000
    · rw [if_pos hj] at h
      obtain ⟨rfl, rfl, hs⟩ := hj
      have X1 := Aside0.mk h1
      have X2 := Aside0.mk h2
      have X3 := Aside0.mk h3
      have X4 := Aside0.mk h4
      have SZ := Aside0.mk hs
      clear h1 h2 h3 h4 hs
      by_cases hn : n < 0
      · rw [if_pos hn] at h
        by_cases hm : n = -1
        · rw [if_pos hm] at h
          obtain rfl := Option.some.inj h
          subst hm
          clear h hn
          go_enter Try.func8, Try.ntmps8
          go_wp2_with (first
            | (go_at_call 28; (with_reducible refine (spec_DrawSessionSeq.calls k _ _ l0 ls c w HR0.out HC0.out X1.out).mono ?_); rintro e w1 ⟨v1, rfl, ho, hb⟩; obtain ⟨Aa, ca, ee⟩ := Kd.R_slice ho; subst ee; have CA1 := Aside0.mk (Kd.R_reads' ho).2.2; have CAL := Aside0.mk (Kd.R_reads' ho).2.1; have B1 := Aside0.mk hb; clear ho hb)
            | (go_at_call 18; (with_reducible refine (impl_SessionSeq.calls k _ _ ls c (-1) w1 CA1.out CAL.out X2.out).mono ?_); rintro e w2 ⟨rfl, hb⟩; have CA2 := Aside0.mk (Kd.C_below CA1.out hb); have B2 := Aside0.mk (below_step B1.out hb); clear hb)
            | (go_at_call 17; (with_reducible refine (spec_SessionSeq.calls k _ _ ls c (-1) w2 CA2.out CAL.out X3.out).mono ?_); rintro e w3 ⟨rfl, hb⟩; have B3 := Aside0.mk (below_step B2.out hb); clear hb)
            | (go_at_call 27; (with_reducible refine (laws_alive.calls k true w3 X4.out).mono ?_); rintro e w4 ⟨rfl, hb⟩; have B4 := Aside0.mk (below_step B3.out hb); clear hb))
          go_ret
          exact ⟨rfl, B4.out⟩
        · rw [if_neg hm] at h
          cases h
      · rw [if_neg hn] at h
        by_cases hm : n = wantOf ls c ls.length
        · rw [if_pos hm] at h
          obtain rfl := Option.some.inj h
          have W := Aside0.mk hm
          have dn : decide (n < 0) = false := decide_eq_false hn
          clear h hn hm
          go_enter Try.func8, Try.ntmps8
          go_wp2_with (first
            | (go_at_call 28; (with_reducible refine (spec_DrawSessionSeq.calls k _ _ l0 ls c w HR0.out HC0.out X1.out).mono ?_); rintro e w1 ⟨v1, rfl, ho, hb⟩; obtain ⟨Aa, ca, ee⟩ := Kd.R_slice ho; subst ee; have CA1 := Aside0.mk (Kd.R_reads' ho).2.2; have CAL := Aside0.mk (Kd.R_reads' ho).2.1; have B1 := Aside0.mk hb; clear ho hb)
            | (go_at_call 18; (with_reducible refine (impl_SessionSeq.calls k _ _ ls c n w1 CA1.out CAL.out X2.out).mono ?_); rintro e w2 ⟨rfl, hb⟩; have CA2 := Aside0.mk (Kd.C_below CA1.out hb); have B2 := Aside0.mk (below_step B1.out hb); clear hb)
            | (go_at_call 17; (with_reducible refine (spec_SessionSeq.calls k _ _ ls c n w2 CA2.out CAL.out X3.out).mono ?_); rintro e w3 ⟨rfl, hb⟩; have CA3 := Aside0.mk (Kd.C_below CA2.out hb); have B3 := Aside0.mk (below_step B2.out hb); clear hb))
          go_loopg [6, 7] ls.length (fun kx v6 v7 wr => ∃ i : Nat, v6 = .int .i64 (wantOf ls c i) ∧ v7 = .int .i64 (i : Int) ∧ i + kx = ls.length ∧ wr = w3)
          case atStart => exact ⟨0, rfl, rfl, by omega, rfl⟩
          case round =>
            obtain ⟨i, rfl, rfl, hk, rfl⟩ := hrel
            by_cases hi : i < ls.length
            · obtain ⟨ad, hA, x0, x1, x2⟩ := at_T35 CA3.out (i : Int) (by omega) (by omega)
              cases hA
              rw [Int.toNat_natCast] at x0 x1 x2
              have ci : decide ((i : Int) < (ls.length : Int)) = true := decide_eq_true (by omega)
              have j1 := eq_true (show (i : Int) < (ls.length : Int) by omega)
              have j2 := eq_true hi
              have wi : wrap64 ((i : Int) + 1) = ((i + 1 : Nat) : Int) := by have := SZ.out; unfold wrap64; omega
              by_cases hc : (rd_T35 ls (i : Int)).f0 = c
              · have dc : ((rd_T35 ls (i : Int)).f0 == c) = true := beq_iff_eq.mpr hc
                have wn : wantOf ls c (i + 1) = (rd_T35 ls (i : Int)).f1 := by rw [wantOf, if_pos hc]
                generalize rd_T35 ls (i : Int) = y at x0 x1 x2 dc wn
                clear hc
                go_wp2
                go_roundg (gk - 1)
                case measure => omega
                case rel => exact ⟨i + 1, congrArg (Value.int .i64) wn.symm, congrArg (Value.int .i64) wi, by omega, rfl⟩
              · have dc : ((rd_T35 ls (i : Int)).f0 == c) = false := beq_eq_false_iff_ne.mpr hc
                have wn : wantOf ls c (i + 1) = wantOf ls c i := by rw [wantOf, if_neg hc]
                generalize rd_T35 ls (i : Int) = y at x0 x1 x2 dc
                clear hc
                go_wp2
                go_roundg (gk - 1)
                case measure => omega
                case rel => exact ⟨i + 1, congrArg (Value.int .i64) wn.symm, congrArg (Value.int .i64) wi, by omega, rfl⟩
            · obtain rfl : i = ls.length := by omega
              have ci : decide ((ls.length : Int) < (ls.length : Int)) = false := decide_eq_false (by omega)
              rw [← W.out]
              go_wp2_with (go_at_call 27; (with_reducible refine (laws_alive.calls k true _ X4.out).mono ?_); rintro e w4 ⟨rfl, hb⟩; have B4 := Aside0.mk (below_step B3.out hb); clear hb)
              go_ret
              exact ⟨rfl, B4.out⟩
        · rw [if_neg hm] at h
          cases h
    · rw [if_neg hj] at h
      cases h

end Go.Proofs.Ytmljefpcjlelmaa.PFnSessionSeq
