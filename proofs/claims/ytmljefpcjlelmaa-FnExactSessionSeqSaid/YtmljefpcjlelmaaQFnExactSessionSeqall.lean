/- The place of a client among sessions: slices.BinarySearchFunc at sessions, cmp.Compare and impl.sessionPlace, walked by hand (the print takes no function value). impl_SessionSeq by hand (it calls what the print does not take): the number of a client's session. laws_FnExactSessionSeq by hand (it calls what the print does not take): the ways on which the law answers true. -/
import Derived.Test.YtmljefpcjlelmaaPFnExactSessionSeqx0
import Derived.Test.YtmljefpcjlelmaaPFnExactSessionSeqx1
import Derived.Test.YtmljefpcjlelmaaPFnExactSessionSeqx10
import Derived.Test.YtmljefpcjlelmaaPFnExactSessionSeqx2
import Derived.Test.YtmljefpcjlelmaaPFnExactSessionSeqx4
import Derived.Test.YtmljefpcjlelmaaPFnExactSessionSeqx8
namespace Go.Proofs.Ytmljefpcjlelmaa.PFnExactSessionSeq
open Go.RowKit Go.Proofs.YtmljefpcjlelmaaW.PrintWords Go.Proofs.YtmljefpcjlelmaaW.PrintLast Go.Proofs.YtmljefpcjlelmaaW.PrintMore
set_option linter.unusedVariables false
set_option linter.unusedSimpArgs false

def cmpI (x y : Int) : Int := if x < y then -1 else if x > y then 1 else 0
theorem cmp_isNaN.calls (x : Int) (w : World) : Calls Try.prog 64 #[.int .i64 x] w fun e w' => e = .returned (.bool false) ∧ Below w.heap.size w w' := by
  go_enter Try.func64, Try.ntmps64
  go_wp2
  go_ret
  exact ⟨by simp, Below.refl _ _⟩
set_option maxHeartbeats 1000000 in
theorem cmp_Compare.calls (x y : Int) (w : World) : Calls Try.prog 60 #[.int .i64 x, .int .i64 y] w fun e w' => e = .returned (.int .i64 (cmpI x y)) ∧ Below w.heap.size w w' := by
  unfold cmpI
  by_cases h1 : x < y
  · have d1 : decide (x < y) = true := decide_eq_true h1
    rw [if_pos h1]
    clear h1
    go_enter Try.func60, Try.ntmps60
    go_wp2_with (first
      | (go_at_call 64; (with_reducible refine (cmp_isNaN.calls x w).mono ?_); rintro e w1 ⟨rfl, hb⟩; have B1 := Aside0.mk hb; clear hb)
      | (go_at_call 64; (with_reducible refine (cmp_isNaN.calls y w1).mono ?_); rintro e w2 ⟨rfl, hb⟩; have B2 := Aside0.mk (below_step B1.out hb); clear hb))
    go_ret
    exact ⟨rfl, B2.out⟩
  · have d1 : decide (x < y) = false := decide_eq_false h1
    rw [if_neg h1]
    by_cases h2 : x > y
    · have d2 : decide (x > y) = true := decide_eq_true h2
      rw [if_pos h2]
      clear h1 h2
      go_enter Try.func60, Try.ntmps60
      go_wp2_with (first
        | (go_at_call 64; (with_reducible refine (cmp_isNaN.calls x w).mono ?_); rintro e w1 ⟨rfl, hb⟩; have B1 := Aside0.mk hb; clear hb)
        | (go_at_call 64; (with_reducible refine (cmp_isNaN.calls y w1).mono ?_); rintro e w2 ⟨rfl, hb⟩; have B2 := Aside0.mk (below_step B1.out hb); clear hb))
      go_ret
      exact ⟨rfl, B2.out⟩
    · have d2 : decide (x > y) = false := decide_eq_false h2
      rw [if_neg h2]
      clear h1 h2
      go_enter Try.func60, Try.ntmps60
      go_wp2_with (first
        | (go_at_call 64; (with_reducible refine (cmp_isNaN.calls x w).mono ?_); rintro e w1 ⟨rfl, hb⟩; have B1 := Aside0.mk hb; clear hb)
        | (go_at_call 64; (with_reducible refine (cmp_isNaN.calls y w1).mono ?_); rintro e w2 ⟨rfl, hb⟩; have B2 := Aside0.mk (below_step B1.out hb); clear hb))
      go_ret
      exact ⟨rfl, B2.out⟩

set_option maxHeartbeats 1000000 in
theorem impl_sessionPlace1.calls (s : S35) (c : Int) (w : World) : Calls Try.prog 59 #[.agg #[.int .i64 s.f0, .int .i64 s.f1, .int .i64 s.f2], .int .i64 c] w fun e w' => e = .returned (.int .i64 (cmpI s.f0 c)) ∧ Below w.heap.size w w' := by
  have hu := Try.underlying35
  go_enter Try.func59, Try.ntmps59
  go_wp2_with (first
    | ((with_reducible refine gate_dst (N := 2) rfl ?_); refine box_event ?hg (N := 2) ?hd (cs := #[.int .i64 s.f0, .int .i64 s.f1, .int .i64 s.f2]) (t := 35) ?hr ?_; (case hd => rfl); (case hg => rfl); (case hr => first | (go_simp; done) | (go_simp; rfl)); intro g hg w1 hc hb; have B1 := Aside0.mk hb; have c0 : w1.cell? ⟨g, 0, none⟩ = some (.int .i64 s.f0) := (blk_cell hc 0).trans rfl; clear hc hb hg)
    | (go_at_call 60; (with_reducible refine (cmp_Compare.calls s.f0 c w1).mono ?_); rintro e w2 ⟨rfl, hb⟩; have B2 := Aside0.mk (below_step B1.out hb); clear hb))
  go_ret
  exact ⟨rfl, B2.out⟩

/-- where the client is, or were, among lo .. hi -/
def placeOf (l : List S35) (c : Int) : Nat → Nat → Nat → Nat
  | 0, lo, _ => lo
  | d + 1, lo, hi => if lo < hi then (if (rd_T35 l (((lo + hi) / 2 : Nat) : Int)).f0 < c then placeOf l c d ((lo + hi) / 2 + 1) hi else placeOf l c d lo ((lo + hi) / 2)) else lo
theorem cmpI_neg (x c : Int) : decide (cmpI x c < 0) = decide (x < c) := by
  unfold cmpI
  by_cases h : x < c
  · simp [h]
  · by_cases h2 : x > c <;> simp [h, h2]
theorem cmpI_zero (x c : Int) : (cmpI x c == 0) = decide (x = c) := by
  unfold cmpI
  by_cases h : x < c
  · rw [if_pos h, decide_eq_false (by omega)]
    rfl
  · by_cases h2 : x > c
    · rw [if_neg h, if_pos h2, decide_eq_false (by omega)]
      rfl
    · rw [if_neg h, if_neg h2, decide_eq_true (by omega)]
      rfl
def hitOf (l : List S35) (c : Int) : Bool := decide (placeOf l c l.length 0 l.length < l.length) && decide ((rd_T35 l ((placeOf l c l.length 0 l.length : Nat) : Int)).f0 = c)

set_option maxHeartbeats 4000000 in
set_option maxRecDepth 100000 in
theorem slices_BinarySearchFunc.calls (A0 : Option Addr) (c0 : Nat) (l : List S35) (c : Int) (w : World) (hr0 : Kd.C k35 w A0 l.length l) (hc0 : l.length ≤ c0) (hsz : l.length < 4611686018427387904) :
    Calls Try.prog 58 #[.slice A0 l.length c0, .int .i64 c, .func (.func 59) #[] #[]] w fun e w' =>
      e = .returned (.tuple #[.int .i64 ((placeOf l c l.length 0 l.length : Nat) : Int), .bool (hitOf l c)]) ∧ Below w.heap.size w w' := by
  have HR0 := Aside0.mk hr0
  clear hr0
  have hu := Try.underlying35
  generalize hR : placeOf l c l.length 0 l.length = R
  have HT := Aside0.mk (show hitOf l c = (decide (R < l.length) && decide ((rd_T35 l ((R : Nat) : Int)).f0 = c)) by unfold hitOf; rw [hR])
  have PR := Aside0.mk hR
  clear hR
  go_enter Try.func58, Try.ntmps58
  go_wp2
  go_loopg [9, 10] l.length (fun kx s9 s10 wr => ∃ lo hi : Nat, s9 = .int .i64 lo ∧ s10 = .int .i64 hi ∧ lo ≤ hi ∧ hi ≤ l.length ∧ hi - lo ≤ kx ∧ Aside0 (Below w.heap.size w wr) ∧ Aside0 (placeOf l c kx lo hi = R))
  case atStart => exact ⟨0, l.length, rfl, rfl, Nat.zero_le _, Nat.le_refl _, by omega, ⟨Below.refl _ _⟩, PR⟩
  case round =>
    clear PR
    obtain ⟨lo, hi, rfl, rfl, hlh, hin, hg, BW, PW⟩ := hrel
    by_cases hlt : lo < hi
    · obtain ⟨d, rfl⟩ : ∃ d, gk = d + 1 := ⟨gk - 1, by omega⟩
      have hp := PW.out
      simp only [placeOf] at hp
      rw [if_pos hlt] at hp
      obtain ⟨ad, hA, x0, x1, x2⟩ := at_T35 (Kd.C_below HR0.out BW.out) (((lo + hi) / 2 : Nat) : Int) (by omega) (by omega)
      subst hA
      generalize hy : rd_T35 l (((lo + hi) / 2 : Nat) : Int) = y at x0 x1 x2 hp
      rw [Int.toNat_natCast] at x0 x1 x2
      clear hy
      by_cases hyx : y.f0 < c
      · rw [if_pos hyx] at hp
        have P2 := Aside0.mk hp
        have dc : decide (cmpI y.f0 c < 0) = true := (cmpI_neg _ _).trans (decide_eq_true hyx)
        clear PW hp hyx
        go_wp2_with (go_at_call 59; (with_reducible refine (impl_sessionPlace1.calls y c wr).mono ?_); rintro e w1 ⟨rfl, hb⟩; have B1 := Aside0.mk (below_step BW.out hb); clear hb)
        go_roundg d
        case measure => omega
        case rel => exact ⟨(lo + hi) / 2 + 1, hi, by rw [show ((lo : Int) + (hi : Int)) / 2 + 1 = (((lo + hi) / 2 + 1 : Nat) : Int) by omega], rfl, by omega, hin, by omega, B1, P2⟩
      · rw [if_neg hyx] at hp
        have P2 := Aside0.mk hp
        have dc : decide (cmpI y.f0 c < 0) = false := (cmpI_neg _ _).trans (decide_eq_false hyx)
        clear PW hp hyx
        go_wp2_with (go_at_call 59; (with_reducible refine (impl_sessionPlace1.calls y c wr).mono ?_); rintro e w1 ⟨rfl, hb⟩; have B1 := Aside0.mk (below_step BW.out hb); clear hb)
        go_roundg d
        case measure => omega
        case rel => exact ⟨lo, (lo + hi) / 2, rfl, by rw [show ((lo : Int) + (hi : Int)) / 2 = (((lo + hi) / 2 : Nat) : Int) by omega], by omega, by omega, by omega, B1, P2⟩
    · obtain rfl : R = lo := by
        rw [← PW.out]
        cases gk with
        | zero => rfl
        | succ d => simp only [placeOf]; rw [if_neg hlt]
      by_cases hn : R < l.length
      · obtain ⟨ad, hA, x0, x1, x2⟩ := at_T35 (Kd.C_below HR0.out BW.out) (R : Int) (by omega) (by omega)
        subst hA
        generalize hy : rd_T35 l (R : Int) = y at x0 x1 x2 HT
        rw [Int.toNat_natCast] at x0 x1 x2
        clear hy PW
        go_wp2_with (go_at_call 59; (with_reducible refine (impl_sessionPlace1.calls y c wr).mono ?_); rintro e w1 ⟨rfl, hb⟩; have B1 := Aside0.mk (below_step BW.out hb); clear hb)
        go_ret2
        refine ⟨?_, B1.out⟩
        rw [HT.out, decide_eq_true hn, ← cmpI_zero]
        rfl
      · clear PW
        go_wp2
        go_ret2
        refine ⟨?_, BW.out⟩
        rw [HT.out, decide_eq_false hn]
        rfl

theorem impl_sessionPlace.calls (A0 : Option Addr) (c0 : Nat) (l : List S35) (c : Int) (w : World) (hr0 : Kd.C k35 w A0 l.length l) (hc0 : l.length ≤ c0) (hsz : l.length < 4611686018427387904) :
    Calls Try.prog 42 #[.slice A0 l.length c0, .int .i64 c] w fun e w' => e = .returned (.tuple #[.int .i64 ((placeOf l c l.length 0 l.length : Nat) : Int), .bool (hitOf l c)]) ∧ Below w.heap.size w w' := by
  have h := slices_BinarySearchFunc.calls A0 c0 l c w hr0 hc0 hsz
  go_enter Try.func42, Try.ntmps42
  go_wp2_with (go_at_call 58; (with_reducible refine h.mono ?_); rintro e w1 ⟨rfl, hb⟩; have B1 := Aside0.mk hb; clear hb)
  go_ret2
  exact ⟨rfl, B1.out⟩



def impl_SessionSeq.f (k : Nat) (l : List S35) (c : Int) : Option Int :=
  (impl_SessionsValid.f k l).bind fun q => if q = false ∨ c < 0 ∨ c ≥ 4 then some (-1)
    else if l.length ≤ 1000000 then (if hitOf l c = true then some (rd_T35 l ((placeOf l c l.length 0 l.length : Nat) : Int)).f1 else some 0) else none
theorem impl_SessionSeq.mono : ∀ a0 a1 k, LeO (impl_SessionSeq.f k a0 a1) (impl_SessionSeq.f (k + 1) a0 a1) := by
  intro a0 a1 k
  unfold impl_SessionSeq.f
  exact LeO.bind (impl_SessionsValid.mono _ _) fun _ => LeO.refl _

set_option maxHeartbeats 2000000 in
set_option maxRecDepth 100000 in
theorem impl_SessionSeq.calls (k : Nat) (A0 : Option Addr) (c0 : Nat) (l0 : List S35) (a1 : Int) (r : Int) (w : World) (hr0 : Kd.C k35 w A0 l0.length l0) (hc0 : l0.length ≤ c0) (h : impl_SessionSeq.f k l0 a1 = some r) :
    Calls Try.prog 18 #[.slice A0 l0.length c0, .int .i64 a1] w fun e w' => e = .returned (.int .i64 r) ∧ Below w.heap.size w w' := by
  have hu := Try.underlying35
  have HR0 := Aside0.mk hr0
  have HC0 := Aside0.mk hc0
  clear hr0 hc0
  unfold impl_SessionSeq.f at h
  replace h := Option.bind_eq_some_iff.mp h
  obtain ⟨q, hq, h⟩ := h
  have Q := Aside0.mk hq
  clear hq
  cases q with
  | false =>
    rw [if_pos (.inl rfl)] at h
    obtain rfl := Option.some.inj h
    clear h
    go_enter Try.func18, Try.ntmps18
    go_wp2_with (go_at_call 15; (with_reducible refine (impl_SessionsValid.calls k _ _ l0 false w HR0.out HC0.out Q.out).mono ?_); rintro e w1 ⟨rfl, hb⟩; have B1 := Aside0.mk hb; clear hb)
    go_ret
    exact ⟨rfl, B1.out⟩
  | true =>
    by_cases h1 : a1 < 0
    · rw [if_pos (.inr (.inl h1))] at h
      obtain rfl := Option.some.inj h
      have d1 : decide (a1 < 0) = true := decide_eq_true h1
      clear h h1
      go_enter Try.func18, Try.ntmps18
      go_wp2_with (go_at_call 15; (with_reducible refine (impl_SessionsValid.calls k _ _ l0 true w HR0.out HC0.out Q.out).mono ?_); rintro e w1 ⟨rfl, hb⟩; have B1 := Aside0.mk hb; clear hb)
      go_ret
      exact ⟨rfl, B1.out⟩
    · have d1 : decide (a1 < 0) = false := decide_eq_false h1
      by_cases h2 : a1 ≥ 4
      · rw [if_pos (.inr (.inr h2))] at h
        obtain rfl := Option.some.inj h
        have d2 : decide (a1 ≥ 4) = true := decide_eq_true h2
        clear h h1 h2
        go_enter Try.func18, Try.ntmps18
        go_wp2_with (go_at_call 15; (with_reducible refine (impl_SessionsValid.calls k _ _ l0 true w HR0.out HC0.out Q.out).mono ?_); rintro e w1 ⟨rfl, hb⟩; have B1 := Aside0.mk hb; clear hb)
        go_ret
        exact ⟨rfl, B1.out⟩
      · have d2 : decide (a1 ≥ 4) = false := decide_eq_false h2
        rw [if_neg (by simp [h1, h2])] at h
        by_cases hs : l0.length ≤ 1000000
        · rw [if_pos hs] at h
          have SZ := Aside0.mk hs
          clear hs h1 h2
          cases hh : hitOf l0 a1 with
          | false =>
            rw [hh, if_neg (by simp)] at h
            obtain rfl := Option.some.inj h
            have HH := Aside0.mk hh
            clear h hh
            go_enter Try.func18, Try.ntmps18
            go_wp2_with (first
              | (go_at_call 15; (with_reducible refine (impl_SessionsValid.calls k _ _ l0 true w HR0.out HC0.out Q.out).mono ?_); rintro e w1 ⟨rfl, hb⟩; have B1 := Aside0.mk hb; clear hb)
              | (go_at_call 42; (with_reducible refine (impl_sessionPlace.calls _ _ l0 a1 w1 ?side1 HC0.out ?side2).mono ?_); (case side1 => exact Kd.C_below HR0.out B1.out); (case side2 => have := SZ.out; omega); rw [HH.out]; rintro e w2 ⟨rfl, hb⟩; have B2 := Aside0.mk (below_step B1.out hb); clear hb))
            go_ret
            exact ⟨rfl, B2.out⟩
          | true =>
            rw [hh, if_pos rfl] at h
            obtain rfl := Option.some.inj h
            have HH := Aside0.mk hh
            have hp : placeOf l0 a1 l0.length 0 l0.length < l0.length := by
              unfold hitOf at hh
              rw [Bool.and_eq_true, decide_eq_true_eq] at hh
              exact hh.1
            clear h hh
            generalize hR : placeOf l0 a1 l0.length 0 l0.length = R at hp ⊢
            have PR := Aside0.mk hR
            have HP := Aside0.mk hp
            clear hR
            go_enter Try.func18, Try.ntmps18
            go_wp2_with (first
              | (go_at_call 15; (with_reducible refine (impl_SessionsValid.calls k _ _ l0 true w HR0.out HC0.out Q.out).mono ?_); rintro e w1 ⟨rfl, hb⟩; have B1 := Aside0.mk hb; clear hb)
              | (go_at_call 42; (with_reducible refine (impl_sessionPlace.calls _ _ l0 a1 w1 ?side1 HC0.out ?side2).mono ?_); (case side1 => exact Kd.C_below HR0.out B1.out); (case side2 => have := SZ.out; omega); rw [HH.out, PR.out]; rintro e w2 ⟨rfl, hb⟩; have B2 := Aside0.mk (below_step B1.out hb); clear hb; obtain ⟨ad, hA, x0, x1, x2⟩ := at_T35 (Kd.C_below HR0.out B2.out) (R : Int) (by omega) (by have := HP.out; omega); cases hA; rw [Int.toNat_natCast] at x0 x1 x2; have j1 := eq_true (show (R : Int) < (l0.length : Int) by have := HP.out; omega); have j2 := eq_true HP.out))
            go_ret
            exact ⟨rfl, B2.out⟩
        · rw [if_neg hs] at h
          cases h



def laws_FnExactSessionSeq.f (k : Nat) (l : List S32) (c : Int) : Option Bool :=
  (laws_szSessionS.f l 1048576).bind fun t => if t < 0 then some true
    else (laws_toSessionS.f k l).bind fun x => (spec_SessionSeq.f k x c).bind fun a => (impl_SessionSeq.f k x c).bind fun b => (laws_eqSessionS.f k x x).bind fun q => if b = a ∧ q = true then some true else none

set_option maxHeartbeats 2000000 in
set_option maxRecDepth 100000 in
theorem laws_FnExactSessionSeq.calls (k : Nat) (A0 : Option Addr) (c0 : Nat) (l0 : List S32) (a1 : Int) (r : Bool) (w : World) (hr0 : Kd.C k32 w A0 l0.length l0) (hc0 : l0.length ≤ c0) (h : laws_FnExactSessionSeq.f k l0 a1 = some r) :
    Calls Try.prog 4 #[.slice A0 l0.length c0, .int .i64 a1] w fun e w' => e = .returned (.bool r) ∧ Below w.heap.size w w' := by
  have HR0 := Aside0.mk hr0
  have HC0 := Aside0.mk hc0
  clear hr0 hc0
  unfold laws_FnExactSessionSeq.f at h
  replace h := Option.bind_eq_some_iff.mp h
  obtain ⟨t, h1, h⟩ := h
  have X1 := Aside0.mk h1
  clear h1
  by_cases ht : t < 0
  · rw [if_pos ht] at h
    obtain rfl := Option.some.inj h
    have d1 : decide (t < 0) = true := decide_eq_true ht
    clear h ht
    go_enter Try.func4, Try.ntmps4
    go_wp2_with (go_at_call 12; (with_reducible refine (laws_szSessionS.calls _ _ l0 1048576 t w HR0.out HC0.out X1.out).mono ?_); rintro e w1 ⟨rfl, ⟨nd, hw⟩⟩; have B1 := Aside0.mk (show Below w.heap.size w w1 from hw ▸ pw_below_drewN (Below.refl _ _) nd); clear hw)
    go_ret
    exact ⟨rfl, B1.out⟩
  · rw [if_neg ht] at h
    have d1 : decide (t < 0) = false := decide_eq_false ht
    clear ht
    replace h := Option.bind_eq_some_iff.mp h
    obtain ⟨x, h2, h⟩ := h
    replace h := Option.bind_eq_some_iff.mp h
    obtain ⟨a, h3, h⟩ := h
    replace h := Option.bind_eq_some_iff.mp h
    obtain ⟨b, h4, h⟩ := h
    replace h := Option.bind_eq_some_iff.mp h
    obtain ⟨q, h5, h⟩ := h
    by_cases hj : b = a ∧ q = true
    · rw [if_pos hj] at h
      obtain ⟨rfl, rfl⟩ := hj
      obtain rfl := Option.some.inj h
      have X2 := Aside0.mk h2
      have X3 := Aside0.mk h3
      have X4 := Aside0.mk h4
      have X5 := Aside0.mk h5
      clear h h2 h3 h4 h5
      go_enter Try.func4, Try.ntmps4
      go_wp2_with (first
        | (go_at_call 12; (with_reducible refine (laws_szSessionS.calls _ _ l0 1048576 t w HR0.out HC0.out X1.out).mono ?_); rintro e w1 ⟨rfl, ⟨nd, hw⟩⟩; have B1 := Aside0.mk (show Below w.heap.size w w1 from hw ▸ pw_below_drewN (Below.refl _ _) nd); clear hw)
        | (go_at_call 14; (with_reducible refine (laws_toSessionS.calls k _ _ l0 x w1 ?side1 HC0.out X2.out).mono ?_); (case side1 => exact Kd.C_below HR0.out B1.out); rintro e w2 ⟨v2, rfl, ho, hb⟩; obtain ⟨Aa, ca, ee⟩ := Kd.R_slice ho; subst ee; have CA := Aside0.mk (Kd.R_reads' ho).2.2; have CAL := Aside0.mk (Kd.R_reads' ho).2.1; have B2 := Aside0.mk (below_step B1.out hb); clear ho hb)
        | (go_at_call 17; (with_reducible refine (spec_SessionSeq.calls k _ _ x a1 b w2 CA.out CAL.out X3.out).mono ?_); rintro e w3 ⟨rfl, hb⟩; have B3 := Aside0.mk (below_step B2.out hb); clear hb)
        | (go_at_call 14; (with_reducible refine (laws_toSessionS.calls k _ _ l0 x w3 ?side1 HC0.out X2.out).mono ?_); (case side1 => exact Kd.C_below HR0.out B3.out); rintro e w4 ⟨v4, rfl, ho, hb⟩; obtain ⟨Ab, cb, ee⟩ := Kd.R_slice ho; subst ee; have CB4 := Aside0.mk (Kd.R_reads' ho).2.2; have CBL := Aside0.mk (Kd.R_reads' ho).2.1; have B4 := Aside0.mk (below_step B3.out hb); clear ho hb)
        | (go_at_call 18; (with_reducible refine (impl_SessionSeq.calls k _ _ x a1 b w4 CB4.out CBL.out X4.out).mono ?_); rintro e w5 ⟨rfl, hb⟩; have CB5 := Aside0.mk (Kd.C_below CB4.out hb); have B5 := Aside0.mk (below_step B4.out hb); clear hb)
        | (go_at_call 14; (with_reducible refine (laws_toSessionS.calls k _ _ l0 x w5 ?side1 HC0.out X2.out).mono ?_); (case side1 => exact Kd.C_below HR0.out B5.out); rintro e w6 ⟨v6, rfl, ho, hb⟩; obtain ⟨Ac, cc, ee⟩ := Kd.R_slice ho; subst ee; have CB6 := Aside0.mk (Kd.C_below CB5.out hb); have CC6 := Aside0.mk (Kd.R_reads' ho).2.2; have CCL := Aside0.mk (Kd.R_reads' ho).2.1; have B6 := Aside0.mk (below_step B5.out hb); clear ho hb)
        | (go_at_call 16; (with_reducible refine (laws_eqSessionS.calls k _ _ x _ _ x true w6 CB6.out CBL.out CC6.out CCL.out X5.out).mono ?_); rintro e w7 ⟨rfl, hb⟩; have B7 := Aside0.mk (below_step B6.out hb); clear hb))
      go_ret
      exact ⟨rfl, B7.out⟩
    · rw [if_neg hj] at h
      cases h

end Go.Proofs.Ytmljefpcjlelmaa.PFnExactSessionSeq
