/- The place of a client among sessions: slices.BinarySearchFunc at sessions, cmp.Compare and impl.sessionPlace, walked by hand (the print takes no function value). impl_SessionSeq by hand (it calls what the print does not take): the number of a client's session. impl_SessionPut by hand (the print takes none of what it calls): a list is put together anew, with one session placed. impl_SessionPut by hand (the print takes none of what it calls): the session is placed, or the list is as it was. impl_SessionsJoin by hand (it calls what the print does not take): the sessions of the second list are put into a copy of the first, one after the other. laws_FnSessionsJoin by hand (it calls what the print does not take): the ways on which the law answers true. -/
import Derived.Test.YtmljefpcjlelmaaPFnSessionsJoinx0
import Derived.Test.YtmljefpcjlelmaaPFnSessionsJoinx14
import Derived.Test.YtmljefpcjlelmaaPFnSessionsJoinx15
import Derived.Test.YtmljefpcjlelmaaPFnSessionsJoinx16
import Derived.Test.YtmljefpcjlelmaaPFnSessionsJoinx21
import Derived.Test.YtmljefpcjlelmaaPFnSessionsJoinx3
import Derived.Test.YtmljefpcjlelmaaPFnSessionsJoinx9
namespace Go.Proofs.Ytmljefpcjlelmaa.PFnSessionsJoin
open Go.RowKit Go.Proofs.YtmljefpcjlelmaaW.PrintWords Go.Proofs.YtmljefpcjlelmaaW.PrintLast Go.Proofs.YtmljefpcjlelmaaW.PrintMore
set_option linter.unusedVariables false
set_option linter.unusedSimpArgs false

def cmpI (x y : Int) : Int := if x < y then -1 else if x > y then 1 else 0
theorem cmp_isNaN.calls (x : Int) (w : World) : Calls Try.prog 64 #[.int .i64 x] w fun e w' => e = .returned (.bool false) ∧ Below w.heap.size w w' := by
  go_enter Try.func64, Try.ntmps64
  go_wp2
  go_ret
  exact ⟨by simp, Below.refl _ _⟩
set_option maxHeartbeats 1000000 in
theorem cmp_Compare.calls (x y : Int) (w : World) : Calls Try.prog 60 #[.int .i64 x, .int .i64 y] w fun e w' => e = .returned (.int .i64 (cmpI x y)) ∧ Below w.heap.size w w' := by
  unfold cmpI
  by_cases h1 : x < y
  · have d1 : decide (x < y) = true := decide_eq_true h1
    rw [if_pos h1]
    clear h1
    go_enter Try.func60, Try.ntmps60
    go_wp2_with (first
      | (go_at_call 64; (with_reducible refine (cmp_isNaN.calls x w).mono ?_); rintro e w1 ⟨rfl, hb⟩; have B1 := Aside0.mk hb; clear hb)
      | (go_at_call 64; (with_reducible refine (cmp_isNaN.calls y w1).mono ?_); rintro e w2 ⟨rfl, hb⟩; have B2 := Aside0.mk (below_step B1.out hb); clear hb))
    go_ret
    exact ⟨rfl, B2.out⟩
  · have d1 : decide (x < y) = false := decide_eq_false h1
    rw [if_neg h1]
    by_cases h2 : x > y
    · have d2 : decide (x > y) = true := decide_eq_true h2
      rw [if_pos h2]
      clear h1 h2
      go_enter Try.func60, Try.ntmps60
      go_wp2_with (first
        | (go_at_call 64; (with_reducible refine (cmp_isNaN.calls x w).mono ?_); rintro e w1 ⟨rfl, hb⟩; have B1 := Aside0.mk hb; clear hb)
        | (go_at_call 64; (with_reducible refine (cmp_isNaN.calls y w1).mono ?_); rintro e w2 ⟨rfl, hb⟩; have B2 := Aside0.mk (below_step B1.out hb); clear hb))
      go_ret
      exact ⟨rfl, B2.out⟩
    · have d2 : decide (x > y) = false := decide_eq_false h2
      rw [if_neg h2]
      clear h1 h2
      go_enter Try.func60, Try.ntmps60
      go_wp2_with (first
        | (go_at_call 64; (with_reducible refine (cmp_isNaN.calls x w).mono ?_); rintro e w1 ⟨rfl, hb⟩; have B1 := Aside0.mk hb; clear hb)
        | (go_at_call 64; (with_reducible refine (cmp_isNaN.calls y w1).mono ?_); rintro e w2 ⟨rfl, hb⟩; have B2 := Aside0.mk (below_step B1.out hb); clear hb))
      go_ret
      exact ⟨rfl, B2.out⟩

set_option maxHeartbeats 1000000 in
theorem impl_sessionPlace1.calls (s : S35) (c : Int) (w : World) : Calls Try.prog 59 #[.agg #[.int .i64 s.f0, .int .i64 s.f1, .int .i64 s.f2], .int .i64 c] w fun e w' => e = .returned (.int .i64 (cmpI s.f0 c)) ∧ Below w.heap.size w w' := by
  have hu := Try.underlying35
  go_enter Try.func59, Try.ntmps59
  go_wp2_with (first
    | ((with_reducible refine gate_dst (N := 2) rfl ?_); refine box_event ?hg (N := 2) ?hd (cs := #[.int .i64 s.f0, .int .i64 s.f1, .int .i64 s.f2]) (t := 35) ?hr ?_; (case hd => rfl); (case hg => rfl); (case hr => first | (go_simp; done) | (go_simp; rfl)); intro g hg w1 hc hb; have B1 := Aside0.mk hb; have c0 : w1.cell? ⟨g, 0, none⟩ = some (.int .i64 s.f0) := (blk_cell hc 0).trans rfl; clear hc hb hg)
    | (go_at_call 60; (with_reducible refine (cmp_Compare.calls s.f0 c w1).mono ?_); rintro e w2 ⟨rfl, hb⟩; have B2 := Aside0.mk (below_step B1.out hb); clear hb))
  go_ret
  exact ⟨rfl, B2.out⟩

/-- where the client is, or were, among lo .. hi -/
def placeOf (l : List S35) (c : Int) : Nat → Nat → Nat → Nat
  | 0, lo, _ => lo
  | d + 1, lo, hi => if lo < hi then (if (rd_T35 l (((lo + hi) / 2 : Nat) : Int)).f0 < c then placeOf l c d ((lo + hi) / 2 + 1) hi else placeOf l c d lo ((lo + hi) / 2)) else lo
theorem cmpI_neg (x c : Int) : decide (cmpI x c < 0) = decide (x < c) := by
  unfold cmpI
  by_cases h : x < c
  · simp [h]
  · by_cases h2 : x > c <;> simp [h, h2]
theorem cmpI_zero (x c : Int) : (cmpI x c == 0) = decide (x = c) := by
  unfold cmpI
  by_cases h : x < c
  · rw [if_pos h, decide_eq_false (by omega)]
    rfl
  · by_cases h2 : x > c
    · rw [if_neg h, if_pos h2, decide_eq_false (by omega)]
      rfl
    · rw [if_neg h, if_neg h2, decide_eq_true (by omega)]
      rfl
def hitOf (l : List S35) (c : Int) : Bool := decide (placeOf l c l.length 0 l.length < l.length) && decide ((rd_T35 l ((placeOf l c l.length 0 l.length : Nat) : Int)).f0 = c)

set_option maxHeartbeats 4000000 in
set_option maxRecDepth 100000 in
theorem slices_BinarySearchFunc.calls (A0 : Option Addr) (c0 : Nat) (l : List S35) (c : Int) (w : World) (hr0 : Kd.C k35 w A0 l.length l) (hc0 : l.length ≤ c0) (hsz : l.length < 4611686018427387904) :
    Calls Try.prog 58 #[.slice A0 l.length c0, .int .i64 c, .func (.func 59) #[] #[]] w fun e w' =>
      e = .returned (.tuple #[.int .i64 ((placeOf l c l.length 0 l.length : Nat) : Int), .bool (hitOf l c)]) ∧ Below w.heap.size w w' := by
  have HR0 := Aside0.mk hr0
  clear hr0
  have hu := Try.underlying35
  generalize hR : placeOf l c l.length 0 l.length = R
  have HT := Aside0.mk (show hitOf l c = (decide (R < l.length) && decide ((rd_T35 l ((R : Nat) : Int)).f0 = c)) by unfold hitOf; rw [hR])
  have PR := Aside0.mk hR
  clear hR
  go_enter Try.func58, Try.ntmps58
  go_wp2
  go_loopg [9, 10] l.length (fun kx s9 s10 wr => ∃ lo hi : Nat, s9 = .int .i64 lo ∧ s10 = .int .i64 hi ∧ lo ≤ hi ∧ hi ≤ l.length ∧ hi - lo ≤ kx ∧ Aside0 (Below w.heap.size w wr) ∧ Aside0 (placeOf l c kx lo hi = R))
  case atStart => exact ⟨0, l.length, rfl, rfl, Nat.zero_le _, Nat.le_refl _, by omega, ⟨Below.refl _ _⟩, PR⟩
  case round =>
    clear PR
    obtain ⟨lo, hi, rfl, rfl, hlh, hin, hg, BW, PW⟩ := hrel
    by_cases hlt : lo < hi
    · obtain ⟨d, rfl⟩ : ∃ d, gk = d + 1 := ⟨gk - 1, by omega⟩
      have hp := PW.out
      simp only [placeOf] at hp
      rw [if_pos hlt] at hp
      obtain ⟨ad, hA, x0, x1, x2⟩ := at_T35 (Kd.C_below HR0.out BW.out) (((lo + hi) / 2 : Nat) : Int) (by omega) (by omega)
      subst hA
      generalize hy : rd_T35 l (((lo + hi) / 2 : Nat) : Int) = y at x0 x1 x2 hp
      rw [Int.toNat_natCast] at x0 x1 x2
      clear hy
      by_cases hyx : y.f0 < c
      · rw [if_pos hyx] at hp
        have P2 := Aside0.mk hp
        have dc : decide (cmpI y.f0 c < 0) = true := (cmpI_neg _ _).trans (decide_eq_true hyx)
        clear PW hp hyx
        go_wp2_with (go_at_call 59; (with_reducible refine (impl_sessionPlace1.calls y c wr).mono ?_); rintro e w1 ⟨rfl, hb⟩; have B1 := Aside0.mk (below_step BW.out hb); clear hb)
        go_roundg d
        case measure => omega
        case rel => exact ⟨(lo + hi) / 2 + 1, hi, by rw [show ((lo : Int) + (hi : Int)) / 2 + 1 = (((lo + hi) / 2 + 1 : Nat) : Int) by omega], rfl, by omega, hin, by omega, B1, P2⟩
      · rw [if_neg hyx] at hp
        have P2 := Aside0.mk hp
        have dc : decide (cmpI y.f0 c < 0) = false := (cmpI_neg _ _).trans (decide_eq_false hyx)
        clear PW hp hyx
        go_wp2_with (go_at_call 59; (with_reducible refine (impl_sessionPlace1.calls y c wr).mono ?_); rintro e w1 ⟨rfl, hb⟩; have B1 := Aside0.mk (below_step BW.out hb); clear hb)
        go_roundg d
        case measure => omega
        case rel => exact ⟨lo, (lo + hi) / 2, rfl, by rw [show ((lo : Int) + (hi : Int)) / 2 = (((lo + hi) / 2 : Nat) : Int) by omega], by omega, by omega, by omega, B1, P2⟩
    · obtain rfl : R = lo := by
        rw [← PW.out]
        cases gk with
        | zero => rfl
        | succ d => simp only [placeOf]; rw [if_neg hlt]
      by_cases hn : R < l.length
      · obtain ⟨ad, hA, x0, x1, x2⟩ := at_T35 (Kd.C_below HR0.out BW.out) (R : Int) (by omega) (by omega)
        subst hA
        generalize hy : rd_T35 l (R : Int) = y at x0 x1 x2 HT
        rw [Int.toNat_natCast] at x0 x1 x2
        clear hy PW
        go_wp2_with (go_at_call 59; (with_reducible refine (impl_sessionPlace1.calls y c wr).mono ?_); rintro e w1 ⟨rfl, hb⟩; have B1 := Aside0.mk (below_step BW.out hb); clear hb)
        go_ret2
        refine ⟨?_, B1.out⟩
        rw [HT.out, decide_eq_true hn, ← cmpI_zero]
        rfl
      · clear PW
        go_wp2
        go_ret2
        refine ⟨?_, BW.out⟩
        rw [HT.out, decide_eq_false hn]
        rfl

theorem impl_sessionPlace.calls (A0 : Option Addr) (c0 : Nat) (l : List S35) (c : Int) (w : World) (hr0 : Kd.C k35 w A0 l.length l) (hc0 : l.length ≤ c0) (hsz : l.length < 4611686018427387904) :
    Calls Try.prog 42 #[.slice A0 l.length c0, .int .i64 c] w fun e w' => e = .returned (.tuple #[.int .i64 ((placeOf l c l.length 0 l.length : Nat) : Int), .bool (hitOf l c)]) ∧ Below w.heap.size w w' := by
  have h := slices_BinarySearchFunc.calls A0 c0 l c w hr0 hc0 hsz
  go_enter Try.func42, Try.ntmps42
  go_wp2_with (go_at_call 58; (with_reducible refine h.mono ?_); rintro e w1 ⟨rfl, hb⟩; have B1 := Aside0.mk hb; clear hb)
  go_ret2
  exact ⟨rfl, B1.out⟩



def impl_SessionSeq.f (k : Nat) (l : List S35) (c : Int) : Option Int :=
  (impl_SessionsValid.f k l).bind fun q => if q = false ∨ c < 0 ∨ c ≥ 4 then some (-1)
    else if l.length ≤ 1000000 then (if hitOf l c = true then some (rd_T35 l ((placeOf l c l.length 0 l.length : Nat) : Int)).f1 else some 0) else none
theorem impl_SessionSeq.mono : ∀ a0 a1 k, LeO (impl_SessionSeq.f k a0 a1) (impl_SessionSeq.f (k + 1) a0 a1) := by
  intro a0 a1 k
  unfold impl_SessionSeq.f
  exact LeO.bind (impl_SessionsValid.mono _ _) fun _ => LeO.refl _

set_option maxHeartbeats 2000000 in
set_option maxRecDepth 100000 in
theorem impl_SessionSeq.calls (k : Nat) (A0 : Option Addr) (c0 : Nat) (l0 : List S35) (a1 : Int) (r : Int) (w : World) (hr0 : Kd.C k35 w A0 l0.length l0) (hc0 : l0.length ≤ c0) (h : impl_SessionSeq.f k l0 a1 = some r) :
    Calls Try.prog 18 #[.slice A0 l0.length c0, .int .i64 a1] w fun e w' => e = .returned (.int .i64 r) ∧ Below w.heap.size w w' := by
  have hu := Try.underlying35
  have HR0 := Aside0.mk hr0
  have HC0 := Aside0.mk hc0
  clear hr0 hc0
  unfold impl_SessionSeq.f at h
  replace h := Option.bind_eq_some_iff.mp h
  obtain ⟨q, hq, h⟩ := h
  have Q := Aside0.mk hq
  clear hq
  cases q with
  | false =>
    rw [if_pos (.inl rfl)] at h
    obtain rfl := Option.some.inj h
    clear h
    go_enter Try.func18, Try.ntmps18
    go_wp2_with (go_at_call 15; (with_reducible refine (impl_SessionsValid.calls k _ _ l0 false w HR0.out HC0.out Q.out).mono ?_); rintro e w1 ⟨rfl, hb⟩; have B1 := Aside0.mk hb; clear hb)
    go_ret
    exact ⟨rfl, B1.out⟩
  | true =>
    by_cases h1 : a1 < 0
    · rw [if_pos (.inr (.inl h1))] at h
      obtain rfl := Option.some.inj h
      have d1 : decide (a1 < 0) = true := decide_eq_true h1
      clear h h1
      go_enter Try.func18, Try.ntmps18
      go_wp2_with (go_at_call 15; (with_reducible refine (impl_SessionsValid.calls k _ _ l0 true w HR0.out HC0.out Q.out).mono ?_); rintro e w1 ⟨rfl, hb⟩; have B1 := Aside0.mk hb; clear hb)
      go_ret
      exact ⟨rfl, B1.out⟩
    · have d1 : decide (a1 < 0) = false := decide_eq_false h1
      by_cases h2 : a1 ≥ 4
      · rw [if_pos (.inr (.inr h2))] at h
        obtain rfl := Option.some.inj h
        have d2 : decide (a1 ≥ 4) = true := decide_eq_true h2
        clear h h1 h2
        go_enter Try.func18, Try.ntmps18
        go_wp2_with (go_at_call 15; (with_reducible refine (impl_SessionsValid.calls k _ _ l0 true w HR0.out HC0.out Q.out).mono ?_); rintro e w1 ⟨rfl, hb⟩; have B1 := Aside0.mk hb; clear hb)
        go_ret
        exact ⟨rfl, B1.out⟩
      · have d2 : decide (a1 ≥ 4) = false := decide_eq_false h2
        rw [if_neg (by simp [h1, h2])] at h
        by_cases hs : l0.length ≤ 1000000
        · rw [if_pos hs] at h
          have SZ := Aside0.mk hs
          clear hs h1 h2
          cases hh : hitOf l0 a1 with
          | false =>
            rw [hh, if_neg (by simp)] at h
            obtain rfl := Option.some.inj h
            have HH := Aside0.mk hh
            clear h hh
            go_enter Try.func18, Try.ntmps18
            go_wp2_with (first
              | (go_at_call 15; (with_reducible refine (impl_SessionsValid.calls k _ _ l0 true w HR0.out HC0.out Q.out).mono ?_); rintro e w1 ⟨rfl, hb⟩; have B1 := Aside0.mk hb; clear hb)
              | (go_at_call 42; (with_reducible refine (impl_sessionPlace.calls _ _ l0 a1 w1 ?side1 HC0.out ?side2).mono ?_); (case side1 => exact Kd.C_below HR0.out B1.out); (case side2 => have := SZ.out; omega); rw [HH.out]; rintro e w2 ⟨rfl, hb⟩; have B2 := Aside0.mk (below_step B1.out hb); clear hb))
            go_ret
            exact ⟨rfl, B2.out⟩
          | true =>
            rw [hh, if_pos rfl] at h
            obtain rfl := Option.some.inj h
            have HH := Aside0.mk hh
            have hp : placeOf l0 a1 l0.length 0 l0.length < l0.length := by
              unfold hitOf at hh
              rw [Bool.and_eq_true, decide_eq_true_eq] at hh
              exact hh.1
            clear h hh
            generalize hR : placeOf l0 a1 l0.length 0 l0.length = R at hp ⊢
            have PR := Aside0.mk hR
            have HP := Aside0.mk hp
            clear hR
            go_enter Try.func18, Try.ntmps18
            go_wp2_with (first
              | (go_at_call 15; (with_reducible refine (impl_SessionsValid.calls k _ _ l0 true w HR0.out HC0.out Q.out).mono ?_); rintro e w1 ⟨rfl, hb⟩; have B1 := Aside0.mk hb; clear hb)
              | (go_at_call 42; (with_reducible refine (impl_sessionPlace.calls _ _ l0 a1 w1 ?side1 HC0.out ?side2).mono ?_); (case side1 => exact Kd.C_below HR0.out B1.out); (case side2 => have := SZ.out; omega); rw [HH.out, PR.out]; rintro e w2 ⟨rfl, hb⟩; have B2 := Aside0.mk (below_step B1.out hb); clear hb; obtain ⟨ad, hA, x0, x1, x2⟩ := at_T35 (Kd.C_below HR0.out B2.out) (R : Int) (by omega) (by have := HP.out; omega); cases hA; rw [Int.toNat_natCast] at x0 x1 x2; have j1 := eq_true (show (R : Int) < (l0.length : Int) by have := HP.out; omega); have j2 := eq_true HP.out))
            go_ret
            exact ⟨rfl, B2.out⟩
        · rw [if_neg hs] at h
          cases h



/-- make([]T, 0, n) -/
theorem make_cap {α : Type} {P : Program} {ops : Array Oper} {Q : Exit → Act → World → Prop} {rest : List Oper} {o : Oper} {a : Act} (d : Kd α) {w0 W : World} (base e : Nat) (hgd : o.guard = none) {N : Tmp} (hd : o.dst = some N) (t : TypeId) (x y : Operand) (ho : o.op = .makeSlice t x y) (n : Nat)
    (hx : a.eval x = .int .i64 0) (hy : a.eval y = .int .i64 (n : Int)) (ht : P.underlying t = some (.slice e)) (z : Value) (bytes : Nat) (hinfo : (P.info? e).map (fun i => (i.zero, i.size, i.bytes)) = some (some z, d.sz, bytes)) (hb0 : 0 < bytes)
    (hl : n * bytes ≤ 281474976710656) (HB : Below base w0 W) (hbase : base ≤ W.heap.size)
    (h : ∀ v1 w1, d.R e w1 base (fun _ => True) v1 [] → Below base w0 w1 → wpList P ops Q rest (a.put o.dst v1) w1) : wpList P ops Q (o :: rest) a W := by
  obtain ⟨i0, hi, hzz⟩ := Option.map_eq_some_iff.1 hinfo
  simp only [Prod.mk.injEq] at hzz
  obtain ⟨hz0, hz1, hz2⟩ := hzz
  have hm : n ≤ 281474976710656 := Nat.le_trans (Nat.le_mul_of_pos_right _ hb0) hl
  have hr := run_make (P := P) W t e i0 z ht hi hz0 .i64 .i64 0 (n : Int) (Int.le_refl _) (by omega)
    (by
      have h3 : ((i0.bytes * n : Nat) : Int) ≤ 281474976710656 := by rw [hz2, Nat.mul_comm]; omega
      rwa [Int.natCast_mul] at h3) (by omega)
  simp only [Int.toNat_zero, Int.toNat_natCast] at hr
  have hown := World.ownsRow_made (base := base) (e := e) (size := i0.size) W (madeCells z.cells (n * i0.size)) n hbase (by unfold maxLen; omega) (size_madeCells _ _)
  rw [hz1] at hown hr
  refine Kd.event_run hgd ?_ (h _ _ ⟨fun _ _ => trivial, [], hown, Reps.none _ _⟩ (HB.alloc hbase _))
  simp [execOp, ho, hx, hy, hr]

/-- sessions as cells of a row that is read are sessions as cells of a row of one's own -/
theorem ses_own (W : World) (base : Nat) (x : S35) (cs : List Value) (h : k35.K W x cs) : k35.M W base (fun _ => False) x cs := by
  obtain rfl := k35_open h
  exact k35_mkM _ _ _ x

set_option maxHeartbeats 1000000 in
theorem impl_copyOf.calls (A0 : Option Addr) (c0 : Nat) (l : List S35) (w : World) (hr0 : Kd.C k35 w A0 l.length l) (hc0 : l.length ≤ c0) (hs : l.length ≤ 1000000) :
    Calls Try.prog 44 #[.slice A0 l.length c0] w fun e w' => ∃ v0_ : Value, e = .returned v0_ ∧ Kd.R k35 35 w' w.heap.size (fun _ => True) v0_ l ∧ Below w.heap.size w w' := by
  have HR0 := Aside0.mk hr0
  clear hr0
  go_enter Try.func44, Try.ntmps44
  go_wp2_with ((with_reducible refine gate_builtin (b := .append) (xs := #[.const (.slice none 0 0), .tmp 3]) rfl ?_); at_builtin; refine Kd.R_append_rows k35 (w0 := w) w.heap.size rfl (.const (.slice none 0 0)) (.tmp 3) 25 35 (.agg #[.int .i64 0, .int .i64 0, .int .i64 0]) 24 rfl Try.underlying25 info35 rfl (by decide) (by omega) (.slice none 0 0) [] l _ _ _ (fun _ => True) (fun _ => False) rfl rfl (Kd.R_nil _ _ _ _ _) HR0.out (fun x cs h => ses_own _ _ x cs h) (fun _ h => h.elim) (fun _ _ => trivial) (Below.refl _ _) (Nat.le_refl _) (by simp only [List.length_nil]; omega) ?_; intro v1 w1 ho hb hg hat; rw [List.nil_append] at ho; have O := Aside0.mk ho; have B := Aside0.mk hb; clear ho hb hg hat)
  go_ret
  exact ⟨_, rfl, O.out, B.out⟩

set_option maxHeartbeats 2000000 in
theorem impl_replaced.calls (A0 : Option Addr) (c0 : Nat) (l : List S35) (at_ many : Nat) (A1 : Option Addr) (c1 : Nat) (by_ : List S35) (w : World) (hr0 : Kd.C k35 w A0 l.length l) (hc0 : l.length ≤ c0) (hr1 : Kd.C k35 w A1 by_.length by_) (hc1 : by_.length ≤ c1)
    (hs : l.length ≤ 1000000) (hs1 : by_.length ≤ 1000000) (ham : at_ + many ≤ l.length) :
    Calls Try.prog 43 #[.slice A0 l.length c0, .int .i64 (at_ : Int), .int .i64 (many : Int), .slice A1 by_.length c1] w fun e w' => ∃ v0_ : Value, e = .returned v0_ ∧ Kd.R k35 35 w' w.heap.size (fun _ => True) v0_ ((l.take at_ ++ by_) ++ l.drop (at_ + many)) ∧ Below w.heap.size w w' := by
  have HR0 := Aside0.mk hr0
  have HR1 := Aside0.mk hr1
  clear hr0 hr1
  have hsum : (l.length : Int) - (many : Int) + (by_.length : Int) = ((l.length - many + by_.length : Nat) : Int) := by omega
  obtain ⟨i0, hif, _, hsz, _⟩ := info_parts info35
  have hcut1 := cut_to (P := Try.prog) 25 35 .i64 Try.underlying25 hif A0 l.length c0 (at_ : Int) (by omega) (by omega) hc0
  have hcut2 := cut_from (P := Try.prog) 25 35 .i64 Try.underlying25 hif 3 hsz A0 l.length c0 ((at_ : Int) + (many : Int)) (by omega) (by omega)
  rw [Int.toNat_natCast] at hcut1
  rw [show ((at_ : Int) + (many : Int)).toNat = at_ + many by omega] at hcut2
  have C1 := Aside0.mk (fun {W : World} (h : Kd.C k35 W A0 l.length l) => show Kd.C k35 W A0 at_ (l.take at_) from by
    have := Kd.C_take h (m := at_) (by omega)
    rwa [List.length_take, Nat.min_eq_left (by omega)] at this)
  obtain ⟨A2, hA2⟩ : ∃ A2, A2 = (if c0 = at_ + many then A0 else A0.map (·.add ((at_ + many) * 3))) := ⟨_, rfl⟩
  rw [← hA2] at hcut2
  have C2 := Aside0.mk (fun {W : World} (h : Kd.C k35 W A0 l.length l) => show Kd.C k35 W A2 (l.length - (at_ + many)) (l.drop (at_ + many)) from by
    have := Kd.C_drop h (m := at_ + many) (c := c0) (by omega) hc0
    rw [List.length_drop] at this
    rw [hA2]
    exact this)
  have SUM := Aside0.mk hsum
  clear hsum hif hsz hA2
  go_enter Try.func43, Try.ntmps43
  go_wp2_with (first
    | ((with_reducible refine gate_dst (N := 17) rfl ?_); refine make_cap k35 (w0 := w) w.heap.size 35 rfl (N := 17) rfl 25 _ _ rfl (l.length - many + by_.length) rfl (congrArg (Value.int .i64) SUM.out) Try.underlying25 (.agg #[.int .i64 0, .int .i64 0, .int .i64 0]) 24 info35 (by omega) (by omega) (Below.refl _ _) (Nat.le_refl _) ?_; intro v1 w1 ho hb; have O1 := Aside0.mk ho; have B1 := Aside0.mk hb; clear ho hb)
    | ((with_reducible refine gate_builtin (b := .append) (xs := #[.tmp 18, .tmp 21]) rfl ?_); at_builtin; refine Kd.R_append_rows k35 (w0 := w) w.heap.size rfl (.tmp 18) (.tmp 21) 25 35 (.agg #[.int .i64 0, .int .i64 0, .int .i64 0]) 24 rfl Try.underlying25 info35 rfl (by decide) (by omega) v1 [] (l.take at_) _ _ _ (fun _ => True) (fun _ => False) rfl rfl O1.out (C1.out (Kd.C_below HR0.out B1.out)) (fun x cs h => ses_own _ _ x cs h) (fun _ h => h.elim) (fun _ _ => trivial) B1.out (below_size B1.out) (by simp only [List.length_nil]; omega) ?_; intro v2 w2 ho hb hg hat; rw [List.nil_append] at ho; have O2 := Aside0.mk ho; have B2 := Aside0.mk hb; clear ho hb hg hat)
    | ((with_reducible refine gate_builtin (b := .append) (xs := #[.tmp 23, .tmp 24]) rfl ?_); at_builtin; refine Kd.R_append_rows k35 (w0 := w) w.heap.size rfl (.tmp 23) (.tmp 24) 25 35 (.agg #[.int .i64 0, .int .i64 0, .int .i64 0]) 24 rfl Try.underlying25 info35 rfl (by decide) (by omega) v2 (l.take at_) by_ _ _ _ (fun _ => True) (fun _ => False) rfl rfl O2.out (Kd.C_below HR1.out B2.out) (fun x cs h => ses_own _ _ x cs h) (fun _ h => h.elim) (fun _ _ => trivial) B2.out (below_size B2.out) (by simp only [List.length_take]; omega) ?_; intro v3 w3 ho hb hg hat; have O3 := Aside0.mk ho; have B3 := Aside0.mk hb; clear ho hb hg hat)
    | ((with_reducible refine gate_builtin (b := .append) (xs := #[.tmp 26, .tmp 31]) rfl ?_); at_builtin; refine Kd.R_append_rows k35 (w0 := w) w.heap.size rfl (.tmp 26) (.tmp 31) 25 35 (.agg #[.int .i64 0, .int .i64 0, .int .i64 0]) 24 rfl Try.underlying25 info35 rfl (by decide) (by omega) v3 (l.take at_ ++ by_) (l.drop (at_ + many)) _ _ _ (fun _ => True) (fun _ => False) rfl rfl O3.out (C2.out (Kd.C_below HR0.out B3.out)) (fun x cs h => ses_own _ _ x cs h) (fun _ h => h.elim) (fun _ _ => trivial) B3.out (below_size B3.out) (by simp only [List.length_append, List.length_take]; omega) ?_; intro v4 w4 ho hb hg hat; have O4 := Aside0.mk ho; have B4 := Aside0.mk hb; clear ho hb hg hat))
  go_ret
  exact ⟨_, rfl, O4.out, B4.out⟩



theorem placeOf_le (l : List S35) (c : Int) : ∀ (d lo hi : Nat), lo ≤ hi → placeOf l c d lo hi ≤ hi
  | 0, _, _, h => h
  | d + 1, lo, hi, h => by
    rw [placeOf]
    by_cases hlt : lo < hi
    · rw [if_pos hlt]
      split
      · exact placeOf_le l c d _ _ (by omega)
      · exact Nat.le_trans (placeOf_le l c d _ _ (by omega)) (by omega)
    · rw [if_neg hlt]
      exact h
def plOf (l : List S35) (c : Int) : Nat := placeOf l c l.length 0 l.length
def impl_SessionPut.f (k : Nat) (l : List S35) (a b c : Int) : Option (List S35 × Bool) :=
  (impl_SessionsValid.f k l).bind fun q => if q = false then some ([], false) else (impl_SessionsValid.f k [⟨a, b, c⟩]).bind fun q2 => if q2 = false then some ([], false) else
    if l.length ≤ 1000000 then
      (if hitOf l a = false then some ((l.take (plOf l a) ++ [⟨a, b, c⟩]) ++ l.drop (plOf l a + 0), true)
        else if (rd_T35 l ((plOf l a : Nat) : Int)).f1 ≥ b then some (l, false) else some ((l.take (plOf l a) ++ [⟨a, b, c⟩]) ++ l.drop (plOf l a + 1), true)) else none
def bits (n m : Nat) : Array Bool := ((List.range n).map fun i => m.testBit i).toArray
def impl_SessionPut.T6 : Bool × List (List Nat × List Nat) := (true, [([], []), ([], []), ([0, 1], [0, 1]), ([2], [2]), ([3], [3]), ([], []), ([5], [5]), ([4, 6], [4, 6])])
def impl_SessionPut.B6 : List Nat := [0, 0, 3, 7, 15, 0, 32, 127]
theorem impl_SessionPut.tab6 : rtab .any (opsOf Try.f21 6) = impl_SessionPut.T6 := by kernel_rfl
theorem impl_SessionPut.bits6 : waitsOk impl_SessionPut.T6.2 impl_SessionPut.B6 = true := by kernel_rfl

set_option maxHeartbeats 4000000 in
set_option maxRecDepth 100000 in
theorem impl_SessionPut.calls (k : Nat) (A0 : Option Addr) (c0 : Nat) (l : List S35) (a b c : Int) (r1 : List S35) (r2 : Bool) (w : World) (hr0 : Kd.C k35 w A0 l.length l) (hc0 : l.length ≤ c0) (h : impl_SessionPut.f k l a b c = some (r1, r2)) :
    Calls Try.prog 21 #[.slice A0 l.length c0, .agg #[.int .i64 a, .int .i64 b, .int .i64 c]] w fun e w' => ∃ v0_ : Value, e = .returned (.tuple #[v0_, .bool r2]) ∧ Kd.R k35 35 w' w.heap.size (fun _ => True) v0_ r1 ∧ Below w.heap.size w w' := by
  have hu := Try.underlying35
  have HR0 := Aside0.mk hr0
  have HC0 := Aside0.mk hc0
  clear hr0 hc0
  unfold impl_SessionPut.f at h
  replace h := Option.bind_eq_some_iff.mp h
  obtain ⟨q, h1, h⟩ := h
  have X1 := Aside0.mk h1
  clear h1
  cases q with
  | false =>
    rw [if_pos rfl] at h
    obtain ⟨rfl, rfl⟩ : r1 = [] ∧ r2 = false := by simpa [eq_comm] using h
    clear h
    go_enter Try.func21, Try.ntmps21
    go_wp2_with (first
      | ((with_reducible refine gate_dst (N := 3) rfl ?_); refine box_event ?hg (N := 3) ?hd (cs := #[.int .i64 a, .int .i64 b, .int .i64 c]) (t := 35) ?hr ?_; (case hd => rfl); (case hg => rfl); (case hr => first | (go_simp; done) | (go_simp; rfl)); intro g hg w1 hc hb; have B1 := Aside0.mk hb; have hF := hc; clear hc hb hg; have F1 := Aside0.mk hF; have c10 : w1.cell? ⟨g, 0, none⟩ = some (.int .i64 a) := (blk_cell hF 0).trans rfl; have c11 : w1.cell? ⟨g, 1, none⟩ = some (.int .i64 b) := (blk_cell hF 1).trans rfl; have c12 : w1.cell? ⟨g, 2, none⟩ = some (.int .i64 c) := (blk_cell hF 2).trans rfl; clear hF)
      | (go_at_call 15; (with_reducible refine (impl_SessionsValid.calls k _ _ l false w1 ?side1 HC0.out X1.out).mono ?_); (case side1 => exact Kd.C_below HR0.out B1.out); rintro e w2 ⟨rfl, hb⟩; have hF := blk_below F1.out hb; have B2 := Aside0.mk (below_step B1.out hb); clear hb; have F2 := Aside0.mk hF; have c20 : w2.cell? ⟨g, 0, none⟩ = some (.int .i64 a) := (blk_cell hF 0).trans rfl; have c21 : w2.cell? ⟨g, 1, none⟩ = some (.int .i64 b) := (blk_cell hF 1).trans rfl; have c22 : w2.cell? ⟨g, 2, none⟩ = some (.int .i64 c) := (blk_cell hF 2).trans rfl; clear hF))
    go_ret2
    exact ⟨_, rfl, Kd.R_nil _ _ _ _ _, B2.out⟩
  | true =>
    rw [if_neg (by simp)] at h
    replace h := Option.bind_eq_some_iff.mp h
    obtain ⟨q2, h2, h⟩ := h
    have X2 := Aside0.mk h2
    clear h2
    cases q2 with
    | false =>
      rw [if_pos rfl] at h
      obtain ⟨rfl, rfl⟩ : r1 = [] ∧ r2 = false := by simpa [eq_comm] using h
      clear h
      go_enter Try.func21, Try.ntmps21
      go_wp2_with (first
        | ((with_reducible refine gate_dst (N := 3) rfl ?_); refine box_event ?hg (N := 3) ?hd (cs := #[.int .i64 a, .int .i64 b, .int .i64 c]) (t := 35) ?hr ?_; (case hd => rfl); (case hg => rfl); (case hr => first | (go_simp; done) | (go_simp; rfl)); intro g hg w1 hc hb; have B1 := Aside0.mk hb; have hF := hc; clear hc hb hg; have F1 := Aside0.mk hF; have c10 : w1.cell? ⟨g, 0, none⟩ = some (.int .i64 a) := (blk_cell hF 0).trans rfl; have c11 : w1.cell? ⟨g, 1, none⟩ = some (.int .i64 b) := (blk_cell hF 1).trans rfl; have c12 : w1.cell? ⟨g, 2, none⟩ = some (.int .i64 c) := (blk_cell hF 2).trans rfl; clear hF)
        | (go_at_call 15; (with_reducible refine (impl_SessionsValid.calls k _ _ l true w1 ?side1 HC0.out X1.out).mono ?_); (case side1 => exact Kd.C_below HR0.out B1.out); rintro e w2 ⟨rfl, hb⟩; have hF := blk_below F1.out hb; have B2 := Aside0.mk (below_step B1.out hb); clear hb; have F2 := Aside0.mk hF; have c20 : w2.cell? ⟨g, 0, none⟩ = some (.int .i64 a) := (blk_cell hF 0).trans rfl; have c21 : w2.cell? ⟨g, 1, none⟩ = some (.int .i64 b) := (blk_cell hF 1).trans rfl; have c22 : w2.cell? ⟨g, 2, none⟩ = some (.int .i64 c) := (blk_cell hF 2).trans rfl; clear hF)
        | ((with_reducible refine gate_dst (N := 13) rfl ?_); (try (refine gate_guard (by rfl) ?_; dsimp only)); refine Kd.R_lit k35 _ 35 ?hg (N := 13) ?hd (xs := ([⟨a, b, c⟩] : List S35)) (inner := [.int .i64 a, .int .i64 b, .int .i64 c]) (ok := fun _ => True) (okp := fun _ => True) ?hr ?hp (fun _ hk => hk) trivial (Below.refl _ _) (Nat.le_refl _) (by simp) ?_; (case hd => rfl); (case hg => rfl); (case hr => first | (go_simp; done) | (go_simp; rfl)); (case hp => exact (Reps.c3 (k35_mkM _ _ _ (⟨a, b, c⟩ : S35)) (Reps.none _ _))); intro v3 w3 ho hb _ _; obtain ⟨A3, k3, ee⟩ := Kd.R_slice ho; subst ee; have V3 := Aside0.mk (Kd.R_reads' ho).2.2; have L3 := Aside0.mk (Kd.R_reads' ho).2.1; clear ho; have hF := blk_below F2.out hb; have B3 := Aside0.mk (below_step B2.out hb); clear hb; have F3 := Aside0.mk hF; have c30 : w3.cell? ⟨g, 0, none⟩ = some (.int .i64 a) := (blk_cell hF 0).trans rfl; have c31 : w3.cell? ⟨g, 1, none⟩ = some (.int .i64 b) := (blk_cell hF 1).trans rfl; have c32 : w3.cell? ⟨g, 2, none⟩ = some (.int .i64 c) := (blk_cell hF 2).trans rfl; clear hF)
        | (go_at_call 15; refine (show Calls Try.prog 15 #[.slice A3 1 k3] w3 _ from impl_SessionsValid.calls k A3 k3 [⟨a, b, c⟩] false w3 V3.out L3.out X2.out).mono ?_; rintro e w4 ⟨rfl, hb⟩; have hF := blk_below F3.out hb; have B4 := Aside0.mk (below_step B3.out hb); clear hb; have F4 := Aside0.mk hF; have c40 : w4.cell? ⟨g, 0, none⟩ = some (.int .i64 a) := (blk_cell hF 0).trans rfl; have c41 : w4.cell? ⟨g, 1, none⟩ = some (.int .i64 b) := (blk_cell hF 1).trans rfl; have c42 : w4.cell? ⟨g, 2, none⟩ = some (.int .i64 c) := (blk_cell hF 2).trans rfl; clear hF))
      go_ret2
      exact ⟨_, rfl, Kd.R_nil _ _ _ _ _, B4.out⟩
    | true =>
      rw [if_neg (by simp)] at h
      by_cases hs : l.length ≤ 1000000
      · rw [if_pos hs] at h
        have SZ := Aside0.mk hs
        clear hs
        have hle : plOf l a ≤ l.length := placeOf_le l a l.length 0 l.length (Nat.zero_le _)
        have hhit : hitOf l a = true → plOf l a < l.length := fun hh => by
          unfold hitOf at hh
          rw [Bool.and_eq_true, decide_eq_true_eq] at hh
          exact hh.1
        obtain ⟨R, hR⟩ : ∃ R, R = plOf l a := ⟨_, rfl⟩
        have PR := Aside0.mk (show placeOf l a l.length 0 l.length = R from hR.symm)
        rw [← hR] at h hle hhit
        clear hR
        cases hh : hitOf l a with
        | false =>
          rw [hh, if_pos rfl] at h
          obtain ⟨rfl, rfl⟩ : (l.take R ++ [⟨a, b, c⟩]) ++ l.drop (R + 0) = r1 ∧ true = r2 := by simpa using h
          have HH := Aside0.mk hh
          have HP := Aside0.mk hle
          clear h hh hle hhit
          go_enter Try.func21, Try.ntmps21
          go_wp2_with (first
            | ((with_reducible refine gate_dst (N := 3) rfl ?_); refine box_event ?hg (N := 3) ?hd (cs := #[.int .i64 a, .int .i64 b, .int .i64 c]) (t := 35) ?hr ?_; (case hd => rfl); (case hg => rfl); (case hr => first | (go_simp; done) | (go_simp; rfl)); intro g hg w1 hc hb; have B1 := Aside0.mk hb; have hF := hc; clear hc hb hg; have F1 := Aside0.mk hF; have c10 : w1.cell? ⟨g, 0, none⟩ = some (.int .i64 a) := (blk_cell hF 0).trans rfl; have c11 : w1.cell? ⟨g, 1, none⟩ = some (.int .i64 b) := (blk_cell hF 1).trans rfl; have c12 : w1.cell? ⟨g, 2, none⟩ = some (.int .i64 c) := (blk_cell hF 2).trans rfl; clear hF)
            | (go_at_call 15; (with_reducible refine (impl_SessionsValid.calls k _ _ l true w1 ?side1 HC0.out X1.out).mono ?_); (case side1 => exact Kd.C_below HR0.out B1.out); rintro e w2 ⟨rfl, hb⟩; have hF := blk_below F1.out hb; have B2 := Aside0.mk (below_step B1.out hb); clear hb; have F2 := Aside0.mk hF; have c20 : w2.cell? ⟨g, 0, none⟩ = some (.int .i64 a) := (blk_cell hF 0).trans rfl; have c21 : w2.cell? ⟨g, 1, none⟩ = some (.int .i64 b) := (blk_cell hF 1).trans rfl; have c22 : w2.cell? ⟨g, 2, none⟩ = some (.int .i64 c) := (blk_cell hF 2).trans rfl; clear hF)
            | ((with_reducible refine gate_dst (N := 13) rfl ?_); (try (refine gate_guard (by rfl) ?_; dsimp only)); refine Kd.R_lit k35 _ 35 ?hg (N := 13) ?hd (xs := ([⟨a, b, c⟩] : List S35)) (inner := [.int .i64 a, .int .i64 b, .int .i64 c]) (ok := fun _ => True) (okp := fun _ => True) ?hr ?hp (fun _ hk => hk) trivial (Below.refl _ _) (Nat.le_refl _) (by simp) ?_; (case hd => rfl); (case hg => rfl); (case hr => first | (go_simp; done) | (go_simp; rfl)); (case hp => exact (Reps.c3 (k35_mkM _ _ _ (⟨a, b, c⟩ : S35)) (Reps.none _ _))); intro v3 w3 ho hb _ _; obtain ⟨A3, k3, ee⟩ := Kd.R_slice ho; subst ee; have V3 := Aside0.mk (Kd.R_reads' ho).2.2; have L3 := Aside0.mk (Kd.R_reads' ho).2.1; clear ho; have hF := blk_below F2.out hb; have B3 := Aside0.mk (below_step B2.out hb); clear hb; have F3 := Aside0.mk hF; have c30 : w3.cell? ⟨g, 0, none⟩ = some (.int .i64 a) := (blk_cell hF 0).trans rfl; have c31 : w3.cell? ⟨g, 1, none⟩ = some (.int .i64 b) := (blk_cell hF 1).trans rfl; have c32 : w3.cell? ⟨g, 2, none⟩ = some (.int .i64 c) := (blk_cell hF 2).trans rfl; clear hF)
            | (go_at_call 15; refine (show Calls Try.prog 15 #[.slice A3 1 k3] w3 _ from impl_SessionsValid.calls k A3 k3 [⟨a, b, c⟩] true w3 V3.out L3.out X2.out).mono ?_; rintro e w4 ⟨rfl, hb⟩; have hF := blk_below F3.out hb; have B4 := Aside0.mk (below_step B3.out hb); clear hb; have F4 := Aside0.mk hF; have c40 : w4.cell? ⟨g, 0, none⟩ = some (.int .i64 a) := (blk_cell hF 0).trans rfl; have c41 : w4.cell? ⟨g, 1, none⟩ = some (.int .i64 b) := (blk_cell hF 1).trans rfl; have c42 : w4.cell? ⟨g, 2, none⟩ = some (.int .i64 c) := (blk_cell hF 2).trans rfl; clear hF)
            | (go_at_call 42; (with_reducible refine (impl_sessionPlace.calls _ _ l a w4 ?side1 HC0.out ?side2).mono ?_); (case side1 => exact Kd.C_below HR0.out B4.out); (case side2 => have := SZ.out; omega); rw [HH.out, PR.out]; rintro e w5 ⟨rfl, hb⟩; have hF := blk_below F4.out hb; have B5 := Aside0.mk (below_step B4.out hb); clear hb; have F5 := Aside0.mk hF; have c50 : w5.cell? ⟨g, 0, none⟩ = some (.int .i64 a) := (blk_cell hF 0).trans rfl; have c51 : w5.cell? ⟨g, 1, none⟩ = some (.int .i64 b) := (blk_cell hF 1).trans rfl; have c52 : w5.cell? ⟨g, 2, none⟩ = some (.int .i64 c) := (blk_cell hF 2).trans rfl; clear hF)
            | ((with_reducible refine gate_dst (N := 29) rfl ?_); (try (refine gate_guard (by rfl) ?_; dsimp only)); refine Kd.R_lit k35 _ 35 ?hg (N := 29) ?hd (xs := ([⟨a, b, c⟩] : List S35)) (inner := [.int .i64 a, .int .i64 b, .int .i64 c]) (ok := fun _ => True) (okp := fun _ => True) ?hr ?hp (fun _ hk => hk) trivial (Below.refl _ _) (Nat.le_refl _) (by simp) ?_; (case hd => rfl); (case hg => rfl); (case hr => first | (go_simp; done) | (go_simp; rfl)); (case hp => exact (Reps.c3 (k35_mkM _ _ _ (⟨a, b, c⟩ : S35)) (Reps.none _ _))); intro v6 w6 ho hb _ _; obtain ⟨A6, k6, ee⟩ := Kd.R_slice ho; subst ee; have V6 := Aside0.mk (Kd.R_reads' ho).2.2; have L6 := Aside0.mk (Kd.R_reads' ho).2.1; clear ho; have hF := blk_below F5.out hb; have B6 := Aside0.mk (below_step B5.out hb); clear hb; have F6 := Aside0.mk hF; have c60 : w6.cell? ⟨g, 0, none⟩ = some (.int .i64 a) := (blk_cell hF 0).trans rfl; have c61 : w6.cell? ⟨g, 1, none⟩ = some (.int .i64 b) := (blk_cell hF 1).trans rfl; have c62 : w6.cell? ⟨g, 2, none⟩ = some (.int .i64 c) := (blk_cell hF 2).trans rfl; clear hF)
            | (go_at_call 43; refine (show Calls Try.prog 43 #[.slice A0 l.length c0, .int .i64 (R : Int), .int .i64 0, .slice A6 1 k6] w6 _ from impl_replaced.calls A0 c0 l R 0 A6 k6 [⟨a, b, c⟩] w6 (Kd.C_below HR0.out B6.out) HC0.out V6.out L6.out SZ.out (by simp) (by have := HP.out; omega)).mono ?_; rintro e w7 ⟨v7, rfl, ho, hb⟩; have O := Aside0.mk (Kd.R_lower ho (below_size B6.out)); have B := Aside0.mk (below_step B6.out hb); clear ho hb))
          go_ret2
          exact ⟨_, rfl, O.out, B.out⟩
        | true =>
          rw [hh, if_neg (by simp)] at h
          have HH := Aside0.mk hh
          have HP := Aside0.mk (hhit hh)
          clear hh hle hhit
          by_cases hb : (rd_T35 l ((R : Nat) : Int)).f1 ≥ b
          · rw [if_pos hb] at h
            obtain ⟨rfl, rfl⟩ : l = r1 ∧ false = r2 := by simpa using h
            have db : decide ((rd_T35 l ((R : Nat) : Int)).f1 ≥ b) = true := decide_eq_true hb
            clear h hb
            go_enter Try.func21, Try.ntmps21
            go_wp2_with (first
              | ((with_reducible refine gate_dst (N := 3) rfl ?_); refine box_event ?hg (N := 3) ?hd (cs := #[.int .i64 a, .int .i64 b, .int .i64 c]) (t := 35) ?hr ?_; (case hd => rfl); (case hg => rfl); (case hr => first | (go_simp; done) | (go_simp; rfl)); intro g hg w1 hc hb; have B1 := Aside0.mk hb; have hF := hc; clear hc hb hg; have F1 := Aside0.mk hF; have c10 : w1.cell? ⟨g, 0, none⟩ = some (.int .i64 a) := (blk_cell hF 0).trans rfl; have c11 : w1.cell? ⟨g, 1, none⟩ = some (.int .i64 b) := (blk_cell hF 1).trans rfl; have c12 : w1.cell? ⟨g, 2, none⟩ = some (.int .i64 c) := (blk_cell hF 2).trans rfl; clear hF)
              | (go_at_call 15; (with_reducible refine (impl_SessionsValid.calls k _ _ l true w1 ?side1 HC0.out X1.out).mono ?_); (case side1 => exact Kd.C_below HR0.out B1.out); rintro e w2 ⟨rfl, hb⟩; have hF := blk_below F1.out hb; have B2 := Aside0.mk (below_step B1.out hb); clear hb; have F2 := Aside0.mk hF; have c20 : w2.cell? ⟨g, 0, none⟩ = some (.int .i64 a) := (blk_cell hF 0).trans rfl; have c21 : w2.cell? ⟨g, 1, none⟩ = some (.int .i64 b) := (blk_cell hF 1).trans rfl; have c22 : w2.cell? ⟨g, 2, none⟩ = some (.int .i64 c) := (blk_cell hF 2).trans rfl; clear hF)
              | ((with_reducible refine gate_dst (N := 13) rfl ?_); (try (refine gate_guard (by rfl) ?_; dsimp only)); refine Kd.R_lit k35 _ 35 ?hg (N := 13) ?hd (xs := ([⟨a, b, c⟩] : List S35)) (inner := [.int .i64 a, .int .i64 b, .int .i64 c]) (ok := fun _ => True) (okp := fun _ => True) ?hr ?hp (fun _ hk => hk) trivial (Below.refl _ _) (Nat.le_refl _) (by simp) ?_; (case hd => rfl); (case hg => rfl); (case hr => first | (go_simp; done) | (go_simp; rfl)); (case hp => exact (Reps.c3 (k35_mkM _ _ _ (⟨a, b, c⟩ : S35)) (Reps.none _ _))); intro v3 w3 ho hb _ _; obtain ⟨A3, k3, ee⟩ := Kd.R_slice ho; subst ee; have V3 := Aside0.mk (Kd.R_reads' ho).2.2; have L3 := Aside0.mk (Kd.R_reads' ho).2.1; clear ho; have hF := blk_below F2.out hb; have B3 := Aside0.mk (below_step B2.out hb); clear hb; have F3 := Aside0.mk hF; have c30 : w3.cell? ⟨g, 0, none⟩ = some (.int .i64 a) := (blk_cell hF 0).trans rfl; have c31 : w3.cell? ⟨g, 1, none⟩ = some (.int .i64 b) := (blk_cell hF 1).trans rfl; have c32 : w3.cell? ⟨g, 2, none⟩ = some (.int .i64 c) := (blk_cell hF 2).trans rfl; clear hF)
              | (go_at_call 15; refine (show Calls Try.prog 15 #[.slice A3 1 k3] w3 _ from impl_SessionsValid.calls k A3 k3 [⟨a, b, c⟩] true w3 V3.out L3.out X2.out).mono ?_; rintro e w4 ⟨rfl, hb⟩; have hF := blk_below F3.out hb; have B4 := Aside0.mk (below_step B3.out hb); clear hb; have F4 := Aside0.mk hF; have c40 : w4.cell? ⟨g, 0, none⟩ = some (.int .i64 a) := (blk_cell hF 0).trans rfl; have c41 : w4.cell? ⟨g, 1, none⟩ = some (.int .i64 b) := (blk_cell hF 1).trans rfl; have c42 : w4.cell? ⟨g, 2, none⟩ = some (.int .i64 c) := (blk_cell hF 2).trans rfl; clear hF)
              | (go_at_call 42; (with_reducible refine (impl_sessionPlace.calls _ _ l a w4 ?side1 HC0.out ?side2).mono ?_); (case side1 => exact Kd.C_below HR0.out B4.out); (case side2 => have := SZ.out; omega); rw [HH.out, PR.out]; rintro e w5 ⟨rfl, hb⟩; have hF := blk_below F4.out hb; have B5 := Aside0.mk (below_step B4.out hb); clear hb; have F5 := Aside0.mk hF; have c50 : w5.cell? ⟨g, 0, none⟩ = some (.int .i64 a) := (blk_cell hF 0).trans rfl; have c51 : w5.cell? ⟨g, 1, none⟩ = some (.int .i64 b) := (blk_cell hF 1).trans rfl; have c52 : w5.cell? ⟨g, 2, none⟩ = some (.int .i64 c) := (blk_cell hF 2).trans rfl; clear hF; obtain ⟨ad, hA, x0, x1, x2⟩ := at_T35 (Kd.C_below HR0.out B5.out) (R : Int) (by omega) (by have := HP.out; omega); cases hA; rw [Int.toNat_natCast] at x0 x1 x2; have j1 := eq_true (show (R : Int) < (l.length : Int) by have := HP.out; omega); have j2 := eq_true (show R < l.length by have := HP.out; omega)))
            refine start_ (n := 8) (S := fun W => W = w5.drew) (ds := []) #[false, false, false, false, false, false, false, false] (by kernel_rfl) rfl rfl (rfl) (fun hHeld => ?_); refine with_tabW impl_SessionPut.tab6 impl_SessionPut.bits6 (fun HT_ HW_ => ?_)
            have B6 := Aside0.mk (below_drew B5.out)
            have hF := blk_drew F5.out
            have d0 : w5.drew.cell? ⟨g, 0, none⟩ = some (.int .i64 a) := (blk_cell hF 0).trans rfl
            have d1 : w5.drew.cell? ⟨g, 1, none⟩ = some (.int .i64 b) := (blk_cell hF 1).trans rfl
            have d2 : w5.drew.cell? ⟨g, 2, none⟩ = some (.int .i64 c) := (blk_cell hF 2).trans rfl
            replace x1 : w5.drew.cell? _ = _ := x1
            have F6 := Aside0.mk hF
            clear hF
            generalize w5.drew = w6 at *
            refine pure_ (i := 0) (N := some 31) (v := ?_) (a' := ?_) (bits 8 1) rfl rfl (any_of HT_.out (by kernel_rfl)) (fun _ _ _ h => h) (Or.inl ⟨by rfl, ?_⟩) ?_ ?_
            rotate_left
            · intro w'
              go_simp
              with_reducible rfl
            rotate_left
            · simp only [Act.put, List.setIfInBounds_toArray, List.set_cons_zero, List.set_cons_succ, i64_w, i32_w]
              rfl
            refine pure_ (i := 1) (N := some 32) (v := ?_) (a' := ?_) (bits 8 3) rfl rfl (any_of HT_.out (by kernel_rfl)) (fun _ _ _ h => h) (Or.inl ⟨by rfl, ?_⟩) ?_ ?_
            rotate_left
            · intro w'
              go_simp
              with_reducible rfl
            rotate_left
            · simp only [Act.put, List.setIfInBounds_toArray, List.set_cons_zero, List.set_cons_succ, i64_w, i32_w]
              rfl
            refine pure_ (i := 2) (N := some 33) (v := ?_) (a' := ?_) (bits 8 7) rfl rfl (any_of HT_.out (by kernel_rfl)) (fun _ _ _ h => h) (Or.inl ⟨by rfl, ?_⟩) ?_ ?_
            rotate_left
            · intro w'
              go_simp
              with_reducible rfl
            rotate_left
            · simp only [Act.put, List.setIfInBounds_toArray, List.set_cons_zero, List.set_cons_succ, i64_w, i32_w]
              rfl
            refine pure_ (i := 3) (N := some 34) (v := ?_) (a' := ?_) (bits 8 15) rfl rfl (any_of HT_.out (by kernel_rfl)) (fun _ _ _ h => h) (Or.inl ⟨by rfl, ?_⟩) ?_ ?_
            rotate_left
            · intro w'
              go_simp
              with_reducible rfl
            rotate_left
            · simp only [Act.put, List.setIfInBounds_toArray, List.set_cons_zero, List.set_cons_succ, i64_w, i32_w]
              rfl
            refine take_ (i := 4) (N := some 35) (v := ?_) (a' := ?_) (bits 8 31) rfl rfl (take_ofW HT_.out HW_.out (by kernel_rfl)) (fun _ _ _ h => h) (Or.inl ⟨by rfl, ?_⟩) hHeld ?_ ?_
            rotate_left
            · intro w' hS
              subst hS
              go_simp
              with_reducible rfl
            rotate_left
            · simp only [Act.put, List.setIfInBounds_toArray, List.set_cons_zero, List.set_cons_succ, i64_w, i32_w]
              rfl
            refine pure_ (i := 5) (N := some 36) (v := ?_) (a' := ?_) (bits 8 63) rfl rfl (any_of HT_.out (by kernel_rfl)) (fun _ _ _ h => h) (Or.inl ⟨by rfl, ?_⟩) ?_ ?_
            rotate_left
            · intro w'
              go_simp
              with_reducible rfl
            rotate_left
            · simp only [Act.put, List.setIfInBounds_toArray, List.set_cons_zero, List.set_cons_succ, i64_w, i32_w]
              rfl
            refine take_ (i := 6) (N := some 37) (v := ?_) (a' := ?_) (bits 8 127) rfl rfl (take_ofW HT_.out HW_.out (by kernel_rfl)) (fun _ _ _ h => h) (Or.inl ⟨by rfl, ?_⟩) hHeld ?_ ?_
            rotate_left
            · intro w' hS
              subst hS
              go_simp
              with_reducible rfl
            rotate_left
            · simp only [Act.put, List.setIfInBounds_toArray, List.set_cons_zero, List.set_cons_succ, i64_w, i32_w]
              rfl
            refine pure_ (i := 7) (N := some 38) (v := ?_) (a' := ?_) (bits 8 255) rfl rfl (any_of HT_.out (by kernel_rfl)) (fun _ _ _ h => h) (Or.inl ⟨by rfl, ?_⟩) ?_ ?_
            rotate_left
            · intro w'
              go_simp
              with_reducible rfl
            rotate_left
            · simp only [Act.put, List.setIfInBounds_toArray, List.set_cons_zero, List.set_cons_succ, i64_w, i32_w]
              rfl
            refine done_ (done_of HT_.out (by kernel_rfl)) ?_
            go_wp2_with (first
              | (go_at_call 44; (with_reducible refine (impl_copyOf.calls _ c0 l w6 ?side1 HC0.out SZ.out).mono ?_); (case side1 => exact Kd.C_below HR0.out B6.out); rintro e w7 ⟨v7, rfl, ho, hb⟩; have O := Aside0.mk (Kd.R_lower ho (below_size B6.out)); have B := Aside0.mk (below_step B6.out hb); clear ho hb))
            go_ret2
            exact ⟨_, rfl, O.out, B.out⟩
          · rw [if_neg hb] at h
            obtain ⟨rfl, rfl⟩ : (l.take R ++ [⟨a, b, c⟩]) ++ l.drop (R + 1) = r1 ∧ true = r2 := by simpa using h
            have db : decide ((rd_T35 l ((R : Nat) : Int)).f1 ≥ b) = false := decide_eq_false hb
            clear h hb
            go_enter Try.func21, Try.ntmps21
            go_wp2_with (first
              | ((with_reducible refine gate_dst (N := 3) rfl ?_); refine box_event ?hg (N := 3) ?hd (cs := #[.int .i64 a, .int .i64 b, .int .i64 c]) (t := 35) ?hr ?_; (case hd => rfl); (case hg => rfl); (case hr => first | (go_simp; done) | (go_simp; rfl)); intro g hg w1 hc hb; have B1 := Aside0.mk hb; have hF := hc; clear hc hb hg; have F1 := Aside0.mk hF; have c10 : w1.cell? ⟨g, 0, none⟩ = some (.int .i64 a) := (blk_cell hF 0).trans rfl; have c11 : w1.cell? ⟨g, 1, none⟩ = some (.int .i64 b) := (blk_cell hF 1).trans rfl; have c12 : w1.cell? ⟨g, 2, none⟩ = some (.int .i64 c) := (blk_cell hF 2).trans rfl; clear hF)
              | (go_at_call 15; (with_reducible refine (impl_SessionsValid.calls k _ _ l true w1 ?side1 HC0.out X1.out).mono ?_); (case side1 => exact Kd.C_below HR0.out B1.out); rintro e w2 ⟨rfl, hb⟩; have hF := blk_below F1.out hb; have B2 := Aside0.mk (below_step B1.out hb); clear hb; have F2 := Aside0.mk hF; have c20 : w2.cell? ⟨g, 0, none⟩ = some (.int .i64 a) := (blk_cell hF 0).trans rfl; have c21 : w2.cell? ⟨g, 1, none⟩ = some (.int .i64 b) := (blk_cell hF 1).trans rfl; have c22 : w2.cell? ⟨g, 2, none⟩ = some (.int .i64 c) := (blk_cell hF 2).trans rfl; clear hF)
              | ((with_reducible refine gate_dst (N := 13) rfl ?_); (try (refine gate_guard (by rfl) ?_; dsimp only)); refine Kd.R_lit k35 _ 35 ?hg (N := 13) ?hd (xs := ([⟨a, b, c⟩] : List S35)) (inner := [.int .i64 a, .int .i64 b, .int .i64 c]) (ok := fun _ => True) (okp := fun _ => True) ?hr ?hp (fun _ hk => hk) trivial (Below.refl _ _) (Nat.le_refl _) (by simp) ?_; (case hd => rfl); (case hg => rfl); (case hr => first | (go_simp; done) | (go_simp; rfl)); (case hp => exact (Reps.c3 (k35_mkM _ _ _ (⟨a, b, c⟩ : S35)) (Reps.none _ _))); intro v3 w3 ho hb _ _; obtain ⟨A3, k3, ee⟩ := Kd.R_slice ho; subst ee; have V3 := Aside0.mk (Kd.R_reads' ho).2.2; have L3 := Aside0.mk (Kd.R_reads' ho).2.1; clear ho; have hF := blk_below F2.out hb; have B3 := Aside0.mk (below_step B2.out hb); clear hb; have F3 := Aside0.mk hF; have c30 : w3.cell? ⟨g, 0, none⟩ = some (.int .i64 a) := (blk_cell hF 0).trans rfl; have c31 : w3.cell? ⟨g, 1, none⟩ = some (.int .i64 b) := (blk_cell hF 1).trans rfl; have c32 : w3.cell? ⟨g, 2, none⟩ = some (.int .i64 c) := (blk_cell hF 2).trans rfl; clear hF)
              | (go_at_call 15; refine (show Calls Try.prog 15 #[.slice A3 1 k3] w3 _ from impl_SessionsValid.calls k A3 k3 [⟨a, b, c⟩] true w3 V3.out L3.out X2.out).mono ?_; rintro e w4 ⟨rfl, hb⟩; have hF := blk_below F3.out hb; have B4 := Aside0.mk (below_step B3.out hb); clear hb; have F4 := Aside0.mk hF; have c40 : w4.cell? ⟨g, 0, none⟩ = some (.int .i64 a) := (blk_cell hF 0).trans rfl; have c41 : w4.cell? ⟨g, 1, none⟩ = some (.int .i64 b) := (blk_cell hF 1).trans rfl; have c42 : w4.cell? ⟨g, 2, none⟩ = some (.int .i64 c) := (blk_cell hF 2).trans rfl; clear hF)
              | (go_at_call 42; (with_reducible refine (impl_sessionPlace.calls _ _ l a w4 ?side1 HC0.out ?side2).mono ?_); (case side1 => exact Kd.C_below HR0.out B4.out); (case side2 => have := SZ.out; omega); rw [HH.out, PR.out]; rintro e w5 ⟨rfl, hb⟩; have hF := blk_below F4.out hb; have B5 := Aside0.mk (below_step B4.out hb); clear hb; have F5 := Aside0.mk hF; have c50 : w5.cell? ⟨g, 0, none⟩ = some (.int .i64 a) := (blk_cell hF 0).trans rfl; have c51 : w5.cell? ⟨g, 1, none⟩ = some (.int .i64 b) := (blk_cell hF 1).trans rfl; have c52 : w5.cell? ⟨g, 2, none⟩ = some (.int .i64 c) := (blk_cell hF 2).trans rfl; clear hF; obtain ⟨ad, hA, x0, x1, x2⟩ := at_T35 (Kd.C_below HR0.out B5.out) (R : Int) (by omega) (by have := HP.out; omega); cases hA; rw [Int.toNat_natCast] at x0 x1 x2; have j1 := eq_true (show (R : Int) < (l.length : Int) by have := HP.out; omega); have j2 := eq_true (show R < l.length by have := HP.out; omega)))
            refine start_ (n := 8) (S := fun W => W = w5.drew) (ds := []) #[false, false, false, false, false, false, false, false] (by kernel_rfl) rfl rfl (rfl) (fun hHeld => ?_); refine with_tabW impl_SessionPut.tab6 impl_SessionPut.bits6 (fun HT_ HW_ => ?_)
            have B6 := Aside0.mk (below_drew B5.out)
            have hF := blk_drew F5.out
            have d0 : w5.drew.cell? ⟨g, 0, none⟩ = some (.int .i64 a) := (blk_cell hF 0).trans rfl
            have d1 : w5.drew.cell? ⟨g, 1, none⟩ = some (.int .i64 b) := (blk_cell hF 1).trans rfl
            have d2 : w5.drew.cell? ⟨g, 2, none⟩ = some (.int .i64 c) := (blk_cell hF 2).trans rfl
            replace x1 : w5.drew.cell? _ = _ := x1
            have F6 := Aside0.mk hF
            clear hF
            generalize w5.drew = w6 at *
            refine pure_ (i := 0) (N := some 31) (v := ?_) (a' := ?_) (bits 8 1) rfl rfl (any_of HT_.out (by kernel_rfl)) (fun _ _ _ h => h) (Or.inl ⟨by rfl, ?_⟩) ?_ ?_
            rotate_left
            · intro w'
              go_simp
              with_reducible rfl
            rotate_left
            · simp only [Act.put, List.setIfInBounds_toArray, List.set_cons_zero, List.set_cons_succ, i64_w, i32_w]
              rfl
            refine pure_ (i := 1) (N := some 32) (v := ?_) (a' := ?_) (bits 8 3) rfl rfl (any_of HT_.out (by kernel_rfl)) (fun _ _ _ h => h) (Or.inl ⟨by rfl, ?_⟩) ?_ ?_
            rotate_left
            · intro w'
              go_simp
              with_reducible rfl
            rotate_left
            · simp only [Act.put, List.setIfInBounds_toArray, List.set_cons_zero, List.set_cons_succ, i64_w, i32_w]
              rfl
            refine pure_ (i := 2) (N := some 33) (v := ?_) (a' := ?_) (bits 8 7) rfl rfl (any_of HT_.out (by kernel_rfl)) (fun _ _ _ h => h) (Or.inl ⟨by rfl, ?_⟩) ?_ ?_
            rotate_left
            · intro w'
              go_simp
              with_reducible rfl
            rotate_left
            · simp only [Act.put, List.setIfInBounds_toArray, List.set_cons_zero, List.set_cons_succ, i64_w, i32_w]
              rfl
            refine pure_ (i := 3) (N := some 34) (v := ?_) (a' := ?_) (bits 8 15) rfl rfl (any_of HT_.out (by kernel_rfl)) (fun _ _ _ h => h) (Or.inl ⟨by rfl, ?_⟩) ?_ ?_
            rotate_left
            · intro w'
              go_simp
              with_reducible rfl
            rotate_left
            · simp only [Act.put, List.setIfInBounds_toArray, List.set_cons_zero, List.set_cons_succ, i64_w, i32_w]
              rfl
            refine take_ (i := 4) (N := some 35) (v := ?_) (a' := ?_) (bits 8 31) rfl rfl (take_ofW HT_.out HW_.out (by kernel_rfl)) (fun _ _ _ h => h) (Or.inl ⟨by rfl, ?_⟩) hHeld ?_ ?_
            rotate_left
            · intro w' hS
              subst hS
              go_simp
              with_reducible rfl
            rotate_left
            · simp only [Act.put, List.setIfInBounds_toArray, List.set_cons_zero, List.set_cons_succ, i64_w, i32_w]
              rfl
            refine pure_ (i := 5) (N := some 36) (v := ?_) (a' := ?_) (bits 8 63) rfl rfl (any_of HT_.out (by kernel_rfl)) (fun _ _ _ h => h) (Or.inl ⟨by rfl, ?_⟩) ?_ ?_
            rotate_left
            · intro w'
              go_simp
              with_reducible rfl
            rotate_left
            · simp only [Act.put, List.setIfInBounds_toArray, List.set_cons_zero, List.set_cons_succ, i64_w, i32_w]
              rfl
            refine take_ (i := 6) (N := some 37) (v := ?_) (a' := ?_) (bits 8 127) rfl rfl (take_ofW HT_.out HW_.out (by kernel_rfl)) (fun _ _ _ h => h) (Or.inl ⟨by rfl, ?_⟩) hHeld ?_ ?_
            rotate_left
            · intro w' hS
              subst hS
              go_simp
              with_reducible rfl
            rotate_left
            · simp only [Act.put, List.setIfInBounds_toArray, List.set_cons_zero, List.set_cons_succ, i64_w, i32_w]
              rfl
            refine pure_ (i := 7) (N := some 38) (v := ?_) (a' := ?_) (bits 8 255) rfl rfl (any_of HT_.out (by kernel_rfl)) (fun _ _ _ h => h) (Or.inl ⟨by rfl, ?_⟩) ?_ ?_
            rotate_left
            · intro w'
              go_simp
              with_reducible rfl
            rotate_left
            · simp only [Act.put, List.setIfInBounds_toArray, List.set_cons_zero, List.set_cons_succ, i64_w, i32_w]
              rfl
            refine done_ (done_of HT_.out (by kernel_rfl)) ?_
            go_wp2_with (first
              | ((with_reducible refine gate_dst (N := 44) rfl ?_); (try (refine gate_guard (by rfl) ?_; dsimp only)); refine Kd.R_lit k35 _ 35 ?hg (N := 44) ?hd (xs := ([⟨a, b, c⟩] : List S35)) (inner := [.int .i64 a, .int .i64 b, .int .i64 c]) (ok := fun _ => True) (okp := fun _ => True) ?hr ?hp (fun _ hk => hk) trivial (Below.refl _ _) (Nat.le_refl _) (by simp) ?_; (case hd => rfl); (case hg => rfl); (case hr => first | (go_simp; done) | (go_simp; rfl)); (case hp => exact (Reps.c3 (k35_mkM _ _ _ (⟨a, b, c⟩ : S35)) (Reps.none _ _))); intro v7 w7 ho hb _ _; obtain ⟨A7, k7, ee⟩ := Kd.R_slice ho; subst ee; have V7 := Aside0.mk (Kd.R_reads' ho).2.2; have L7 := Aside0.mk (Kd.R_reads' ho).2.1; clear ho; have hF := blk_below F6.out hb; have B7 := Aside0.mk (below_step B6.out hb); clear hb; have F7 := Aside0.mk hF; have c70 : w7.cell? ⟨g, 0, none⟩ = some (.int .i64 a) := (blk_cell hF 0).trans rfl; have c71 : w7.cell? ⟨g, 1, none⟩ = some (.int .i64 b) := (blk_cell hF 1).trans rfl; have c72 : w7.cell? ⟨g, 2, none⟩ = some (.int .i64 c) := (blk_cell hF 2).trans rfl; clear hF)
              | (go_at_call 43; refine (show Calls Try.prog 43 #[.slice (some ad) l.length c0, .int .i64 (R : Int), .int .i64 1, .slice A7 1 k7] w7 _ from impl_replaced.calls (some ad) c0 l R 1 A7 k7 [⟨a, b, c⟩] w7 (Kd.C_below HR0.out B7.out) HC0.out V7.out L7.out SZ.out (by simp) (by have := HP.out; omega)).mono ?_; rintro e w8 ⟨v8, rfl, ho, hb⟩; have O := Aside0.mk (Kd.R_lower ho (below_size B7.out)); have B := Aside0.mk (below_step B7.out hb); clear ho hb))
            go_ret2
            exact ⟨_, rfl, O.out, B.out⟩
      · rw [if_neg hs] at h
        cases h



def impl_SessionsJoin.l (k : Nat) : List S35 → List S35 → Option (List S35)
  | acc, [] => some acc
  | acc, s :: r => (impl_SessionPut.f k acc s.f0 s.f1 s.f2).bind fun x => impl_SessionsJoin.l k (if x.2 = true then x.1 else acc) r
def impl_SessionsJoin.f (k : Nat) (a b : List S35) : Option (List S35) :=
  (impl_SessionsValid.f k a).bind fun q => if q = false then some [] else (impl_SessionsValid.f k b).bind fun q2 => if q2 = false then some [] else
    if a.length ≤ 1000000 ∧ b.length ≤ 1000000 then impl_SessionsJoin.l k a b else none
theorem impl_SessionsJoin.at {b : List S35} {j : Nat} (h : j < b.length) : b.drop j = rd_T35 b (j : Int) :: b.drop (j + 1) := by
  rw [List.drop_eq_getElem_cons h]
  simp [rd_T35, List.getD_eq_getElem?_getD, List.getElem?_eq_getElem h]

set_option maxHeartbeats 4000000 in
set_option maxRecDepth 100000 in
theorem impl_SessionsJoin.calls (k : Nat) (A0 : Option Addr) (c0 : Nat) (a : List S35) (A1 : Option Addr) (c1 : Nat) (b : List S35) (r : List S35) (w : World) (hr0 : Kd.C k35 w A0 a.length a) (hc0 : a.length ≤ c0) (hr1 : Kd.C k35 w A1 b.length b) (hc1 : b.length ≤ c1) (h : impl_SessionsJoin.f k a b = some r) :
    Calls Try.prog 25 #[.slice A0 a.length c0, .slice A1 b.length c1] w fun e w' => ∃ v0_ : Value, e = .returned v0_ ∧ Kd.R k35 35 w' w.heap.size (fun _ => True) v0_ r ∧ Below w.heap.size w w' := by
  have hu := Try.underlying35
  have HR0 := Aside0.mk hr0
  have HC0 := Aside0.mk hc0
  have HR1 := Aside0.mk hr1
  have HC1 := Aside0.mk hc1
  clear hr0 hc0 hr1 hc1
  unfold impl_SessionsJoin.f at h
  replace h := Option.bind_eq_some_iff.mp h
  obtain ⟨q, h1, h⟩ := h
  have X1 := Aside0.mk h1
  clear h1
  cases q with
  | false =>
    rw [if_pos rfl] at h
    obtain rfl : [] = r := by simpa using h
    clear h
    go_enter Try.func25, Try.ntmps25
    go_wp2_with (first
      | (go_at_call 15; (with_reducible refine (impl_SessionsValid.calls k _ _ a false w HR0.out HC0.out X1.out).mono ?_); rintro e w1 ⟨rfl, hb⟩; have B1 := Aside0.mk hb; clear hb))
    go_ret
    exact ⟨_, rfl, Kd.R_nil _ _ _ _ _, B1.out⟩
  | true =>
    rw [if_neg (by simp)] at h
    replace h := Option.bind_eq_some_iff.mp h
    obtain ⟨q2, h2, h⟩ := h
    have X2 := Aside0.mk h2
    clear h2
    cases q2 with
    | false =>
      rw [if_pos rfl] at h
      obtain rfl : [] = r := by simpa using h
      clear h
      go_enter Try.func25, Try.ntmps25
      go_wp2_with (first
        | (go_at_call 15; (with_reducible refine (impl_SessionsValid.calls k _ _ a true w HR0.out HC0.out X1.out).mono ?_); rintro e w1 ⟨rfl, hb⟩; have B1 := Aside0.mk hb; clear hb)
        | (go_at_call 15; (with_reducible refine (impl_SessionsValid.calls k _ _ b false w1 (Kd.C_below HR1.out B1.out) HC1.out X2.out).mono ?_); rintro e w2 ⟨rfl, hb⟩; have B2 := Aside0.mk (below_step B1.out hb); clear hb))
      go_ret
      exact ⟨_, rfl, Kd.R_nil _ _ _ _ _, B2.out⟩
    | true =>
      rw [if_neg (by simp)] at h
      by_cases hs : a.length ≤ 1000000 ∧ b.length ≤ 1000000
      · rw [if_pos hs] at h
        have SZ := Aside0.mk hs.1
        have SB := Aside0.mk hs.2
        have H := Aside0.mk h
        clear hs h
        go_enter Try.func25, Try.ntmps25
        go_wp2_with (first
          | (go_at_call 15; (with_reducible refine (impl_SessionsValid.calls k _ _ a true w HR0.out HC0.out X1.out).mono ?_); rintro e w1 ⟨rfl, hb⟩; have B1 := Aside0.mk hb; clear hb)
          | (go_at_call 15; (with_reducible refine (impl_SessionsValid.calls k _ _ b true w1 (Kd.C_below HR1.out B1.out) HC1.out X2.out).mono ?_); rintro e w2 ⟨rfl, hb⟩; have B2 := Aside0.mk (below_step B1.out hb); clear hb)
          | (go_at_call 44; (with_reducible refine (impl_copyOf.calls _ c0 a w2 (Kd.C_below HR0.out B2.out) HC0.out SZ.out).mono ?_); rintro e w3 ⟨v3, rfl, ho, hb⟩; have O3 := Aside0.mk (Kd.R_lower ho (below_size B2.out)); have B3 := Aside0.mk (below_step B2.out hb); clear ho hb))
        go_loopg [5, 22] b.length (fun kx v5 v22 wr => ∃ (j : Nat) (acc : List S35), v22 = .int .i64 (j : Int) ∧ j + kx = b.length ∧ Aside0 (Kd.R k35 35 wr w.heap.size (fun _ => True) v5 acc) ∧ Aside0 (Below w.heap.size w wr) ∧ Aside0 (impl_SessionsJoin.l k acc (b.drop j) = some r))
        case atStart => exact ⟨0, a, rfl, by omega, O3, B3, H⟩
        case round =>
          clear H O3 B3
          obtain ⟨j, acc, rfl, hk, OR, BR, HJ⟩ := hrel
          by_cases hj : j < b.length
          · have hd := HJ.out
            rw [impl_SessionsJoin.at hj] at hd
            unfold impl_SessionsJoin.l at hd
            replace hd := Option.bind_eq_some_iff.mp hd
            obtain ⟨⟨x1, x2⟩, h5, hd⟩ := hd
            have X5 := Aside0.mk h5
            clear h5 HJ
            have cj : decide ((j : Int) < (b.length : Int)) = true := decide_eq_true (by omega)
            have hsb := SB.out
            have wj : wrap64 ((j : Int) + 1) = ((j + 1 : Nat) : Int) := by unfold wrap64; omega
            obtain ⟨ad, hA, y0, y1, y2⟩ := at_T35 (Kd.C_below HR1.out BR.out) (j : Int) (by omega) (by omega)
            cases hA
            rw [Int.toNat_natCast] at y0 y1 y2
            have j1 := eq_true (show (j : Int) < (b.length : Int) by omega)
            have j2 := eq_true hj
            obtain ⟨A5, c5, e5⟩ := Kd.R_slice OR.out
            subst e5
            clear hsb
            cases x2 with
            | false =>
              rw [if_neg (by simp)] at hd
              have HD := Aside0.mk hd
              clear hd
              go_wp2_with (first
                | ((with_reducible refine gate_dst (N := 7) rfl ?_); refine box_event ?hg (N := 7) ?hd (cs := #[.int .i64 0, .int .i64 0, .int .i64 0]) (t := 35) ?hr ?_; (case hd => rfl); (case hg => rfl); (case hr => first | (go_simp; done) | (go_simp; rfl)); intro g hg w10 hc hbb; have HB10 := Aside0.mk hbb; have LG := Aside0.mk (Nat.le_of_eq hg.symm); have e0 : w10.cell? ⟨g, 0, none⟩ = some (.int .i64 0) := (blk_cell hc 0).trans rfl; have e1 : w10.cell? ⟨g, 1, none⟩ = some (.int .i64 0) := (blk_cell hc 1).trans rfl; have e2 : w10.cell? ⟨g, 2, none⟩ = some (.int .i64 0) := (blk_cell hc 2).trans rfl; have f0 := blk_frozen hc 0; have f1 := blk_frozen hc 1; have f2 := blk_frozen hc 2; have Z10 := Aside0.mk hc; clear hc hbb hg)
                | ((with_reducible refine gate_store (t := 35) (p := 7) rfl ?_); refine store_event (t := 35) (p := 7) (v := ?vo_s) (w1 := (((w10.setCell ⟨g, 0, none⟩ (.int .i64 (rd_T35 b (j : Int)).f0)).setCell ⟨g, 1, none⟩ (.int .i64 (rd_T35 b (j : Int)).f1)).setCell ⟨g, 2, none⟩ (.int .i64 (rd_T35 b (j : Int)).f2))) ?hg ?ho ?hn ?hr ?_; (case ho => rfl); (case hg => rfl); (case hn => rfl); (case hr => first | (go_simp; done) | (go_simp; rfl)); intro w11 hw; have hF := (show w11.heap[g]? = some (.cells #[.int .i64 (rd_T35 b (j : Int)).f0, .int .i64 (rd_T35 b (j : Int)).f1, .int .i64 (rd_T35 b (j : Int)).f2] 35 (0, 0)) from hw ▸ blk_put (blk_put (blk_put Z10.out 0 _ rfl) 1 _ rfl) 2 _ rfl); have hb := (show Below wr.heap.size wr w11 from hw ▸ below_set (below_set (below_set HB10.out LG.out) LG.out) LG.out); have O11 := Aside0.mk (Kd.R_below OR.out hb); have B11 := Aside0.mk (below_step BR.out hb); clear hw hb; have c0_ : w11.cell? ⟨g, 0, none⟩ = some (.int .i64 (rd_T35 b (j : Int)).f0) := (blk_cell hF 0).trans rfl; have c1_ : w11.cell? ⟨g, 1, none⟩ = some (.int .i64 (rd_T35 b (j : Int)).f1) := (blk_cell hF 1).trans rfl; have c2_ : w11.cell? ⟨g, 2, none⟩ = some (.int .i64 (rd_T35 b (j : Int)).f2) := (blk_cell hF 2).trans rfl; clear hF)
                | (go_at_call 21; (with_reducible refine (impl_SessionPut.calls k _ _ acc (rd_T35 b (j : Int)).f0 (rd_T35 b (j : Int)).f1 (rd_T35 b (j : Int)).f2 x1 false w11 (Kd.R_reads' O11.out).2.2 (Kd.R_reads' O11.out).2.1 X5.out).mono ?_); rintro e w12 ⟨v12, rfl, ho, hb⟩; have N12 := Aside0.mk (Kd.R_lower ho (below_size B11.out)); have O12 := Aside0.mk (Kd.R_below O11.out hb); have B12 := Aside0.mk (below_step B11.out hb); clear ho hb))
              go_roundg (gk - 1)
              case measure => omega
              case rel => exact ⟨j + 1, acc, congrArg (Value.int .i64) wj, by omega, O12, B12, HD⟩
            | true =>
              rw [if_pos rfl] at hd
              have HD := Aside0.mk hd
              clear hd
              go_wp2_with (first
                | ((with_reducible refine gate_dst (N := 7) rfl ?_); refine box_event ?hg (N := 7) ?hd (cs := #[.int .i64 0, .int .i64 0, .int .i64 0]) (t := 35) ?hr ?_; (case hd => rfl); (case hg => rfl); (case hr => first | (go_simp; done) | (go_simp; rfl)); intro g hg w10 hc hbb; have HB10 := Aside0.mk hbb; have LG := Aside0.mk (Nat.le_of_eq hg.symm); have e0 : w10.cell? ⟨g, 0, none⟩ = some (.int .i64 0) := (blk_cell hc 0).trans rfl; have e1 : w10.cell? ⟨g, 1, none⟩ = some (.int .i64 0) := (blk_cell hc 1).trans rfl; have e2 : w10.cell? ⟨g, 2, none⟩ = some (.int .i64 0) := (blk_cell hc 2).trans rfl; have f0 := blk_frozen hc 0; have f1 := blk_frozen hc 1; have f2 := blk_frozen hc 2; have Z10 := Aside0.mk hc; clear hc hbb hg)
                | ((with_reducible refine gate_store (t := 35) (p := 7) rfl ?_); refine store_event (t := 35) (p := 7) (v := ?vo_s) (w1 := (((w10.setCell ⟨g, 0, none⟩ (.int .i64 (rd_T35 b (j : Int)).f0)).setCell ⟨g, 1, none⟩ (.int .i64 (rd_T35 b (j : Int)).f1)).setCell ⟨g, 2, none⟩ (.int .i64 (rd_T35 b (j : Int)).f2))) ?hg ?ho ?hn ?hr ?_; (case ho => rfl); (case hg => rfl); (case hn => rfl); (case hr => first | (go_simp; done) | (go_simp; rfl)); intro w11 hw; have hF := (show w11.heap[g]? = some (.cells #[.int .i64 (rd_T35 b (j : Int)).f0, .int .i64 (rd_T35 b (j : Int)).f1, .int .i64 (rd_T35 b (j : Int)).f2] 35 (0, 0)) from hw ▸ blk_put (blk_put (blk_put Z10.out 0 _ rfl) 1 _ rfl) 2 _ rfl); have hb := (show Below wr.heap.size wr w11 from hw ▸ below_set (below_set (below_set HB10.out LG.out) LG.out) LG.out); have O11 := Aside0.mk (Kd.R_below OR.out hb); have B11 := Aside0.mk (below_step BR.out hb); clear hw hb; have c0_ : w11.cell? ⟨g, 0, none⟩ = some (.int .i64 (rd_T35 b (j : Int)).f0) := (blk_cell hF 0).trans rfl; have c1_ : w11.cell? ⟨g, 1, none⟩ = some (.int .i64 (rd_T35 b (j : Int)).f1) := (blk_cell hF 1).trans rfl; have c2_ : w11.cell? ⟨g, 2, none⟩ = some (.int .i64 (rd_T35 b (j : Int)).f2) := (blk_cell hF 2).trans rfl; clear hF)
                | (go_at_call 21; (with_reducible refine (impl_SessionPut.calls k _ _ acc (rd_T35 b (j : Int)).f0 (rd_T35 b (j : Int)).f1 (rd_T35 b (j : Int)).f2 x1 true w11 (Kd.R_reads' O11.out).2.2 (Kd.R_reads' O11.out).2.1 X5.out).mono ?_); rintro e w12 ⟨v12, rfl, ho, hb⟩; have N12 := Aside0.mk (Kd.R_lower ho (below_size B11.out)); have O12 := Aside0.mk (Kd.R_below O11.out hb); have B12 := Aside0.mk (below_step B11.out hb); clear ho hb))
              go_roundg (gk - 1)
              case measure => omega
              case rel => exact ⟨j + 1, x1, congrArg (Value.int .i64) wj, by omega, N12, B12, HD⟩
          · have cj : decide ((j : Int) < (b.length : Int)) = false := decide_eq_false (by omega)
            have hd := HJ.out
            rw [List.drop_of_length_le (by omega)] at hd
            obtain rfl : acc = r := by simpa [impl_SessionsJoin.l] using hd
            clear hd HJ
            go_wp2
            go_ret
            exact ⟨_, rfl, OR.out, BR.out⟩
      · rw [if_neg hs] at h
        cases h



/-- every client below m has the greater number of both lists -/
def laws_FnSessionsJoin.seqs (k : Nat) (x a b : List S35) : Nat → Option Bool
  | 0 => some true
  | m + 1 => (impl_SessionSeq.f k x (m : Int)).bind fun n => (impl_SessionSeq.f k a (m : Int)).bind fun n1 => (impl_SessionSeq.f k b (m : Int)).bind fun n2 => if n = max n1 n2 then laws_FnSessionsJoin.seqs k x a b m else none
theorem laws_FnSessionsJoin.seqs_at {k : Nat} {x a b : List S35} {r : Bool} : ∀ {m : Nat}, laws_FnSessionsJoin.seqs k x a b m = some r → ∀ i : Nat, i < m → ∃ n1 n2, impl_SessionSeq.f k x (i : Int) = some (max n1 n2) ∧ impl_SessionSeq.f k a (i : Int) = some n1 ∧ impl_SessionSeq.f k b (i : Int) = some n2
  | 0, _, i, hi => absurd hi (Nat.not_lt_zero _)
  | m + 1, h, i, hi => by
    unfold laws_FnSessionsJoin.seqs at h
    replace h := Option.bind_eq_some_iff.mp h
    obtain ⟨n, h0, h⟩ := h
    replace h := Option.bind_eq_some_iff.mp h
    obtain ⟨n1, h1, h⟩ := h
    replace h := Option.bind_eq_some_iff.mp h
    obtain ⟨n2, h2, h⟩ := h
    by_cases hc : n = max n1 n2
    · rw [if_pos hc] at h
      by_cases hm : i = m
      · subst hm
        exact ⟨n1, n2, hc ▸ h0, h1, h2⟩
      · exact laws_FnSessionsJoin.seqs_at h i (by omega)
    · rw [if_neg hc] at h
      cases h
/-- every session of a list is one of a's or of b's -/
def laws_FnSessionsJoin.has (k : Nat) (a b : List S35) : List S35 → Option Bool
  | [] => some true
  | s :: r => (laws_hasSession.f k a s.f0 s.f1 s.f2).bind fun p => if p = true then laws_FnSessionsJoin.has k a b r else (laws_hasSession.f k b s.f0 s.f1 s.f2).bind fun q => if q = true then laws_FnSessionsJoin.has k a b r else none
theorem laws_FnSessionsJoin.has_at {k : Nat} {a b : List S35} {r : Bool} : ∀ {x : List S35}, laws_FnSessionsJoin.has k a b x = some r → ∀ s ∈ x, laws_hasSession.f k a s.f0 s.f1 s.f2 = some true ∨ laws_hasSession.f k a s.f0 s.f1 s.f2 = some false ∧ laws_hasSession.f k b s.f0 s.f1 s.f2 = some true
  | [], _, s, hs => by cases hs
  | y :: x, h, s, hs => by
    unfold laws_FnSessionsJoin.has at h
    replace h := Option.bind_eq_some_iff.mp h
    obtain ⟨p, h1, h⟩ := h
    by_cases hp : p = true
    · rw [if_pos hp] at h
      rcases List.mem_cons.mp hs with rfl | hs
      · exact .inl (hp ▸ h1)
      · exact laws_FnSessionsJoin.has_at h s hs
    · rw [if_neg hp] at h
      replace h := Option.bind_eq_some_iff.mp h
      obtain ⟨q, h2, h⟩ := h
      by_cases hq : q = true
      · rw [if_pos hq] at h
        rcases List.mem_cons.mp hs with rfl | hs
        · exact .inr ⟨(Bool.eq_false_iff.mpr hp) ▸ h1, hq ▸ h2⟩
        · exact laws_FnSessionsJoin.has_at h s hs
      · rw [if_neg hq] at h
        cases h
def laws_FnSessionsJoin.judge (k : Nat) (a b : List S35) : Option Bool :=
  (impl_SessionsJoin.f k a b).bind fun x => (spec_SessionsJoin.f k a b).bind fun y => (laws_sameSessions.f k x y).bind fun t => if t = true then
    (impl_SessionsValid.f k a).bind fun v1 => if v1 = false then (laws_alive.f k).bind fun al => (if x.length = 0 ∧ al = true then some true else none)
      else (impl_SessionsValid.f k b).bind fun v2 => if v2 = false then (laws_alive.f k).bind fun al => (if x.length = 0 ∧ al = true then some true else none)
        else (laws_FnSessionsJoin.seqs k x a b 4).bind fun _ => (laws_FnSessionsJoin.has k a b x).bind fun _ => (impl_SessionsValid.f k x).bind fun v => (impl_SessionsJoin.f k a a).bind fun z => (laws_sameSessions.f k z a).bind fun t2 => if x.length ≤ 1000000 ∧ v = true ∧ t2 = true then some true else none
    else none
def laws_FnSessionsJoin.f (k : Nat) (l : List Int) : Option Bool :=
  if (l.length : Int) > 1048576 then some true else (spec_DrawSessionsJoin.f k l).bind fun x => laws_FnSessionsJoin.judge k x.1 x.2

set_option maxHeartbeats 4000000 in
set_option maxRecDepth 100000 in
theorem laws_FnSessionsJoin.calls (k : Nat) (A0 : Option Addr) (c0 : Nat) (l0 : List Int) (r : Bool) (w : World) (hr0 : Kd.C (Kd.int .u8) w A0 l0.length l0) (hc0 : l0.length ≤ c0) (h : laws_FnSessionsJoin.f k l0 = some r) :
    Calls Try.prog 10 #[.slice A0 l0.length c0] w fun e w' => e = .returned (.bool r) ∧ Below w.heap.size w w' := by
  have hu := Try.underlying35
  have HR0 := Aside0.mk hr0
  have HC0 := Aside0.mk hc0
  clear hr0 hc0
  unfold laws_FnSessionsJoin.f at h
  by_cases hl : (l0.length : Int) > 1048576
  · rw [if_pos hl] at h
    obtain rfl := Option.some.inj h
    have cl : decide ((l0.length : Int) > 1048576) = true := decide_eq_true hl
    clear h hl
    go_enter Try.func10, Try.ntmps10
    go_wp2
    go_ret
    exact ⟨rfl, Below.refl _ _⟩
  · rw [if_neg hl] at h
    have cl : decide ((l0.length : Int) > 1048576) = false := decide_eq_false hl
    clear hl
    replace h := Option.bind_eq_some_iff.mp h
    obtain ⟨⟨a, b⟩, h1, h⟩ := h
    have J1 := Aside0.mk h1
    clear h1
    unfold laws_FnSessionsJoin.judge at h
    dsimp only at h
    replace h := Option.bind_eq_some_iff.mp h
    obtain ⟨x, h2, h⟩ := h
    replace h := Option.bind_eq_some_iff.mp h
    obtain ⟨y, h3, h⟩ := h
    replace h := Option.bind_eq_some_iff.mp h
    obtain ⟨t, h4, h⟩ := h
    by_cases ht : t = true
    · rw [if_pos ht] at h
      subst ht
      replace h := Option.bind_eq_some_iff.mp h
      obtain ⟨v1, h5, h⟩ := h
      have J2 := Aside0.mk h2
      have J3 := Aside0.mk h3
      have J4 := Aside0.mk h4
      have J5 := Aside0.mk h5
      clear h2 h3 h4 h5
      cases v1 with
      | false =>
        rw [if_pos rfl] at h
        replace h := Option.bind_eq_some_iff.mp h
        obtain ⟨al, h6, h⟩ := h
        by_cases hj : x.length = 0 ∧ al = true
        · rw [if_pos hj] at h
          obtain ⟨hx, rfl⟩ := hj
          obtain rfl := Option.some.inj h
          have J6 := Aside0.mk h6
          have cz : ((x.length : Int) == 0) = true := by simp [hx]
          clear h6 h hx
          go_enter Try.func10, Try.ntmps10
          go_wp2_with (first
            | (go_at_call 32; (with_reducible refine (spec_DrawSessionsJoin.calls k _ _ l0 a b w HR0.out HC0.out J1.out).mono ?_); rintro e w1 ⟨v1, v2, rfl, hp, hq, hb⟩; have B1 := Aside0.mk hb; clear hb; have P1 := Aside0.mk (Kd.R_mono hp (fun _ _ => trivial) : Kd.R k35 35 w1 w.heap.size (fun _ => True) _ _); have Q1 := Aside0.mk (Kd.R_mono hq (fun _ _ => trivial) : Kd.R k35 35 w1 w.heap.size (fun _ => True) _ _); clear hp hq; obtain ⟨AP, kP, eP⟩ := Kd.R_slice P1.out; subst eP; obtain ⟨AQ, kQ, eQ⟩ := Kd.R_slice Q1.out; subst eQ)
            | (go_at_call 25; (with_reducible refine (impl_SessionsJoin.calls k _ _ a _ _ b x w1 (Kd.R_reads' P1.out).2.2 (Kd.R_reads' P1.out).2.1 (Kd.R_reads' Q1.out).2.2 (Kd.R_reads' Q1.out).2.1 J2.out).mono ?_); rintro e w2 ⟨v2, rfl, ho, hb⟩; have P2 := Aside0.mk (Kd.R_below P1.out hb); have Q2 := Aside0.mk (Kd.R_below Q1.out hb); have B2 := Aside0.mk (below_step B1.out hb); have X2 := Aside0.mk (Kd.R_lower ho (below_size B1.out)); clear hb ho; obtain ⟨AX, kX, eX⟩ := Kd.R_slice X2.out; subst eX)
            | (go_at_call 24; (with_reducible refine (spec_SessionsJoin.calls k _ _ a _ _ b y w2 (Kd.R_reads' P2.out).2.2 (Kd.R_reads' P2.out).2.1 (Kd.R_reads' Q2.out).2.2 (Kd.R_reads' Q2.out).2.1 J3.out).mono ?_); rintro e w3 ⟨v3, rfl, ho, hb⟩; have P3 := Aside0.mk (Kd.R_below P2.out hb); have Q3 := Aside0.mk (Kd.R_below Q2.out hb); have X3 := Aside0.mk (Kd.R_below X2.out hb); have B3 := Aside0.mk (below_step B2.out hb); have Y3 := Aside0.mk (Kd.R_lower ho (below_size B2.out)); clear hb ho; obtain ⟨AY, kY, eY⟩ := Kd.R_slice Y3.out; subst eY)
            | (go_at_call 30; (with_reducible refine (laws_sameSessions.calls k _ _ x _ _ y true w3 (Kd.R_reads' X3.out).2.2 (Kd.R_reads' X3.out).2.1 (Kd.R_reads' Y3.out).2.2 (Kd.R_reads' Y3.out).2.1 J4.out).mono ?_); rintro e w4 ⟨rfl, ⟨nd, hw⟩⟩; have hb := (show Below w3.heap.size w3 w4 from hw ▸ pw_below_drewN (Below.refl _ _) nd); clear hw; have P4 := Aside0.mk (Kd.R_below P3.out hb); have Q4 := Aside0.mk (Kd.R_below Q3.out hb); have X4 := Aside0.mk (Kd.R_below X3.out hb); have Y4 := Aside0.mk (Kd.R_below Y3.out hb); have B4 := Aside0.mk (below_step B3.out hb); clear hb)
            | (go_at_call 15; (with_reducible refine (impl_SessionsValid.calls k _ _ a false w4 (Kd.R_reads' P4.out).2.2 (Kd.R_reads' P4.out).2.1 J5.out).mono ?_); rintro e w5 ⟨rfl, hb⟩; have P5 := Aside0.mk (Kd.R_below P4.out hb); have Q5 := Aside0.mk (Kd.R_below Q4.out hb); have X5 := Aside0.mk (Kd.R_below X4.out hb); have B5 := Aside0.mk (below_step B4.out hb); clear hb)
            | (go_at_call 27; (with_reducible refine (laws_alive.calls k true w5 J6.out).mono ?_); rintro e w6 ⟨rfl, hb⟩; have P6 := Aside0.mk (Kd.R_below P5.out hb); have Q6 := Aside0.mk (Kd.R_below Q5.out hb); have X6 := Aside0.mk (Kd.R_below X5.out hb); have B6 := Aside0.mk (below_step B5.out hb); clear hb))
          go_ret
          exact ⟨rfl, B6.out⟩
        · rw [if_neg hj] at h
          cases h
      | true =>
        rw [if_neg (by simp)] at h
        replace h := Option.bind_eq_some_iff.mp h
        obtain ⟨v2, h6, h⟩ := h
        have J6 := Aside0.mk h6
        clear h6
        cases v2 with
        | false =>
          rw [if_pos rfl] at h
          replace h := Option.bind_eq_some_iff.mp h
          obtain ⟨al, h7, h⟩ := h
          by_cases hj : x.length = 0 ∧ al = true
          · rw [if_pos hj] at h
            obtain ⟨hx, rfl⟩ := hj
            obtain rfl := Option.some.inj h
            have J7 := Aside0.mk h7
            have cz : ((x.length : Int) == 0) = true := by simp [hx]
            clear h7 h hx
            go_enter Try.func10, Try.ntmps10
            go_wp2_with (first
              | (go_at_call 32; (with_reducible refine (spec_DrawSessionsJoin.calls k _ _ l0 a b w HR0.out HC0.out J1.out).mono ?_); rintro e w1 ⟨v1, v2, rfl, hp, hq, hb⟩; have B1 := Aside0.mk hb; clear hb; have P1 := Aside0.mk (Kd.R_mono hp (fun _ _ => trivial) : Kd.R k35 35 w1 w.heap.size (fun _ => True) _ _); have Q1 := Aside0.mk (Kd.R_mono hq (fun _ _ => trivial) : Kd.R k35 35 w1 w.heap.size (fun _ => True) _ _); clear hp hq; obtain ⟨AP, kP, eP⟩ := Kd.R_slice P1.out; subst eP; obtain ⟨AQ, kQ, eQ⟩ := Kd.R_slice Q1.out; subst eQ)
              | (go_at_call 25; (with_reducible refine (impl_SessionsJoin.calls k _ _ a _ _ b x w1 (Kd.R_reads' P1.out).2.2 (Kd.R_reads' P1.out).2.1 (Kd.R_reads' Q1.out).2.2 (Kd.R_reads' Q1.out).2.1 J2.out).mono ?_); rintro e w2 ⟨v2, rfl, ho, hb⟩; have P2 := Aside0.mk (Kd.R_below P1.out hb); have Q2 := Aside0.mk (Kd.R_below Q1.out hb); have B2 := Aside0.mk (below_step B1.out hb); have X2 := Aside0.mk (Kd.R_lower ho (below_size B1.out)); clear hb ho; obtain ⟨AX, kX, eX⟩ := Kd.R_slice X2.out; subst eX)
              | (go_at_call 24; (with_reducible refine (spec_SessionsJoin.calls k _ _ a _ _ b y w2 (Kd.R_reads' P2.out).2.2 (Kd.R_reads' P2.out).2.1 (Kd.R_reads' Q2.out).2.2 (Kd.R_reads' Q2.out).2.1 J3.out).mono ?_); rintro e w3 ⟨v3, rfl, ho, hb⟩; have P3 := Aside0.mk (Kd.R_below P2.out hb); have Q3 := Aside0.mk (Kd.R_below Q2.out hb); have X3 := Aside0.mk (Kd.R_below X2.out hb); have B3 := Aside0.mk (below_step B2.out hb); have Y3 := Aside0.mk (Kd.R_lower ho (below_size B2.out)); clear hb ho; obtain ⟨AY, kY, eY⟩ := Kd.R_slice Y3.out; subst eY)
              | (go_at_call 30; (with_reducible refine (laws_sameSessions.calls k _ _ x _ _ y true w3 (Kd.R_reads' X3.out).2.2 (Kd.R_reads' X3.out).2.1 (Kd.R_reads' Y3.out).2.2 (Kd.R_reads' Y3.out).2.1 J4.out).mono ?_); rintro e w4 ⟨rfl, ⟨nd, hw⟩⟩; have hb := (show Below w3.heap.size w3 w4 from hw ▸ pw_below_drewN (Below.refl _ _) nd); clear hw; have P4 := Aside0.mk (Kd.R_below P3.out hb); have Q4 := Aside0.mk (Kd.R_below Q3.out hb); have X4 := Aside0.mk (Kd.R_below X3.out hb); have Y4 := Aside0.mk (Kd.R_below Y3.out hb); have B4 := Aside0.mk (below_step B3.out hb); clear hb)
              | (go_at_call 15; (with_reducible refine (impl_SessionsValid.calls k _ _ a true w4 (Kd.R_reads' P4.out).2.2 (Kd.R_reads' P4.out).2.1 J5.out).mono ?_); rintro e w5 ⟨rfl, hb⟩; have P5 := Aside0.mk (Kd.R_below P4.out hb); have Q5 := Aside0.mk (Kd.R_below Q4.out hb); have X5 := Aside0.mk (Kd.R_below X4.out hb); have B5 := Aside0.mk (below_step B4.out hb); clear hb)
              | (go_at_call 15; (with_reducible refine (impl_SessionsValid.calls k _ _ b false w5 (Kd.R_reads' Q5.out).2.2 (Kd.R_reads' Q5.out).2.1 J6.out).mono ?_); rintro e w6 ⟨rfl, hb⟩; have P6 := Aside0.mk (Kd.R_below P5.out hb); have Q6 := Aside0.mk (Kd.R_below Q5.out hb); have X6 := Aside0.mk (Kd.R_below X5.out hb); have B6 := Aside0.mk (below_step B5.out hb); clear hb)
              | (go_at_call 27; (with_reducible refine (laws_alive.calls k true w6 J7.out).mono ?_); rintro e w7 ⟨rfl, hb⟩; have P7 := Aside0.mk (Kd.R_below P6.out hb); have Q7 := Aside0.mk (Kd.R_below Q6.out hb); have X7 := Aside0.mk (Kd.R_below X6.out hb); have B7 := Aside0.mk (below_step B6.out hb); clear hb))
            go_ret
            exact ⟨rfl, B7.out⟩
          · rw [if_neg hj] at h
            cases h
        | true =>
          rw [if_neg (by simp)] at h
          replace h := Option.bind_eq_some_iff.mp h
          obtain ⟨u1, h7, h⟩ := h
          replace h := Option.bind_eq_some_iff.mp h
          obtain ⟨u2, h8, h⟩ := h
          replace h := Option.bind_eq_some_iff.mp h
          obtain ⟨v, h9, h⟩ := h
          replace h := Option.bind_eq_some_iff.mp h
          obtain ⟨z, h10, h⟩ := h
          replace h := Option.bind_eq_some_iff.mp h
          obtain ⟨t2, h11, h⟩ := h
          by_cases hj : x.length ≤ 1000000 ∧ v = true ∧ t2 = true
          · rw [if_pos hj] at h
            obtain ⟨hsz, rfl, rfl⟩ := hj
            obtain rfl := Option.some.inj h
            have SZ := Aside0.mk hsz
            have J7 := Aside0.mk (laws_FnSessionsJoin.seqs_at h7)
            have J8 := Aside0.mk (laws_FnSessionsJoin.has_at h8)
            have J9 := Aside0.mk h9
            have J10 := Aside0.mk h10
            have J11 := Aside0.mk h11
            clear h7 h8 h9 h10 h11 h hsz
            go_enter Try.func10, Try.ntmps10
            go_wp2_with (first
              | (go_at_call 32; (with_reducible refine (spec_DrawSessionsJoin.calls k _ _ l0 a b w HR0.out HC0.out J1.out).mono ?_); rintro e w1 ⟨v1, v2, rfl, hp, hq, hb⟩; have B1 := Aside0.mk hb; clear hb; have P1 := Aside0.mk (Kd.R_mono hp (fun _ _ => trivial) : Kd.R k35 35 w1 w.heap.size (fun _ => True) _ _); have Q1 := Aside0.mk (Kd.R_mono hq (fun _ _ => trivial) : Kd.R k35 35 w1 w.heap.size (fun _ => True) _ _); clear hp hq; obtain ⟨AP, kP, eP⟩ := Kd.R_slice P1.out; subst eP; obtain ⟨AQ, kQ, eQ⟩ := Kd.R_slice Q1.out; subst eQ)
              | (go_at_call 25; (with_reducible refine (impl_SessionsJoin.calls k _ _ a _ _ b x w1 (Kd.R_reads' P1.out).2.2 (Kd.R_reads' P1.out).2.1 (Kd.R_reads' Q1.out).2.2 (Kd.R_reads' Q1.out).2.1 J2.out).mono ?_); rintro e w2 ⟨v2, rfl, ho, hb⟩; have P2 := Aside0.mk (Kd.R_below P1.out hb); have Q2 := Aside0.mk (Kd.R_below Q1.out hb); have B2 := Aside0.mk (below_step B1.out hb); have X2 := Aside0.mk (Kd.R_lower ho (below_size B1.out)); clear hb ho; obtain ⟨AX, kX, eX⟩ := Kd.R_slice X2.out; subst eX)
              | (go_at_call 24; (with_reducible refine (spec_SessionsJoin.calls k _ _ a _ _ b y w2 (Kd.R_reads' P2.out).2.2 (Kd.R_reads' P2.out).2.1 (Kd.R_reads' Q2.out).2.2 (Kd.R_reads' Q2.out).2.1 J3.out).mono ?_); rintro e w3 ⟨v3, rfl, ho, hb⟩; have P3 := Aside0.mk (Kd.R_below P2.out hb); have Q3 := Aside0.mk (Kd.R_below Q2.out hb); have X3 := Aside0.mk (Kd.R_below X2.out hb); have B3 := Aside0.mk (below_step B2.out hb); have Y3 := Aside0.mk (Kd.R_lower ho (below_size B2.out)); clear hb ho; obtain ⟨AY, kY, eY⟩ := Kd.R_slice Y3.out; subst eY)
              | (go_at_call 30; (with_reducible refine (laws_sameSessions.calls k _ _ x _ _ y true w3 (Kd.R_reads' X3.out).2.2 (Kd.R_reads' X3.out).2.1 (Kd.R_reads' Y3.out).2.2 (Kd.R_reads' Y3.out).2.1 J4.out).mono ?_); rintro e w4 ⟨rfl, ⟨nd, hw⟩⟩; have hb := (show Below w3.heap.size w3 w4 from hw ▸ pw_below_drewN (Below.refl _ _) nd); clear hw; have P4 := Aside0.mk (Kd.R_below P3.out hb); have Q4 := Aside0.mk (Kd.R_below Q3.out hb); have X4 := Aside0.mk (Kd.R_below X3.out hb); have Y4 := Aside0.mk (Kd.R_below Y3.out hb); have B4 := Aside0.mk (below_step B3.out hb); clear hb)
              | (go_at_call 15; (with_reducible refine (impl_SessionsValid.calls k _ _ a true w4 (Kd.R_reads' P4.out).2.2 (Kd.R_reads' P4.out).2.1 J5.out).mono ?_); rintro e w5 ⟨rfl, hb⟩; have P5 := Aside0.mk (Kd.R_below P4.out hb); have Q5 := Aside0.mk (Kd.R_below Q4.out hb); have X5 := Aside0.mk (Kd.R_below X4.out hb); have B5 := Aside0.mk (below_step B4.out hb); clear hb)
              | (go_at_call 15; (with_reducible refine (impl_SessionsValid.calls k _ _ b true w5 (Kd.R_reads' Q5.out).2.2 (Kd.R_reads' Q5.out).2.1 J6.out).mono ?_); rintro e w6 ⟨rfl, hb⟩; have P6 := Aside0.mk (Kd.R_below P5.out hb); have Q6 := Aside0.mk (Kd.R_below Q5.out hb); have X6 := Aside0.mk (Kd.R_below X5.out hb); have B6 := Aside0.mk (below_step B5.out hb); clear hb))
            go_loopg [6] 4 (fun kx v6 wr => ∃ i : Nat, v6 = .int .i64 (i : Int) ∧ i + kx = 4 ∧ Aside0 (Kd.R k35 35 wr w.heap.size (fun _ => True) (.slice AX x.length kX) x) ∧ Aside0 (Kd.R k35 35 wr w.heap.size (fun _ => True) (.slice AP a.length kP) a) ∧ Aside0 (Kd.R k35 35 wr w.heap.size (fun _ => True) (.slice AQ b.length kQ) b) ∧ Aside0 (Below w.heap.size w wr))
            case atStart => exact ⟨0, rfl, rfl, X6, P6, Q6, B6⟩
            case round =>
              obtain ⟨i, rfl, hk, X20, P20, Q20, B20⟩ := hrel
              by_cases hi : i < 4
              · obtain ⟨n1, n2, hn, hn1, hn2⟩ := J7.out i hi
                have Y1 := Aside0.mk hn
                have Y2 := Aside0.mk hn1
                have Y3 := Aside0.mk hn2
                clear hn hn1 hn2
                have ci : decide ((i : Int) < 4) = true := decide_eq_true (by omega)
                have wi : wrap64 ((i : Int) + 1) = ((i + 1 : Nat) : Int) := by unfold wrap64; omega
                have cm : (max n1 n2 != if n1 < n2 then n2 else n1) = false := by
                  rw [bne_eq_false_iff_eq]
                  split <;> omega
                go_wp2_with (first
                  | (go_at_call 18; (with_reducible refine (impl_SessionSeq.calls k _ _ x (i : Int) (max n1 n2) wr (Kd.R_reads' X20.out).2.2 (Kd.R_reads' X20.out).2.1 Y1.out).mono ?_); rintro e w21 ⟨rfl, hb⟩; have X21 := Aside0.mk (Kd.R_below X20.out hb); have P21 := Aside0.mk (Kd.R_below P20.out hb); have Q21 := Aside0.mk (Kd.R_below Q20.out hb); have B21 := Aside0.mk (below_step B20.out hb); clear hb)
                  | (go_at_call 18; (with_reducible refine (impl_SessionSeq.calls k _ _ a (i : Int) n1 w21 (Kd.R_reads' P21.out).2.2 (Kd.R_reads' P21.out).2.1 Y2.out).mono ?_); rintro e w22 ⟨rfl, hb⟩; have X22 := Aside0.mk (Kd.R_below X21.out hb); have P22 := Aside0.mk (Kd.R_below P21.out hb); have Q22 := Aside0.mk (Kd.R_below Q21.out hb); have B22 := Aside0.mk (below_step B21.out hb); clear hb)
                  | (go_at_call 18; (with_reducible refine (impl_SessionSeq.calls k _ _ b (i : Int) n2 w22 (Kd.R_reads' Q22.out).2.2 (Kd.R_reads' Q22.out).2.1 Y3.out).mono ?_); rintro e w23 ⟨rfl, hb⟩; have X23 := Aside0.mk (Kd.R_below X22.out hb); have P23 := Aside0.mk (Kd.R_below P22.out hb); have Q23 := Aside0.mk (Kd.R_below Q22.out hb); have B23 := Aside0.mk (below_step B22.out hb); clear hb))
                all_goals
                  go_roundg (gk - 1)
                  case measure => omega
                  case rel => exact ⟨i + 1, congrArg (Value.int .i64) (Int.natCast_succ i).symm, by omega, X23, P23, Q23, B23⟩
              · have ci : decide ((i : Int) < 4) = false := decide_eq_false (by omega)
                clear J7 hi hk
                go_wp2
                go_loopg [7] x.length (fun kx v7 wr => ∃ i : Nat, v7 = .int .i64 (i : Int) ∧ i + kx = x.length ∧ Aside0 (Kd.R k35 35 wr w.heap.size (fun _ => True) (.slice AX x.length kX) x) ∧ Aside0 (Kd.R k35 35 wr w.heap.size (fun _ => True) (.slice AP a.length kP) a) ∧ Aside0 (Kd.R k35 35 wr w.heap.size (fun _ => True) (.slice AQ b.length kQ) b) ∧ Aside0 (Below w.heap.size w wr))
                case atStart => exact ⟨0, rfl, by omega, X20, P20, Q20, B20⟩
                case round =>
                  clear ci X20 P20 Q20 B20
                  obtain ⟨i, rfl, hk, X40, P40, Q40, B40⟩ := hrel
                  by_cases hi : i < x.length
                  · have hsz := SZ.out
                    have ci : decide ((i : Int) < (x.length : Int)) = true := decide_eq_true (by omega)
                    have wi : wrap64 ((i : Int) + 1) = ((i + 1 : Nat) : Int) := by unfold wrap64; omega
                    have hm : rd_T35 x (i : Int) ∈ x := by
                      simp only [rd_T35, Int.toNat_natCast, List.getD_eq_getElem?_getD, List.getElem?_eq_getElem hi]
                      exact List.getElem_mem hi
                    have hh := J8.out _ hm
                    obtain ⟨ad, hA, _⟩ := at_T35 (Kd.R_reads' X40.out).2.2 (i : Int) (by omega) (by omega)
                    cases hA
                    have AT := Aside0.mk (fun (W : World) (h : Kd.R k35 35 W w.heap.size (fun _ => True) (.slice (some ad) x.length kX) x) => by
                      obtain ⟨_, hA, y0, y1, y2⟩ := at_T35 (Kd.R_reads' h).2.2 (i : Int) (by omega) (by omega)
                      cases hA
                      rw [Int.toNat_natCast] at y0 y1 y2
                      exact And.intro y0 (And.intro y1 y2))
                    obtain ⟨y0, y1, y2⟩ := AT.out _ X40.out
                    have j1 := eq_true (show (i : Int) < (x.length : Int) by omega)
                    have j2 := eq_true hi
                    clear hsz hm
                    rcases hh with hh | ⟨hh, hh2⟩
                    · have Y1 := Aside0.mk hh
                      clear hh
                      go_wp2_with (first
                        | (go_at_call 31; (with_reducible refine (laws_hasSession.calls k _ _ a (rd_T35 x (i : Int)).f0 (rd_T35 x (i : Int)).f1 (rd_T35 x (i : Int)).f2 true wr (Kd.R_reads' P40.out).2.2 (Kd.R_reads' P40.out).2.1 Y1.out).mono ?_); rintro e w41 ⟨rfl, hb⟩; have X41 := Aside0.mk (Kd.R_below X40.out hb); have P41 := Aside0.mk (Kd.R_below P40.out hb); have Q41 := Aside0.mk (Kd.R_below Q40.out hb); have B41 := Aside0.mk (below_step B40.out hb); clear hb))
                      go_roundg (gk - 1)
                      case measure => omega
                      case rel => exact ⟨i + 1, congrArg (Value.int .i64) wi, by omega, X41, P41, Q41, B41⟩
                    · have Y1 := Aside0.mk hh
                      have Y2 := Aside0.mk hh2
                      clear hh hh2
                      go_wp2_with (first
                        | (go_at_call 31; (with_reducible refine (laws_hasSession.calls k _ _ a (rd_T35 x (i : Int)).f0 (rd_T35 x (i : Int)).f1 (rd_T35 x (i : Int)).f2 false wr (Kd.R_reads' P40.out).2.2 (Kd.R_reads' P40.out).2.1 Y1.out).mono ?_); rintro e w41 ⟨rfl, hb⟩; have X41 := Aside0.mk (Kd.R_below X40.out hb); have P41 := Aside0.mk (Kd.R_below P40.out hb); have Q41 := Aside0.mk (Kd.R_below Q40.out hb); have B41 := Aside0.mk (below_step B40.out hb); clear hb; replace y0 : w41.cell? _ = _ := (AT.out w41 X41.out).1; replace y1 : w41.cell? _ = _ := (AT.out w41 X41.out).2.1; replace y2 : w41.cell? _ = _ := (AT.out w41 X41.out).2.2)
                        | (go_at_call 31; (with_reducible refine (laws_hasSession.calls k _ _ b (rd_T35 x (i : Int)).f0 (rd_T35 x (i : Int)).f1 (rd_T35 x (i : Int)).f2 true w41 (Kd.R_reads' Q41.out).2.2 (Kd.R_reads' Q41.out).2.1 Y2.out).mono ?_); rintro e w42 ⟨rfl, hb⟩; have X42 := Aside0.mk (Kd.R_below X41.out hb); have P42 := Aside0.mk (Kd.R_below P41.out hb); have Q42 := Aside0.mk (Kd.R_below Q41.out hb); have B42 := Aside0.mk (below_step B41.out hb); clear hb))
                      go_roundg (gk - 1)
                      case measure => omega
                      case rel => exact ⟨i + 1, congrArg (Value.int .i64) wi, by omega, X42, P42, Q42, B42⟩
                  · have ci : decide ((i : Int) < (x.length : Int)) = false := decide_eq_false (by omega)
                    go_wp2_with (first
                      | (go_at_call 15; (with_reducible refine (impl_SessionsValid.calls k _ _ x true wr (Kd.R_reads' X40.out).2.2 (Kd.R_reads' X40.out).2.1 J9.out).mono ?_); rintro e w41 ⟨rfl, hb⟩; have X41 := Aside0.mk (Kd.R_below X40.out hb); have P41 := Aside0.mk (Kd.R_below P40.out hb); have Q41 := Aside0.mk (Kd.R_below Q40.out hb); have B41 := Aside0.mk (below_step B40.out hb); clear hb)
                      | (go_at_call 25; (with_reducible refine (impl_SessionsJoin.calls k _ _ a _ _ a z w41 (Kd.R_reads' P41.out).2.2 (Kd.R_reads' P41.out).2.1 (Kd.R_reads' P41.out).2.2 (Kd.R_reads' P41.out).2.1 J10.out).mono ?_); rintro e w42 ⟨v42, rfl, ho, hb⟩; have X42 := Aside0.mk (Kd.R_below X41.out hb); have P42 := Aside0.mk (Kd.R_below P41.out hb); have Q42 := Aside0.mk (Kd.R_below Q41.out hb); have B42 := Aside0.mk (below_step B41.out hb); have Z42 := Aside0.mk (Kd.R_lower ho (below_size B41.out)); clear hb ho; obtain ⟨AZ, kZ, eZ⟩ := Kd.R_slice Z42.out; subst eZ)
                      | (go_at_call 30; (with_reducible refine (laws_sameSessions.calls k _ _ z _ _ a true w42 (Kd.R_reads' Z42.out).2.2 (Kd.R_reads' Z42.out).2.1 (Kd.R_reads' P42.out).2.2 (Kd.R_reads' P42.out).2.1 J11.out).mono ?_); rintro e w43 ⟨rfl, ⟨nd, hw⟩⟩; have hb := (show Below w42.heap.size w42 w43 from hw ▸ pw_below_drewN (Below.refl _ _) nd); clear hw; have X43 := Aside0.mk (Kd.R_below X42.out hb); have P43 := Aside0.mk (Kd.R_below P42.out hb); have Q43 := Aside0.mk (Kd.R_below Q42.out hb); have Z43 := Aside0.mk (Kd.R_below Z42.out hb); have B43 := Aside0.mk (below_step B42.out hb); clear hb))
                    go_ret
                    exact ⟨rfl, B43.out⟩
          · rw [if_neg hj] at h
            cases h
    · rw [if_neg ht] at h
      cases h

end Go.Proofs.Ytmljefpcjlelmaa.PFnSessionsJoin
