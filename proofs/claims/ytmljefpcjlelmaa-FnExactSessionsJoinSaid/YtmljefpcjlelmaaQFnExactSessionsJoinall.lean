/- The place of a client among sessions: slices.BinarySearchFunc at sessions, cmp.Compare and impl.sessionPlace, walked by hand (the print takes no function value). impl_SessionPut by hand (the print takes none of what it calls): a list is put together anew, with one session placed. impl_SessionPut by hand (the print takes none of what it calls): the session is placed, or the list is as it was. impl_SessionsJoin by hand (it calls what the print does not take): the sessions of the second list are put into a copy of the first, one after the other. laws_FnExactSessionsJoin by hand (it calls what the print does not take): the ways on which the law answers true. -/
import Derived.Test.YtmljefpcjlelmaaPFnExactSessionsJoinx0
import Derived.Test.YtmljefpcjlelmaaPFnExactSessionsJoinx1
import Derived.Test.YtmljefpcjlelmaaPFnExactSessionsJoinx12
import Derived.Test.YtmljefpcjlelmaaPFnExactSessionsJoinx14
import Derived.Test.YtmljefpcjlelmaaPFnExactSessionsJoinx2
import Derived.Test.YtmljefpcjlelmaaPFnExactSessionsJoinx4
import Derived.Test.YtmljefpcjlelmaaPFnExactSessionsJoinx5
import Derived.Test.YtmljefpcjlelmaaPFnExactSessionsJoinx6
namespace Go.Proofs.Ytmljefpcjlelmaa.PFnExactSessionsJoin
open Go.RowKit Go.Proofs.YtmljefpcjlelmaaW.PrintWords Go.Proofs.YtmljefpcjlelmaaW.PrintLast Go.Proofs.YtmljefpcjlelmaaW.PrintMore
set_option linter.unusedVariables false
set_option linter.unusedSimpArgs false

def cmpI (x y : Int) : Int := if x < y then -1 else if x > y then 1 else 0
theorem cmp_isNaN.calls (x : Int) (w : World) : Calls Try.prog 64 #[.int .i64 x] w fun e w' => e = .returned (.bool false) ∧ Below w.heap.size w w' := by
  go_enter Try.func64, Try.ntmps64
  go_wp2
  go_ret
  exact ⟨by simp, Below.refl _ _⟩
set_option maxHeartbeats 1000000 in
theorem cmp_Compare.calls (x y : Int) (w : World) : Calls Try.prog 60 #[.int .i64 x, .int .i64 y] w fun e w' => e = .returned (.int .i64 (cmpI x y)) ∧ Below w.heap.size w w' := by
  unfold cmpI
  by_cases h1 : x < y
  · have d1 : decide (x < y) = true := decide_eq_true h1
    rw [if_pos h1]
    clear h1
    go_enter Try.func60, Try.ntmps60
    go_wp2_with (first
      | (go_at_call 64; (with_reducible refine (cmp_isNaN.calls x w).mono ?_); rintro e w1 ⟨rfl, hb⟩; have B1 := Aside0.mk hb; clear hb)
      | (go_at_call 64; (with_reducible refine (cmp_isNaN.calls y w1).mono ?_); rintro e w2 ⟨rfl, hb⟩; have B2 := Aside0.mk (below_step B1.out hb); clear hb))
    go_ret
    exact ⟨rfl, B2.out⟩
  · have d1 : decide (x < y) = false := decide_eq_false h1
    rw [if_neg h1]
    by_cases h2 : x > y
    · have d2 : decide (x > y) = true := decide_eq_true h2
      rw [if_pos h2]
      clear h1 h2
      go_enter Try.func60, Try.ntmps60
      go_wp2_with (first
        | (go_at_call 64; (with_reducible refine (cmp_isNaN.calls x w).mono ?_); rintro e w1 ⟨rfl, hb⟩; have B1 := Aside0.mk hb; clear hb)
        | (go_at_call 64; (with_reducible refine (cmp_isNaN.calls y w1).mono ?_); rintro e w2 ⟨rfl, hb⟩; have B2 := Aside0.mk (below_step B1.out hb); clear hb))
      go_ret
      exact ⟨rfl, B2.out⟩
    · have d2 : decide (x > y) = false := decide_eq_false h2
      rw [if_neg h2]
      clear h1 h2
      go_enter Try.func60, Try.ntmps60
      go_wp2_with (first
        | (go_at_call 64; (with_reducible refine (cmp_isNaN.calls x w).mono ?_); rintro e w1 ⟨rfl, hb⟩; have B1 := Aside0.mk hb; clear hb)
        | (go_at_call 64; (with_reducible refine (cmp_isNaN.calls y w1).mono ?_); rintro e w2 ⟨rfl, hb⟩; have B2 := Aside0.mk (below_step B1.out hb); clear hb))
      go_ret
      exact ⟨rfl, B2.out⟩

set_option maxHeartbeats 1000000 in
theorem impl_sessionPlace1.calls (s : S35) (c : Int) (w : World) : Calls Try.prog 59 #[.agg #[.int .i64 s.f0, .int .i64 s.f1, .int .i64 s.f2], .int .i64 c] w fun e w' => e = .returned (.int .i64 (cmpI s.f0 c)) ∧ Below w.heap.size w w' := by
  have hu := Try.underlying35
  go_enter Try.func59, Try.ntmps59
  go_wp2_with (first
    | ((with_reducible refine gate_dst (N := 2) rfl ?_); refine box_event ?hg (N := 2) ?hd (cs := #[.int .i64 s.f0, .int .i64 s.f1, .int .i64 s.f2]) (t := 35) ?hr ?_; (case hd => rfl); (case hg => rfl); (case hr => first | (go_simp; done) | (go_simp; rfl)); intro g hg w1 hc hb; have B1 := Aside0.mk hb; have c0 : w1.cell? ⟨g, 0, none⟩ = some (.int .i64 s.f0) := (blk_cell hc 0).trans rfl; clear hc hb hg)
    | (go_at_call 60; (with_reducible refine (cmp_Compare.calls s.f0 c w1).mono ?_); rintro e w2 ⟨rfl, hb⟩; have B2 := Aside0.mk (below_step B1.out hb); clear hb))
  go_ret
  exact ⟨rfl, B2.out⟩

/-- where the client is, or were, among lo .. hi -/
def placeOf (l : List S35) (c : Int) : Nat → Nat → Nat → Nat
  | 0, lo, _ => lo
  | d + 1, lo, hi => if lo < hi then (if (rd_T35 l (((lo + hi) / 2 : Nat) : Int)).f0 < c then placeOf l c d ((lo + hi) / 2 + 1) hi else placeOf l c d lo ((lo + hi) / 2)) else lo
theorem cmpI_neg (x c : Int) : decide (cmpI x c < 0) = decide (x < c) := by
  unfold cmpI
  by_cases h : x < c
  · simp [h]
  · by_cases h2 : x > c <;> simp [h, h2]
theorem cmpI_zero (x c : Int) : (cmpI x c == 0) = decide (x = c) := by
  unfold cmpI
  by_cases h : x < c
  · rw [if_pos h, decide_eq_false (by omega)]
    rfl
  · by_cases h2 : x > c
    · rw [if_neg h, if_pos h2, decide_eq_false (by omega)]
      rfl
    · rw [if_neg h, if_neg h2, decide_eq_true (by omega)]
      rfl
def hitOf (l : List S35) (c : Int) : Bool := decide (placeOf l c l.length 0 l.length < l.length) && decide ((rd_T35 l ((placeOf l c l.length 0 l.length : Nat) : Int)).f0 = c)

set_option maxHeartbeats 4000000 in
set_option maxRecDepth 100000 in
theorem slices_BinarySearchFunc.calls (A0 : Option Addr) (c0 : Nat) (l : List S35) (c : Int) (w : World) (hr0 : Kd.C k35 w A0 l.length l) (hc0 : l.length ≤ c0) (hsz : l.length < 4611686018427387904) :
    Calls Try.prog 58 #[.slice A0 l.length c0, .int .i64 c, .func (.func 59) #[] #[]] w fun e w' =>
      e = .returned (.tuple #[.int .i64 ((placeOf l c l.length 0 l.length : Nat) : Int), .bool (hitOf l c)]) ∧ Below w.heap.size w w' := by
  have HR0 := Aside0.mk hr0
  clear hr0
  have hu := Try.underlying35
  generalize hR : placeOf l c l.length 0 l.length = R
  have HT := Aside0.mk (show hitOf l c = (decide (R < l.length) && decide ((rd_T35 l ((R : Nat) : Int)).f0 = c)) by unfold hitOf; rw [hR])
  have PR := Aside0.mk hR
  clear hR
  go_enter Try.func58, Try.ntmps58
  go_wp2
  go_loopg [9, 10] l.length (fun kx s9 s10 wr => ∃ lo hi : Nat, s9 = .int .i64 lo ∧ s10 = .int .i64 hi ∧ lo ≤ hi ∧ hi ≤ l.length ∧ hi - lo ≤ kx ∧ Aside0 (Below w.heap.size w wr) ∧ Aside0 (placeOf l c kx lo hi = R))
  case atStart => exact ⟨0, l.length, rfl, rfl, Nat.zero_le _, Nat.le_refl _, by omega, ⟨Below.refl _ _⟩, PR⟩
  case round =>
    clear PR
    obtain ⟨lo, hi, rfl, rfl, hlh, hin, hg, BW, PW⟩ := hrel
    by_cases hlt : lo < hi
    · obtain ⟨d, rfl⟩ : ∃ d, gk = d + 1 := ⟨gk - 1, by omega⟩
      have hp := PW.out
      simp only [placeOf] at hp
      rw [if_pos hlt] at hp
      obtain ⟨ad, hA, x0, x1, x2⟩ := at_T35 (Kd.C_below HR0.out BW.out) (((lo + hi) / 2 : Nat) : Int) (by omega) (by omega)
      subst hA
      generalize hy : rd_T35 l (((lo + hi) / 2 : Nat) : Int) = y at x0 x1 x2 hp
      rw [Int.toNat_natCast] at x0 x1 x2
      clear hy
      by_cases hyx : y.f0 < c
      · rw [if_pos hyx] at hp
        have P2 := Aside0.mk hp
        have dc : decide (cmpI y.f0 c < 0) = true := (cmpI_neg _ _).trans (decide_eq_true hyx)
        clear PW hp hyx
        go_wp2_with (go_at_call 59; (with_reducible refine (impl_sessionPlace1.calls y c wr).mono ?_); rintro e w1 ⟨rfl, hb⟩; have B1 := Aside0.mk (below_step BW.out hb); clear hb)
        go_roundg d
        case measure => omega
        case rel => exact ⟨(lo + hi) / 2 + 1, hi, by rw [show ((lo : Int) + (hi : Int)) / 2 + 1 = (((lo + hi) / 2 + 1 : Nat) : Int) by omega], rfl, by omega, hin, by omega, B1, P2⟩
      · rw [if_neg hyx] at hp
        have P2 := Aside0.mk hp
        have dc : decide (cmpI y.f0 c < 0) = false := (cmpI_neg _ _).trans (decide_eq_false hyx)
        clear PW hp hyx
        go_wp2_with (go_at_call 59; (with_reducible refine (impl_sessionPlace1.calls y c wr).mono ?_); rintro e w1 ⟨rfl, hb⟩; have B1 := Aside0.mk (below_step BW.out hb); clear hb)
        go_roundg d
        case measure => omega
        case rel => exact ⟨lo, (lo + hi) / 2, rfl, by rw [show ((lo : Int) + (hi : Int)) / 2 = (((lo + hi) / 2 : Nat) : Int) by omega], by omega, by omega, by omega, B1, P2⟩
    · obtain rfl : R = lo := by
        rw [← PW.out]
        cases gk with
        | zero => rfl
        | succ d => simp only [placeOf]; rw [if_neg hlt]
      by_cases hn : R < l.length
      · obtain ⟨ad, hA, x0, x1, x2⟩ := at_T35 (Kd.C_below HR0.out BW.out) (R : Int) (by omega) (by omega)
        subst hA
        generalize hy : rd_T35 l (R : Int) = y at x0 x1 x2 HT
        rw [Int.toNat_natCast] at x0 x1 x2
        clear hy PW
        go_wp2_with (go_at_call 59; (with_reducible refine (impl_sessionPlace1.calls y c wr).mono ?_); rintro e w1 ⟨rfl, hb⟩; have B1 := Aside0.mk (below_step BW.out hb); clear hb)
        go_ret2
        refine ⟨?_, B1.out⟩
        rw [HT.out, decide_eq_true hn, ← cmpI_zero]
        rfl
      · clear PW
        go_wp2
        go_ret2
        refine ⟨?_, BW.out⟩
        rw [HT.out, decide_eq_false hn]
        rfl

theorem impl_sessionPlace.calls (A0 : Option Addr) (c0 : Nat) (l : List S35) (c : Int) (w : World) (hr0 : Kd.C k35 w A0 l.length l) (hc0 : l.length ≤ c0) (hsz : l.length < 4611686018427387904) :
    Calls Try.prog 42 #[.slice A0 l.length c0, .int .i64 c] w fun e w' => e = .returned (.tuple #[.int .i64 ((placeOf l c l.length 0 l.length : Nat) : Int), .bool (hitOf l c)]) ∧ Below w.heap.size w w' := by
  have h := slices_BinarySearchFunc.calls A0 c0 l c w hr0 hc0 hsz
  go_enter Try.func42, Try.ntmps42
  go_wp2_with (go_at_call 58; (with_reducible refine h.mono ?_); rintro e w1 ⟨rfl, hb⟩; have B1 := Aside0.mk hb; clear hb)
  go_ret2
  exact ⟨rfl, B1.out⟩



/-- make([]T, 0, n) -/
theorem make_cap {α : Type} {P : Program} {ops : Array Oper} {Q : Exit → Act → World → Prop} {rest : List Oper} {o : Oper} {a : Act} (d : Kd α) {w0 W : World} (base e : Nat) (hgd : o.guard = none) {N : Tmp} (hd : o.dst = some N) (t : TypeId) (x y : Operand) (ho : o.op = .makeSlice t x y) (n : Nat)
    (hx : a.eval x = .int .i64 0) (hy : a.eval y = .int .i64 (n : Int)) (ht : P.underlying t = some (.slice e)) (z : Value) (bytes : Nat) (hinfo : (P.info? e).map (fun i => (i.zero, i.size, i.bytes)) = some (some z, d.sz, bytes)) (hb0 : 0 < bytes)
    (hl : n * bytes ≤ 281474976710656) (HB : Below base w0 W) (hbase : base ≤ W.heap.size)
    (h : ∀ v1 w1, d.R e w1 base (fun _ => True) v1 [] → Below base w0 w1 → wpList P ops Q rest (a.put o.dst v1) w1) : wpList P ops Q (o :: rest) a W := by
  obtain ⟨i0, hi, hzz⟩ := Option.map_eq_some_iff.1 hinfo
  simp only [Prod.mk.injEq] at hzz
  obtain ⟨hz0, hz1, hz2⟩ := hzz
  have hm : n ≤ 281474976710656 := Nat.le_trans (Nat.le_mul_of_pos_right _ hb0) hl
  have hr := run_make (P := P) W t e i0 z ht hi hz0 .i64 .i64 0 (n : Int) (Int.le_refl _) (by omega)
    (by
      have h3 : ((i0.bytes * n : Nat) : Int) ≤ 281474976710656 := by rw [hz2, Nat.mul_comm]; omega
      rwa [Int.natCast_mul] at h3) (by omega)
  simp only [Int.toNat_zero, Int.toNat_natCast] at hr
  have hown := World.ownsRow_made (base := base) (e := e) (size := i0.size) W (madeCells z.cells (n * i0.size)) n hbase (by unfold maxLen; omega) (size_madeCells _ _)
  rw [hz1] at hown hr
  refine Kd.event_run hgd ?_ (h _ _ ⟨fun _ _ => trivial, [], hown, Reps.none _ _⟩ (HB.alloc hbase _))
  simp [execOp, ho, hx, hy, hr]

/-- sessions as cells of a row that is read are sessions as cells of a row of one's own -/
theorem ses_own (W : World) (base : Nat) (x : S35) (cs : List Value) (h : k35.K W x cs) : k35.M W base (fun _ => False) x cs := by
  obtain rfl := k35_open h
  exact k35_mkM _ _ _ x

set_option maxHeartbeats 1000000 in
theorem impl_copyOf.calls (A0 : Option Addr) (c0 : Nat) (l : List S35) (w : World) (hr0 : Kd.C k35 w A0 l.length l) (hc0 : l.length ≤ c0) (hs : l.length ≤ 1000000) :
    Calls Try.prog 44 #[.slice A0 l.length c0] w fun e w' => ∃ v0_ : Value, e = .returned v0_ ∧ Kd.R k35 35 w' w.heap.size (fun _ => True) v0_ l ∧ Below w.heap.size w w' := by
  have HR0 := Aside0.mk hr0
  clear hr0
  go_enter Try.func44, Try.ntmps44
  go_wp2_with ((with_reducible refine gate_builtin (b := .append) (xs := #[.const (.slice none 0 0), .tmp 3]) rfl ?_); at_builtin; refine Kd.R_append_rows k35 (w0 := w) w.heap.size rfl (.const (.slice none 0 0)) (.tmp 3) 25 35 (.agg #[.int .i64 0, .int .i64 0, .int .i64 0]) 24 rfl Try.underlying25 info35 rfl (by decide) (by omega) (.slice none 0 0) [] l _ _ _ (fun _ => True) (fun _ => False) rfl rfl (Kd.R_nil _ _ _ _ _) HR0.out (fun x cs h => ses_own _ _ x cs h) (fun _ h => h.elim) (fun _ _ => trivial) (Below.refl _ _) (Nat.le_refl _) (by simp only [List.length_nil]; omega) ?_; intro v1 w1 ho hb hg hat; rw [List.nil_append] at ho; have O := Aside0.mk ho; have B := Aside0.mk hb; clear ho hb hg hat)
  go_ret
  exact ⟨_, rfl, O.out, B.out⟩

set_option maxHeartbeats 2000000 in
theorem impl_replaced.calls (A0 : Option Addr) (c0 : Nat) (l : List S35) (at_ many : Nat) (A1 : Option Addr) (c1 : Nat) (by_ : List S35) (w : World) (hr0 : Kd.C k35 w A0 l.length l) (hc0 : l.length ≤ c0) (hr1 : Kd.C k35 w A1 by_.length by_) (hc1 : by_.length ≤ c1)
    (hs : l.length ≤ 1000000) (hs1 : by_.length ≤ 1000000) (ham : at_ + many ≤ l.length) :
    Calls Try.prog 43 #[.slice A0 l.length c0, .int .i64 (at_ : Int), .int .i64 (many : Int), .slice A1 by_.length c1] w fun e w' => ∃ v0_ : Value, e = .returned v0_ ∧ Kd.R k35 35 w' w.heap.size (fun _ => True) v0_ ((l.take at_ ++ by_) ++ l.drop (at_ + many)) ∧ Below w.heap.size w w' := by
  have HR0 := Aside0.mk hr0
  have HR1 := Aside0.mk hr1
  clear hr0 hr1
  have hsum : (l.length : Int) - (many : Int) + (by_.length : Int) = ((l.length - many + by_.length : Nat) : Int) := by omega
  obtain ⟨i0, hif, _, hsz, _⟩ := info_parts info35
  have hcut1 := cut_to (P := Try.prog) 25 35 .i64 Try.underlying25 hif A0 l.length c0 (at_ : Int) (by omega) (by omega) hc0
  have hcut2 := cut_from (P := Try.prog) 25 35 .i64 Try.underlying25 hif 3 hsz A0 l.length c0 ((at_ : Int) + (many : Int)) (by omega) (by omega)
  rw [Int.toNat_natCast] at hcut1
  rw [show ((at_ : Int) + (many : Int)).toNat = at_ + many by omega] at hcut2
  have C1 := Aside0.mk (fun {W : World} (h : Kd.C k35 W A0 l.length l) => show Kd.C k35 W A0 at_ (l.take at_) from by
    have := Kd.C_take h (m := at_) (by omega)
    rwa [List.length_take, Nat.min_eq_left (by omega)] at this)
  obtain ⟨A2, hA2⟩ : ∃ A2, A2 = (if c0 = at_ + many then A0 else A0.map (·.add ((at_ + many) * 3))) := ⟨_, rfl⟩
  rw [← hA2] at hcut2
  have C2 := Aside0.mk (fun {W : World} (h : Kd.C k35 W A0 l.length l) => show Kd.C k35 W A2 (l.length - (at_ + many)) (l.drop (at_ + many)) from by
    have := Kd.C_drop h (m := at_ + many) (c := c0) (by omega) hc0
    rw [List.length_drop] at this
    rw [hA2]
    exact this)
  have SUM := Aside0.mk hsum
  clear hsum hif hsz hA2
  go_enter Try.func43, Try.ntmps43
  go_wp2_with (first
    | ((with_reducible refine gate_dst (N := 17) rfl ?_); refine make_cap k35 (w0 := w) w.heap.size 35 rfl (N := 17) rfl 25 _ _ rfl (l.length - many + by_.length) rfl (congrArg (Value.int .i64) SUM.out) Try.underlying25 (.agg #[.int .i64 0, .int .i64 0, .int .i64 0]) 24 info35 (by omega) (by omega) (Below.refl _ _) (Nat.le_refl _) ?_; intro v1 w1 ho hb; have O1 := Aside0.mk ho; have B1 := Aside0.mk hb; clear ho hb)
    | ((with_reducible refine gate_builtin (b := .append) (xs := #[.tmp 18, .tmp 21]) rfl ?_); at_builtin; refine Kd.R_append_rows k35 (w0 := w) w.heap.size rfl (.tmp 18) (.tmp 21) 25 35 (.agg #[.int .i64 0, .int .i64 0, .int .i64 0]) 24 rfl Try.underlying25 info35 rfl (by decide) (by omega) v1 [] (l.take at_) _ _ _ (fun _ => True) (fun _ => False) rfl rfl O1.out (C1.out (Kd.C_below HR0.out B1.out)) (fun x cs h => ses_own _ _ x cs h) (fun _ h => h.elim) (fun _ _ => trivial) B1.out (below_size B1.out) (by simp only [List.length_nil]; omega) ?_; intro v2 w2 ho hb hg hat; rw [List.nil_append] at ho; have O2 := Aside0.mk ho; have B2 := Aside0.mk hb; clear ho hb hg hat)
    | ((with_reducible refine gate_builtin (b := .append) (xs := #[.tmp 23, .tmp 24]) rfl ?_); at_builtin; refine Kd.R_append_rows k35 (w0 := w) w.heap.size rfl (.tmp 23) (.tmp 24) 25 35 (.agg #[.int .i64 0, .int .i64 0, .int .i64 0]) 24 rfl Try.underlying25 info35 rfl (by decide) (by omega) v2 (l.take at_) by_ _ _ _ (fun _ => True) (fun _ => False) rfl rfl O2.out (Kd.C_below HR1.out B2.out) (fun x cs h => ses_own _ _ x cs h) (fun _ h => h.elim) (fun _ _ => trivial) B2.out (below_size B2.out) (by simp only [List.length_take]; omega) ?_; intro v3 w3 ho hb hg hat; have O3 := Aside0.mk ho; have B3 := Aside0.mk hb; clear ho hb hg hat)
    | ((with_reducible refine gate_builtin (b := .append) (xs := #[.tmp 26, .tmp 31]) rfl ?_); at_builtin; refine Kd.R_append_rows k35 (w0 := w) w.heap.size rfl (.tmp 26) (.tmp 31) 25 35 (.agg #[.int .i64 0, .int .i64 0, .int .i64 0]) 24 rfl Try.underlying25 info35 rfl (by decide) (by omega) v3 (l.take at_ ++ by_) (l.drop (at_ + many)) _ _ _ (fun _ => True) (fun _ => False) rfl rfl O3.out (C2.out (Kd.C_below HR0.out B3.out)) (fun x cs h => ses_own _ _ x cs h) (fun _ h => h.elim) (fun _ _ => trivial) B3.out (below_size B3.out) (by simp only [List.length_append, List.length_take]; omega) ?_; intro v4 w4 ho hb hg hat; have O4 := Aside0.mk ho; have B4 := Aside0.mk hb; clear ho hb hg hat))
  go_ret
  exact ⟨_, rfl, O4.out, B4.out⟩



theorem placeOf_le (l : List S35) (c : Int) : ∀ (d lo hi : Nat), lo ≤ hi → placeOf l c d lo hi ≤ hi
  | 0, _, _, h => h
  | d + 1, lo, hi, h => by
    rw [placeOf]
    by_cases hlt : lo < hi
    · rw [if_pos hlt]
      split
      · exact placeOf_le l c d _ _ (by omega)
      · exact Nat.le_trans (placeOf_le l c d _ _ (by omega)) (by omega)
    · rw [if_neg hlt]
      exact h
def plOf (l : List S35) (c : Int) : Nat := placeOf l c l.length 0 l.length
def impl_SessionPut.f (k : Nat) (l : List S35) (a b c : Int) : Option (List S35 × Bool) :=
  (impl_SessionsValid.f k l).bind fun q => if q = false then some ([], false) else (impl_SessionsValid.f k [⟨a, b, c⟩]).bind fun q2 => if q2 = false then some ([], false) else
    if l.length ≤ 1000000 then
      (if hitOf l a = false then some ((l.take (plOf l a) ++ [⟨a, b, c⟩]) ++ l.drop (plOf l a + 0), true)
        else if (rd_T35 l ((plOf l a : Nat) : Int)).f1 ≥ b then some (l, false) else some ((l.take (plOf l a) ++ [⟨a, b, c⟩]) ++ l.drop (plOf l a + 1), true)) else none
def bits (n m : Nat) : Array Bool := ((List.range n).map fun i => m.testBit i).toArray
def impl_SessionPut.T6 : Bool × List (List Nat × List Nat) := (true, [([], []), ([], []), ([0, 1], [0, 1]), ([2], [2]), ([3], [3]), ([], []), ([5], [5]), ([4, 6], [4, 6])])
def impl_SessionPut.B6 : List Nat := [0, 0, 3, 7, 15, 0, 32, 127]
theorem impl_SessionPut.tab6 : rtab .any (opsOf Try.f21 6) = impl_SessionPut.T6 := by kernel_rfl
theorem impl_SessionPut.bits6 : waitsOk impl_SessionPut.T6.2 impl_SessionPut.B6 = true := by kernel_rfl

set_option maxHeartbeats 4000000 in
set_option maxRecDepth 100000 in
theorem impl_SessionPut.calls (k : Nat) (A0 : Option Addr) (c0 : Nat) (l : List S35) (a b c : Int) (r1 : List S35) (r2 : Bool) (w : World) (hr0 : Kd.C k35 w A0 l.length l) (hc0 : l.length ≤ c0) (h : impl_SessionPut.f k l a b c = some (r1, r2)) :
    Calls Try.prog 21 #[.slice A0 l.length c0, .agg #[.int .i64 a, .int .i64 b, .int .i64 c]] w fun e w' => ∃ v0_ : Value, e = .returned (.tuple #[v0_, .bool r2]) ∧ Kd.R k35 35 w' w.heap.size (fun _ => True) v0_ r1 ∧ Below w.heap.size w w' := by
  have hu := Try.underlying35
  have HR0 := Aside0.mk hr0
  have HC0 := Aside0.mk hc0
  clear hr0 hc0
  unfold impl_SessionPut.f at h
  replace h := Option.bind_eq_some_iff.mp h
  obtain ⟨q, h1, h⟩ := h
  have X1 := Aside0.mk h1
  clear h1
  cases q with
  | false =>
    rw [if_pos rfl] at h
    obtain ⟨rfl, rfl⟩ : r1 = [] ∧ r2 = false := by simpa [eq_comm] using h
    clear h
    go_enter Try.func21, Try.ntmps21
    go_wp2_with (first
      | ((with_reducible refine gate_dst (N := 3) rfl ?_); refine box_event ?hg (N := 3) ?hd (cs := #[.int .i64 a, .int .i64 b, .int .i64 c]) (t := 35) ?hr ?_; (case hd => rfl); (case hg => rfl); (case hr => first | (go_simp; done) | (go_simp; rfl)); intro g hg w1 hc hb; have B1 := Aside0.mk hb; have hF := hc; clear hc hb hg; have F1 := Aside0.mk hF; have c10 : w1.cell? ⟨g, 0, none⟩ = some (.int .i64 a) := (blk_cell hF 0).trans rfl; have c11 : w1.cell? ⟨g, 1, none⟩ = some (.int .i64 b) := (blk_cell hF 1).trans rfl; have c12 : w1.cell? ⟨g, 2, none⟩ = some (.int .i64 c) := (blk_cell hF 2).trans rfl; clear hF)
      | (go_at_call 15; (with_reducible refine (impl_SessionsValid.calls k _ _ l false w1 ?side1 HC0.out X1.out).mono ?_); (case side1 => exact Kd.C_below HR0.out B1.out); rintro e w2 ⟨rfl, hb⟩; have hF := blk_below F1.out hb; have B2 := Aside0.mk (below_step B1.out hb); clear hb; have F2 := Aside0.mk hF; have c20 : w2.cell? ⟨g, 0, none⟩ = some (.int .i64 a) := (blk_cell hF 0).trans rfl; have c21 : w2.cell? ⟨g, 1, none⟩ = some (.int .i64 b) := (blk_cell hF 1).trans rfl; have c22 : w2.cell? ⟨g, 2, none⟩ = some (.int .i64 c) := (blk_cell hF 2).trans rfl; clear hF))
    go_ret2
    exact ⟨_, rfl, Kd.R_nil _ _ _ _ _, B2.out⟩
  | true =>
    rw [if_neg (by simp)] at h
    replace h := Option.bind_eq_some_iff.mp h
    obtain ⟨q2, h2, h⟩ := h
    have X2 := Aside0.mk h2
    clear h2
    cases q2 with
    | false =>
      rw [if_pos rfl] at h
      obtain ⟨rfl, rfl⟩ : r1 = [] ∧ r2 = false := by simpa [eq_comm] using h
      clear h
      go_enter Try.func21, Try.ntmps21
      go_wp2_with (first
        | ((with_reducible refine gate_dst (N := 3) rfl ?_); refine box_event ?hg (N := 3) ?hd (cs := #[.int .i64 a, .int .i64 b, .int .i64 c]) (t := 35) ?hr ?_; (case hd => rfl); (case hg => rfl); (case hr => first | (go_simp; done) | (go_simp; rfl)); intro g hg w1 hc hb; have B1 := Aside0.mk hb; have hF := hc; clear hc hb hg; have F1 := Aside0.mk hF; have c10 : w1.cell? ⟨g, 0, none⟩ = some (.int .i64 a) := (blk_cell hF 0).trans rfl; have c11 : w1.cell? ⟨g, 1, none⟩ = some (.int .i64 b) := (blk_cell hF 1).trans rfl; have c12 : w1.cell? ⟨g, 2, none⟩ = some (.int .i64 c) := (blk_cell hF 2).trans rfl; clear hF)
        | (go_at_call 15; (with_reducible refine (impl_SessionsValid.calls k _ _ l true w1 ?side1 HC0.out X1.out).mono ?_); (case side1 => exact Kd.C_below HR0.out B1.out); rintro e w2 ⟨rfl, hb⟩; have hF := blk_below F1.out hb; have B2 := Aside0.mk (below_step B1.out hb); clear hb; have F2 := Aside0.mk hF; have c20 : w2.cell? ⟨g, 0, none⟩ = some (.int .i64 a) := (blk_cell hF 0).trans rfl; have c21 : w2.cell? ⟨g, 1, none⟩ = some (.int .i64 b) := (blk_cell hF 1).trans rfl; have c22 : w2.cell? ⟨g, 2, none⟩ = some (.int .i64 c) := (blk_cell hF 2).trans rfl; clear hF)
        | ((with_reducible refine gate_dst (N := 13) rfl ?_); (try (refine gate_guard (by rfl) ?_; dsimp only)); refine Kd.R_lit k35 _ 35 ?hg (N := 13) ?hd (xs := ([⟨a, b, c⟩] : List S35)) (inner := [.int .i64 a, .int .i64 b, .int .i64 c]) (ok := fun _ => True) (okp := fun _ => True) ?hr ?hp (fun _ hk => hk) trivial (Below.refl _ _) (Nat.le_refl _) (by simp) ?_; (case hd => rfl); (case hg => rfl); (case hr => first | (go_simp; done) | (go_simp; rfl)); (case hp => exact (Reps.c3 (k35_mkM _ _ _ (⟨a, b, c⟩ : S35)) (Reps.none _ _))); intro v3 w3 ho hb _ _; obtain ⟨A3, k3, ee⟩ := Kd.R_slice ho; subst ee; have V3 := Aside0.mk (Kd.R_reads' ho).2.2; have L3 := Aside0.mk (Kd.R_reads' ho).2.1; clear ho; have hF := blk_below F2.out hb; have B3 := Aside0.mk (below_step B2.out hb); clear hb; have F3 := Aside0.mk hF; have c30 : w3.cell? ⟨g, 0, none⟩ = some (.int .i64 a) := (blk_cell hF 0).trans rfl; have c31 : w3.cell? ⟨g, 1, none⟩ = some (.int .i64 b) := (blk_cell hF 1).trans rfl; have c32 : w3.cell? ⟨g, 2, none⟩ = some (.int .i64 c) := (blk_cell hF 2).trans rfl; clear hF)
        | (go_at_call 15; refine (show Calls Try.prog 15 #[.slice A3 1 k3] w3 _ from impl_SessionsValid.calls k A3 k3 [⟨a, b, c⟩] false w3 V3.out L3.out X2.out).mono ?_; rintro e w4 ⟨rfl, hb⟩; have hF := blk_below F3.out hb; have B4 := Aside0.mk (below_step B3.out hb); clear hb; have F4 := Aside0.mk hF; have c40 : w4.cell? ⟨g, 0, none⟩ = some (.int .i64 a) := (blk_cell hF 0).trans rfl; have c41 : w4.cell? ⟨g, 1, none⟩ = some (.int .i64 b) := (blk_cell hF 1).trans rfl; have c42 : w4.cell? ⟨g, 2, none⟩ = some (.int .i64 c) := (blk_cell hF 2).trans rfl; clear hF))
      go_ret2
      exact ⟨_, rfl, Kd.R_nil _ _ _ _ _, B4.out⟩
    | true =>
      rw [if_neg (by simp)] at h
      by_cases hs : l.length ≤ 1000000
      · rw [if_pos hs] at h
        have SZ := Aside0.mk hs
        clear hs
        have hle : plOf l a ≤ l.length := placeOf_le l a l.length 0 l.length (Nat.zero_le _)
        have hhit : hitOf l a = true → plOf l a < l.length := fun hh => by
          unfold hitOf at hh
          rw [Bool.and_eq_true, decide_eq_true_eq] at hh
          exact hh.1
        obtain ⟨R, hR⟩ : ∃ R, R = plOf l a := ⟨_, rfl⟩
        have PR := Aside0.mk (show placeOf l a l.length 0 l.length = R from hR.symm)
        rw [← hR] at h hle hhit
        clear hR
        cases hh : hitOf l a with
        | false =>
          rw [hh, if_pos rfl] at h
          obtain ⟨rfl, rfl⟩ : (l.take R ++ [⟨a, b, c⟩]) ++ l.drop (R + 0) = r1 ∧ true = r2 := by simpa using h
          have HH := Aside0.mk hh
          have HP := Aside0.mk hle
          clear h hh hle hhit
          go_enter Try.func21, Try.ntmps21
          go_wp2_with (first
            | ((with_reducible refine gate_dst (N := 3) rfl ?_); refine box_event ?hg (N := 3) ?hd (cs := #[.int .i64 a, .int .i64 b, .int .i64 c]) (t := 35) ?hr ?_; (case hd => rfl); (case hg => rfl); (case hr => first | (go_simp; done) | (go_simp; rfl)); intro g hg w1 hc hb; have B1 := Aside0.mk hb; have hF := hc; clear hc hb hg; have F1 := Aside0.mk hF; have c10 : w1.cell? ⟨g, 0, none⟩ = some (.int .i64 a) := (blk_cell hF 0).trans rfl; have c11 : w1.cell? ⟨g, 1, none⟩ = some (.int .i64 b) := (blk_cell hF 1).trans rfl; have c12 : w1.cell? ⟨g, 2, none⟩ = some (.int .i64 c) := (blk_cell hF 2).trans rfl; clear hF)
            | (go_at_call 15; (with_reducible refine (impl_SessionsValid.calls k _ _ l true w1 ?side1 HC0.out X1.out).mono ?_); (case side1 => exact Kd.C_below HR0.out B1.out); rintro e w2 ⟨rfl, hb⟩; have hF := blk_below F1.out hb; have B2 := Aside0.mk (below_step B1.out hb); clear hb; have F2 := Aside0.mk hF; have c20 : w2.cell? ⟨g, 0, none⟩ = some (.int .i64 a) := (blk_cell hF 0).trans rfl; have c21 : w2.cell? ⟨g, 1, none⟩ = some (.int .i64 b) := (blk_cell hF 1).trans rfl; have c22 : w2.cell? ⟨g, 2, none⟩ = some (.int .i64 c) := (blk_cell hF 2).trans rfl; clear hF)
            | ((with_reducible refine gate_dst (N := 13) rfl ?_); (try (refine gate_guard (by rfl) ?_; dsimp only)); refine Kd.R_lit k35 _ 35 ?hg (N := 13) ?hd (xs := ([⟨a, b, c⟩] : List S35)) (inner := [.int .i64 a, .int .i64 b, .int .i64 c]) (ok := fun _ => True) (okp := fun _ => True) ?hr ?hp (fun _ hk => hk) trivial (Below.refl _ _) (Nat.le_refl _) (by simp) ?_; (case hd => rfl); (case hg => rfl); (case hr => first | (go_simp; done) | (go_simp; rfl)); (case hp => exact (Reps.c3 (k35_mkM _ _ _ (⟨a, b, c⟩ : S35)) (Reps.none _ _))); intro v3 w3 ho hb _ _; obtain ⟨A3, k3, ee⟩ := Kd.R_slice ho; subst ee; have V3 := Aside0.mk (Kd.R_reads' ho).2.2; have L3 := Aside0.mk (Kd.R_reads' ho).2.1; clear ho; have hF := blk_below F2.out hb; have B3 := Aside0.mk (below_step B2.out hb); clear hb; have F3 := Aside0.mk hF; have c30 : w3.cell? ⟨g, 0, none⟩ = some (.int .i64 a) := (blk_cell hF 0).trans rfl; have c31 : w3.cell? ⟨g, 1, none⟩ = some (.int .i64 b) := (blk_cell hF 1).trans rfl; have c32 : w3.cell? ⟨g, 2, none⟩ = some (.int .i64 c) := (blk_cell hF 2).trans rfl; clear hF)
            | (go_at_call 15; refine (show Calls Try.prog 15 #[.slice A3 1 k3] w3 _ from impl_SessionsValid.calls k A3 k3 [⟨a, b, c⟩] true w3 V3.out L3.out X2.out).mono ?_; rintro e w4 ⟨rfl, hb⟩; have hF := blk_below F3.out hb; have B4 := Aside0.mk (below_step B3.out hb); clear hb; have F4 := Aside0.mk hF; have c40 : w4.cell? ⟨g, 0, none⟩ = some (.int .i64 a) := (blk_cell hF 0).trans rfl; have c41 : w4.cell? ⟨g, 1, none⟩ = some (.int .i64 b) := (blk_cell hF 1).trans rfl; have c42 : w4.cell? ⟨g, 2, none⟩ = some (.int .i64 c) := (blk_cell hF 2).trans rfl; clear hF)
            | (go_at_call 42; (with_reducible refine (impl_sessionPlace.calls _ _ l a w4 ?side1 HC0.out ?side2).mono ?_); (case side1 => exact Kd.C_below HR0.out B4.out); (case side2 => have := SZ.out; omega); rw [HH.out, PR.out]; rintro e w5 ⟨rfl, hb⟩; have hF := blk_below F4.out hb; have B5 := Aside0.mk (below_step B4.out hb); clear hb; have F5 := Aside0.mk hF; have c50 : w5.cell? ⟨g, 0, none⟩ = some (.int .i64 a) := (blk_cell hF 0).trans rfl; have c51 : w5.cell? ⟨g, 1, none⟩ = some (.int .i64 b) := (blk_cell hF 1).trans rfl; have c52 : w5.cell? ⟨g, 2, none⟩ = some (.int .i64 c) := (blk_cell hF 2).trans rfl; clear hF)
            | ((with_reducible refine gate_dst (N := 29) rfl ?_); (try (refine gate_guard (by rfl) ?_; dsimp only)); refine Kd.R_lit k35 _ 35 ?hg (N := 29) ?hd (xs := ([⟨a, b, c⟩] : List S35)) (inner := [.int .i64 a, .int .i64 b, .int .i64 c]) (ok := fun _ => True) (okp := fun _ => True) ?hr ?hp (fun _ hk => hk) trivial (Below.refl _ _) (Nat.le_refl _) (by simp) ?_; (case hd => rfl); (case hg => rfl); (case hr => first | (go_simp; done) | (go_simp; rfl)); (case hp => exact (Reps.c3 (k35_mkM _ _ _ (⟨a, b, c⟩ : S35)) (Reps.none _ _))); intro v6 w6 ho hb _ _; obtain ⟨A6, k6, ee⟩ := Kd.R_slice ho; subst ee; have V6 := Aside0.mk (Kd.R_reads' ho).2.2; have L6 := Aside0.mk (Kd.R_reads' ho).2.1; clear ho; have hF := blk_below F5.out hb; have B6 := Aside0.mk (below_step B5.out hb); clear hb; have F6 := Aside0.mk hF; have c60 : w6.cell? ⟨g, 0, none⟩ = some (.int .i64 a) := (blk_cell hF 0).trans rfl; have c61 : w6.cell? ⟨g, 1, none⟩ = some (.int .i64 b) := (blk_cell hF 1).trans rfl; have c62 : w6.cell? ⟨g, 2, none⟩ = some (.int .i64 c) := (blk_cell hF 2).trans rfl; clear hF)
            | (go_at_call 43; refine (show Calls Try.prog 43 #[.slice A0 l.length c0, .int .i64 (R : Int), .int .i64 0, .slice A6 1 k6] w6 _ from impl_replaced.calls A0 c0 l R 0 A6 k6 [⟨a, b, c⟩] w6 (Kd.C_below HR0.out B6.out) HC0.out V6.out L6.out SZ.out (by simp) (by have := HP.out; omega)).mono ?_; rintro e w7 ⟨v7, rfl, ho, hb⟩; have O := Aside0.mk (Kd.R_lower ho (below_size B6.out)); have B := Aside0.mk (below_step B6.out hb); clear ho hb))
          go_ret2
          exact ⟨_, rfl, O.out, B.out⟩
        | true =>
          rw [hh, if_neg (by simp)] at h
          have HH := Aside0.mk hh
          have HP := Aside0.mk (hhit hh)
          clear hh hle hhit
          by_cases hb : (rd_T35 l ((R : Nat) : Int)).f1 ≥ b
          · rw [if_pos hb] at h
            obtain ⟨rfl, rfl⟩ : l = r1 ∧ false = r2 := by simpa using h
            have db : decide ((rd_T35 l ((R : Nat) : Int)).f1 ≥ b) = true := decide_eq_true hb
            clear h hb
            go_enter Try.func21, Try.ntmps21
            go_wp2_with (first
              | ((with_reducible refine gate_dst (N := 3) rfl ?_); refine box_event ?hg (N := 3) ?hd (cs := #[.int .i64 a, .int .i64 b, .int .i64 c]) (t := 35) ?hr ?_; (case hd => rfl); (case hg => rfl); (case hr => first | (go_simp; done) | (go_simp; rfl)); intro g hg w1 hc hb; have B1 := Aside0.mk hb; have hF := hc; clear hc hb hg; have F1 := Aside0.mk hF; have c10 : w1.cell? ⟨g, 0, none⟩ = some (.int .i64 a) := (blk_cell hF 0).trans rfl; have c11 : w1.cell? ⟨g, 1, none⟩ = some (.int .i64 b) := (blk_cell hF 1).trans rfl; have c12 : w1.cell? ⟨g, 2, none⟩ = some (.int .i64 c) := (blk_cell hF 2).trans rfl; clear hF)
              | (go_at_call 15; (with_reducible refine (impl_SessionsValid.calls k _ _ l true w1 ?side1 HC0.out X1.out).mono ?_); (case side1 => exact Kd.C_below HR0.out B1.out); rintro e w2 ⟨rfl, hb⟩; have hF := blk_below F1.out hb; have B2 := Aside0.mk (below_step B1.out hb); clear hb; have F2 := Aside0.mk hF; have c20 : w2.cell? ⟨g, 0, none⟩ = some (.int .i64 a) := (blk_cell hF 0).trans rfl; have c21 : w2.cell? ⟨g, 1, none⟩ = some (.int .i64 b) := (blk_cell hF 1).trans rfl; have c22 : w2.cell? ⟨g, 2, none⟩ = some (.int .i64 c) := (blk_cell hF 2).trans rfl; clear hF)
              | ((with_reducible refine gate_dst (N := 13) rfl ?_); (try (refine gate_guard (by rfl) ?_; dsimp only)); refine Kd.R_lit k35 _ 35 ?hg (N := 13) ?hd (xs := ([⟨a, b, c⟩] : List S35)) (inner := [.int .i64 a, .int .i64 b, .int .i64 c]) (ok := fun _ => True) (okp := fun _ => True) ?hr ?hp (fun _ hk => hk) trivial (Below.refl _ _) (Nat.le_refl _) (by simp) ?_; (case hd => rfl); (case hg => rfl); (case hr => first | (go_simp; done) | (go_simp; rfl)); (case hp => exact (Reps.c3 (k35_mkM _ _ _ (⟨a, b, c⟩ : S35)) (Reps.none _ _))); intro v3 w3 ho hb _ _; obtain ⟨A3, k3, ee⟩ := Kd.R_slice ho; subst ee; have V3 := Aside0.mk (Kd.R_reads' ho).2.2; have L3 := Aside0.mk (Kd.R_reads' ho).2.1; clear ho; have hF := blk_below F2.out hb; have B3 := Aside0.mk (below_step B2.out hb); clear hb; have F3 := Aside0.mk hF; have c30 : w3.cell? ⟨g, 0, none⟩ = some (.int .i64 a) := (blk_cell hF 0).trans rfl; have c31 : w3.cell? ⟨g, 1, none⟩ = some (.int .i64 b) := (blk_cell hF 1).trans rfl; have c32 : w3.cell? ⟨g, 2, none⟩ = some (.int .i64 c) := (blk_cell hF 2).trans rfl; clear hF)
              | (go_at_call 15; refine (show Calls Try.prog 15 #[.slice A3 1 k3] w3 _ from impl_SessionsValid.calls k A3 k3 [⟨a, b, c⟩] true w3 V3.out L3.out X2.out).mono ?_; rintro e w4 ⟨rfl, hb⟩; have hF := blk_below F3.out hb; have B4 := Aside0.mk (below_step B3.out hb); clear hb; have F4 := Aside0.mk hF; have c40 : w4.cell? ⟨g, 0, none⟩ = some (.int .i64 a) := (blk_cell hF 0).trans rfl; have c41 : w4.cell? ⟨g, 1, none⟩ = some (.int .i64 b) := (blk_cell hF 1).trans rfl; have c42 : w4.cell? ⟨g, 2, none⟩ = some (.int .i64 c) := (blk_cell hF 2).trans rfl; clear hF)
              | (go_at_call 42; (with_reducible refine (impl_sessionPlace.calls _ _ l a w4 ?side1 HC0.out ?side2).mono ?_); (case side1 => exact Kd.C_below HR0.out B4.out); (case side2 => have := SZ.out; omega); rw [HH.out, PR.out]; rintro e w5 ⟨rfl, hb⟩; have hF := blk_below F4.out hb; have B5 := Aside0.mk (below_step B4.out hb); clear hb; have F5 := Aside0.mk hF; have c50 : w5.cell? ⟨g, 0, none⟩ = some (.int .i64 a) := (blk_cell hF 0).trans rfl; have c51 : w5.cell? ⟨g, 1, none⟩ = some (.int .i64 b) := (blk_cell hF 1).trans rfl; have c52 : w5.cell? ⟨g, 2, none⟩ = some (.int .i64 c) := (blk_cell hF 2).trans rfl; clear hF; obtain ⟨ad, hA, x0, x1, x2⟩ := at_T35 (Kd.C_below HR0.out B5.out) (R : Int) (by omega) (by have := HP.out; omega); cases hA; rw [Int.toNat_natCast] at x0 x1 x2; have j1 := eq_true (show (R : Int) < (l.length : Int) by have := HP.out; omega); have j2 := eq_true (show R < l.length by have := HP.out; omega)))
            refine start_ (n := 8) (S := fun W => W = w5.drew) (ds := []) #[false, false, false, false, false, false, false, false] (by kernel_rfl) rfl rfl (rfl) (fun hHeld => ?_); refine with_tabW impl_SessionPut.tab6 impl_SessionPut.bits6 (fun HT_ HW_ => ?_)
            have B6 := Aside0.mk (below_drew B5.out)
            have hF := blk_drew F5.out
            have d0 : w5.drew.cell? ⟨g, 0, none⟩ = some (.int .i64 a) := (blk_cell hF 0).trans rfl
            have d1 : w5.drew.cell? ⟨g, 1, none⟩ = some (.int .i64 b) := (blk_cell hF 1).trans rfl
            have d2 : w5.drew.cell? ⟨g, 2, none⟩ = some (.int .i64 c) := (blk_cell hF 2).trans rfl
            replace x1 : w5.drew.cell? _ = _ := x1
            have F6 := Aside0.mk hF
            clear hF
            generalize w5.drew = w6 at *
            refine pure_ (i := 0) (N := some 31) (v := ?_) (a' := ?_) (bits 8 1) rfl rfl (any_of HT_.out (by kernel_rfl)) (fun _ _ _ h => h) (Or.inl ⟨by rfl, ?_⟩) ?_ ?_
            rotate_left
            · intro w'
              go_simp
              with_reducible rfl
            rotate_left
            · simp only [Act.put, List.setIfInBounds_toArray, List.set_cons_zero, List.set_cons_succ, i64_w, i32_w]
              rfl
            refine pure_ (i := 1) (N := some 32) (v := ?_) (a' := ?_) (bits 8 3) rfl rfl (any_of HT_.out (by kernel_rfl)) (fun _ _ _ h => h) (Or.inl ⟨by rfl, ?_⟩) ?_ ?_
            rotate_left
            · intro w'
              go_simp
              with_reducible rfl
            rotate_left
            · simp only [Act.put, List.setIfInBounds_toArray, List.set_cons_zero, List.set_cons_succ, i64_w, i32_w]
              rfl
            refine pure_ (i := 2) (N := some 33) (v := ?_) (a' := ?_) (bits 8 7) rfl rfl (any_of HT_.out (by kernel_rfl)) (fun _ _ _ h => h) (Or.inl ⟨by rfl, ?_⟩) ?_ ?_
            rotate_left
            · intro w'
              go_simp
              with_reducible rfl
            rotate_left
            · simp only [Act.put, List.setIfInBounds_toArray, List.set_cons_zero, List.set_cons_succ, i64_w, i32_w]
              rfl
            refine pure_ (i := 3) (N := some 34) (v := ?_) (a' := ?_) (bits 8 15) rfl rfl (any_of HT_.out (by kernel_rfl)) (fun _ _ _ h => h) (Or.inl ⟨by rfl, ?_⟩) ?_ ?_
            rotate_left
            · intro w'
              go_simp
              with_reducible rfl
            rotate_left
            · simp only [Act.put, List.setIfInBounds_toArray, List.set_cons_zero, List.set_cons_succ, i64_w, i32_w]
              rfl
            refine take_ (i := 4) (N := some 35) (v := ?_) (a' := ?_) (bits 8 31) rfl rfl (take_ofW HT_.out HW_.out (by kernel_rfl)) (fun _ _ _ h => h) (Or.inl ⟨by rfl, ?_⟩) hHeld ?_ ?_
            rotate_left
            · intro w' hS
              subst hS
              go_simp
              with_reducible rfl
            rotate_left
            · simp only [Act.put, List.setIfInBounds_toArray, List.set_cons_zero, List.set_cons_succ, i64_w, i32_w]
              rfl
            refine pure_ (i := 5) (N := some 36) (v := ?_) (a' := ?_) (bits 8 63) rfl rfl (any_of HT_.out (by kernel_rfl)) (fun _ _ _ h => h) (Or.inl ⟨by rfl, ?_⟩) ?_ ?_
            rotate_left
            · intro w'
              go_simp
              with_reducible rfl
            rotate_left
            · simp only [Act.put, List.setIfInBounds_toArray, List.set_cons_zero, List.set_cons_succ, i64_w, i32_w]
              rfl
            refine take_ (i := 6) (N := some 37) (v := ?_) (a' := ?_) (bits 8 127) rfl rfl (take_ofW HT_.out HW_.out (by kernel_rfl)) (fun _ _ _ h => h) (Or.inl ⟨by rfl, ?_⟩) hHeld ?_ ?_
            rotate_left
            · intro w' hS
              subst hS
              go_simp
              with_reducible rfl
            rotate_left
            · simp only [Act.put, List.setIfInBounds_toArray, List.set_cons_zero, List.set_cons_succ, i64_w, i32_w]
              rfl
            refine pure_ (i := 7) (N := some 38) (v := ?_) (a' := ?_) (bits 8 255) rfl rfl (any_of HT_.out (by kernel_rfl)) (fun _ _ _ h => h) (Or.inl ⟨by rfl, ?_⟩) ?_ ?_
            rotate_left
            · intro w'
              go_simp
              with_reducible rfl
            rotate_left
            · simp only [Act.put, List.setIfInBounds_toArray, List.set_cons_zero, List.set_cons_succ, i64_w, i32_w]
              rfl
            refine done_ (done_of HT_.out (by kernel_rfl)) ?_
            go_wp2_with (first
              | (go_at_call 44; (with_reducible refine (impl_copyOf.calls _ c0 l w6 ?side1 HC0.out SZ.out).mono ?_); (case side1 => exact Kd.C_below HR0.out B6.out); rintro e w7 ⟨v7, rfl, ho, hb⟩; have O := Aside0.mk (Kd.R_lower ho (below_size B6.out)); have B := Aside0.mk (below_step B6.out hb); clear ho hb))
            go_ret2
            exact ⟨_, rfl, O.out, B.out⟩
          · rw [if_neg hb] at h
            obtain ⟨rfl, rfl⟩ : (l.take R ++ [⟨a, b, c⟩]) ++ l.drop (R + 1) = r1 ∧ true = r2 := by simpa using h
            have db : decide ((rd_T35 l ((R : Nat) : Int)).f1 ≥ b) = false := decide_eq_false hb
            clear h hb
            go_enter Try.func21, Try.ntmps21
            go_wp2_with (first
              | ((with_reducible refine gate_dst (N := 3) rfl ?_); refine box_event ?hg (N := 3) ?hd (cs := #[.int .i64 a, .int .i64 b, .int .i64 c]) (t := 35) ?hr ?_; (case hd => rfl); (case hg => rfl); (case hr => first | (go_simp; done) | (go_simp; rfl)); intro g hg w1 hc hb; have B1 := Aside0.mk hb; have hF := hc; clear hc hb hg; have F1 := Aside0.mk hF; have c10 : w1.cell? ⟨g, 0, none⟩ = some (.int .i64 a) := (blk_cell hF 0).trans rfl; have c11 : w1.cell? ⟨g, 1, none⟩ = some (.int .i64 b) := (blk_cell hF 1).trans rfl; have c12 : w1.cell? ⟨g, 2, none⟩ = some (.int .i64 c) := (blk_cell hF 2).trans rfl; clear hF)
              | (go_at_call 15; (with_reducible refine (impl_SessionsValid.calls k _ _ l true w1 ?side1 HC0.out X1.out).mono ?_); (case side1 => exact Kd.C_below HR0.out B1.out); rintro e w2 ⟨rfl, hb⟩; have hF := blk_below F1.out hb; have B2 := Aside0.mk (below_step B1.out hb); clear hb; have F2 := Aside0.mk hF; have c20 : w2.cell? ⟨g, 0, none⟩ = some (.int .i64 a) := (blk_cell hF 0).trans rfl; have c21 : w2.cell? ⟨g, 1, none⟩ = some (.int .i64 b) := (blk_cell hF 1).trans rfl; have c22 : w2.cell? ⟨g, 2, none⟩ = some (.int .i64 c) := (blk_cell hF 2).trans rfl; clear hF)
              | ((with_reducible refine gate_dst (N := 13) rfl ?_); (try (refine gate_guard (by rfl) ?_; dsimp only)); refine Kd.R_lit k35 _ 35 ?hg (N := 13) ?hd (xs := ([⟨a, b, c⟩] : List S35)) (inner := [.int .i64 a, .int .i64 b, .int .i64 c]) (ok := fun _ => True) (okp := fun _ => True) ?hr ?hp (fun _ hk => hk) trivial (Below.refl _ _) (Nat.le_refl _) (by simp) ?_; (case hd => rfl); (case hg => rfl); (case hr => first | (go_simp; done) | (go_simp; rfl)); (case hp => exact (Reps.c3 (k35_mkM _ _ _ (⟨a, b, c⟩ : S35)) (Reps.none _ _))); intro v3 w3 ho hb _ _; obtain ⟨A3, k3, ee⟩ := Kd.R_slice ho; subst ee; have V3 := Aside0.mk (Kd.R_reads' ho).2.2; have L3 := Aside0.mk (Kd.R_reads' ho).2.1; clear ho; have hF := blk_below F2.out hb; have B3 := Aside0.mk (below_step B2.out hb); clear hb; have F3 := Aside0.mk hF; have c30 : w3.cell? ⟨g, 0, none⟩ = some (.int .i64 a) := (blk_cell hF 0).trans rfl; have c31 : w3.cell? ⟨g, 1, none⟩ = some (.int .i64 b) := (blk_cell hF 1).trans rfl; have c32 : w3.cell? ⟨g, 2, none⟩ = some (.int .i64 c) := (blk_cell hF 2).trans rfl; clear hF)
              | (go_at_call 15; refine (show Calls Try.prog 15 #[.slice A3 1 k3] w3 _ from impl_SessionsValid.calls k A3 k3 [⟨a, b, c⟩] true w3 V3.out L3.out X2.out).mono ?_; rintro e w4 ⟨rfl, hb⟩; have hF := blk_below F3.out hb; have B4 := Aside0.mk (below_step B3.out hb); clear hb; have F4 := Aside0.mk hF; have c40 : w4.cell? ⟨g, 0, none⟩ = some (.int .i64 a) := (blk_cell hF 0).trans rfl; have c41 : w4.cell? ⟨g, 1, none⟩ = some (.int .i64 b) := (blk_cell hF 1).trans rfl; have c42 : w4.cell? ⟨g, 2, none⟩ = some (.int .i64 c) := (blk_cell hF 2).trans rfl; clear hF)
              | (go_at_call 42; (with_reducible refine (impl_sessionPlace.calls _ _ l a w4 ?side1 HC0.out ?side2).mono ?_); (case side1 => exact Kd.C_below HR0.out B4.out); (case side2 => have := SZ.out; omega); rw [HH.out, PR.out]; rintro e w5 ⟨rfl, hb⟩; have hF := blk_below F4.out hb; have B5 := Aside0.mk (below_step B4.out hb); clear hb; have F5 := Aside0.mk hF; have c50 : w5.cell? ⟨g, 0, none⟩ = some (.int .i64 a) := (blk_cell hF 0).trans rfl; have c51 : w5.cell? ⟨g, 1, none⟩ = some (.int .i64 b) := (blk_cell hF 1).trans rfl; have c52 : w5.cell? ⟨g, 2, none⟩ = some (.int .i64 c) := (blk_cell hF 2).trans rfl; clear hF; obtain ⟨ad, hA, x0, x1, x2⟩ := at_T35 (Kd.C_below HR0.out B5.out) (R : Int) (by omega) (by have := HP.out; omega); cases hA; rw [Int.toNat_natCast] at x0 x1 x2; have j1 := eq_true (show (R : Int) < (l.length : Int) by have := HP.out; omega); have j2 := eq_true (show R < l.length by have := HP.out; omega)))
            refine start_ (n := 8) (S := fun W => W = w5.drew) (ds := []) #[false, false, false, false, false, false, false, false] (by kernel_rfl) rfl rfl (rfl) (fun hHeld => ?_); refine with_tabW impl_SessionPut.tab6 impl_SessionPut.bits6 (fun HT_ HW_ => ?_)
            have B6 := Aside0.mk (below_drew B5.out)
            have hF := blk_drew F5.out
            have d0 : w5.drew.cell? ⟨g, 0, none⟩ = some (.int .i64 a) := (blk_cell hF 0).trans rfl
            have d1 : w5.drew.cell? ⟨g, 1, none⟩ = some (.int .i64 b) := (blk_cell hF 1).trans rfl
            have d2 : w5.drew.cell? ⟨g, 2, none⟩ = some (.int .i64 c) := (blk_cell hF 2).trans rfl
            replace x1 : w5.drew.cell? _ = _ := x1
            have F6 := Aside0.mk hF
            clear hF
            generalize w5.drew = w6 at *
            refine pure_ (i := 0) (N := some 31) (v := ?_) (a' := ?_) (bits 8 1) rfl rfl (any_of HT_.out (by kernel_rfl)) (fun _ _ _ h => h) (Or.inl ⟨by rfl, ?_⟩) ?_ ?_
            rotate_left
            · intro w'
              go_simp
              with_reducible rfl
            rotate_left
            · simp only [Act.put, List.setIfInBounds_toArray, List.set_cons_zero, List.set_cons_succ, i64_w, i32_w]
              rfl
            refine pure_ (i := 1) (N := some 32) (v := ?_) (a' := ?_) (bits 8 3) rfl rfl (any_of HT_.out (by kernel_rfl)) (fun _ _ _ h => h) (Or.inl ⟨by rfl, ?_⟩) ?_ ?_
            rotate_left
            · intro w'
              go_simp
              with_reducible rfl
            rotate_left
            · simp only [Act.put, List.setIfInBounds_toArray, List.set_cons_zero, List.set_cons_succ, i64_w, i32_w]
              rfl
            refine pure_ (i := 2) (N := some 33) (v := ?_) (a' := ?_) (bits 8 7) rfl rfl (any_of HT_.out (by kernel_rfl)) (fun _ _ _ h => h) (Or.inl ⟨by rfl, ?_⟩) ?_ ?_
            rotate_left
            · intro w'
              go_simp
              with_reducible rfl
            rotate_left
            · simp only [Act.put, List.setIfInBounds_toArray, List.set_cons_zero, List.set_cons_succ, i64_w, i32_w]
              rfl
            refine pure_ (i := 3) (N := some 34) (v := ?_) (a' := ?_) (bits 8 15) rfl rfl (any_of HT_.out (by kernel_rfl)) (fun _ _ _ h => h) (Or.inl ⟨by rfl, ?_⟩) ?_ ?_
            rotate_left
            · intro w'
              go_simp
              with_reducible rfl
            rotate_left
            · simp only [Act.put, List.setIfInBounds_toArray, List.set_cons_zero, List.set_cons_succ, i64_w, i32_w]
              rfl
            refine take_ (i := 4) (N := some 35) (v := ?_) (a' := ?_) (bits 8 31) rfl rfl (take_ofW HT_.out HW_.out (by kernel_rfl)) (fun _ _ _ h => h) (Or.inl ⟨by rfl, ?_⟩) hHeld ?_ ?_
            rotate_left
            · intro w' hS
              subst hS
              go_simp
              with_reducible rfl
            rotate_left
            · simp only [Act.put, List.setIfInBounds_toArray, List.set_cons_zero, List.set_cons_succ, i64_w, i32_w]
              rfl
            refine pure_ (i := 5) (N := some 36) (v := ?_) (a' := ?_) (bits 8 63) rfl rfl (any_of HT_.out (by kernel_rfl)) (fun _ _ _ h => h) (Or.inl ⟨by rfl, ?_⟩) ?_ ?_
            rotate_left
            · intro w'
              go_simp
              with_reducible rfl
            rotate_left
            · simp only [Act.put, List.setIfInBounds_toArray, List.set_cons_zero, List.set_cons_succ, i64_w, i32_w]
              rfl
            refine take_ (i := 6) (N := some 37) (v := ?_) (a' := ?_) (bits 8 127) rfl rfl (take_ofW HT_.out HW_.out (by kernel_rfl)) (fun _ _ _ h => h) (Or.inl ⟨by rfl, ?_⟩) hHeld ?_ ?_
            rotate_left
            · intro w' hS
              subst hS
              go_simp
              with_reducible rfl
            rotate_left
            · simp only [Act.put, List.setIfInBounds_toArray, List.set_cons_zero, List.set_cons_succ, i64_w, i32_w]
              rfl
            refine pure_ (i := 7) (N := some 38) (v := ?_) (a' := ?_) (bits 8 255) rfl rfl (any_of HT_.out (by kernel_rfl)) (fun _ _ _ h => h) (Or.inl ⟨by rfl, ?_⟩) ?_ ?_
            rotate_left
            · intro w'
              go_simp
              with_reducible rfl
            rotate_left
            · simp only [Act.put, List.setIfInBounds_toArray, List.set_cons_zero, List.set_cons_succ, i64_w, i32_w]
              rfl
            refine done_ (done_of HT_.out (by kernel_rfl)) ?_
            go_wp2_with (first
              | ((with_reducible refine gate_dst (N := 44) rfl ?_); (try (refine gate_guard (by rfl) ?_; dsimp only)); refine Kd.R_lit k35 _ 35 ?hg (N := 44) ?hd (xs := ([⟨a, b, c⟩] : List S35)) (inner := [.int .i64 a, .int .i64 b, .int .i64 c]) (ok := fun _ => True) (okp := fun _ => True) ?hr ?hp (fun _ hk => hk) trivial (Below.refl _ _) (Nat.le_refl _) (by simp) ?_; (case hd => rfl); (case hg => rfl); (case hr => first | (go_simp; done) | (go_simp; rfl)); (case hp => exact (Reps.c3 (k35_mkM _ _ _ (⟨a, b, c⟩ : S35)) (Reps.none _ _))); intro v7 w7 ho hb _ _; obtain ⟨A7, k7, ee⟩ := Kd.R_slice ho; subst ee; have V7 := Aside0.mk (Kd.R_reads' ho).2.2; have L7 := Aside0.mk (Kd.R_reads' ho).2.1; clear ho; have hF := blk_below F6.out hb; have B7 := Aside0.mk (below_step B6.out hb); clear hb; have F7 := Aside0.mk hF; have c70 : w7.cell? ⟨g, 0, none⟩ = some (.int .i64 a) := (blk_cell hF 0).trans rfl; have c71 : w7.cell? ⟨g, 1, none⟩ = some (.int .i64 b) := (blk_cell hF 1).trans rfl; have c72 : w7.cell? ⟨g, 2, none⟩ = some (.int .i64 c) := (blk_cell hF 2).trans rfl; clear hF)
              | (go_at_call 43; refine (show Calls Try.prog 43 #[.slice (some ad) l.length c0, .int .i64 (R : Int), .int .i64 1, .slice A7 1 k7] w7 _ from impl_replaced.calls (some ad) c0 l R 1 A7 k7 [⟨a, b, c⟩] w7 (Kd.C_below HR0.out B7.out) HC0.out V7.out L7.out SZ.out (by simp) (by have := HP.out; omega)).mono ?_; rintro e w8 ⟨v8, rfl, ho, hb⟩; have O := Aside0.mk (Kd.R_lower ho (below_size B7.out)); have B := Aside0.mk (below_step B7.out hb); clear ho hb))
            go_ret2
            exact ⟨_, rfl, O.out, B.out⟩
      · rw [if_neg hs] at h
        cases h



def impl_SessionsJoin.l (k : Nat) : List S35 → List S35 → Option (List S35)
  | acc, [] => some acc
  | acc, s :: r => (impl_SessionPut.f k acc s.f0 s.f1 s.f2).bind fun x => impl_SessionsJoin.l k (if x.2 = true then x.1 else acc) r
def impl_SessionsJoin.f (k : Nat) (a b : List S35) : Option (List S35) :=
  (impl_SessionsValid.f k a).bind fun q => if q = false then some [] else (impl_SessionsValid.f k b).bind fun q2 => if q2 = false then some [] else
    if a.length ≤ 1000000 ∧ b.length ≤ 1000000 then impl_SessionsJoin.l k a b else none
theorem impl_SessionsJoin.at {b : List S35} {j : Nat} (h : j < b.length) : b.drop j = rd_T35 b (j : Int) :: b.drop (j + 1) := by
  rw [List.drop_eq_getElem_cons h]
  simp [rd_T35, List.getD_eq_getElem?_getD, List.getElem?_eq_getElem h]

set_option maxHeartbeats 4000000 in
set_option maxRecDepth 100000 in
theorem impl_SessionsJoin.calls (k : Nat) (A0 : Option Addr) (c0 : Nat) (a : List S35) (A1 : Option Addr) (c1 : Nat) (b : List S35) (r : List S35) (w : World) (hr0 : Kd.C k35 w A0 a.length a) (hc0 : a.length ≤ c0) (hr1 : Kd.C k35 w A1 b.length b) (hc1 : b.length ≤ c1) (h : impl_SessionsJoin.f k a b = some r) :
    Calls Try.prog 25 #[.slice A0 a.length c0, .slice A1 b.length c1] w fun e w' => ∃ v0_ : Value, e = .returned v0_ ∧ Kd.R k35 35 w' w.heap.size (fun _ => True) v0_ r ∧ Below w.heap.size w w' := by
  have hu := Try.underlying35
  have HR0 := Aside0.mk hr0
  have HC0 := Aside0.mk hc0
  have HR1 := Aside0.mk hr1
  have HC1 := Aside0.mk hc1
  clear hr0 hc0 hr1 hc1
  unfold impl_SessionsJoin.f at h
  replace h := Option.bind_eq_some_iff.mp h
  obtain ⟨q, h1, h⟩ := h
  have X1 := Aside0.mk h1
  clear h1
  cases q with
  | false =>
    rw [if_pos rfl] at h
    obtain rfl : [] = r := by simpa using h
    clear h
    go_enter Try.func25, Try.ntmps25
    go_wp2_with (first
      | (go_at_call 15; (with_reducible refine (impl_SessionsValid.calls k _ _ a false w HR0.out HC0.out X1.out).mono ?_); rintro e w1 ⟨rfl, hb⟩; have B1 := Aside0.mk hb; clear hb))
    go_ret
    exact ⟨_, rfl, Kd.R_nil _ _ _ _ _, B1.out⟩
  | true =>
    rw [if_neg (by simp)] at h
    replace h := Option.bind_eq_some_iff.mp h
    obtain ⟨q2, h2, h⟩ := h
    have X2 := Aside0.mk h2
    clear h2
    cases q2 with
    | false =>
      rw [if_pos rfl] at h
      obtain rfl : [] = r := by simpa using h
      clear h
      go_enter Try.func25, Try.ntmps25
      go_wp2_with (first
        | (go_at_call 15; (with_reducible refine (impl_SessionsValid.calls k _ _ a true w HR0.out HC0.out X1.out).mono ?_); rintro e w1 ⟨rfl, hb⟩; have B1 := Aside0.mk hb; clear hb)
        | (go_at_call 15; (with_reducible refine (impl_SessionsValid.calls k _ _ b false w1 (Kd.C_below HR1.out B1.out) HC1.out X2.out).mono ?_); rintro e w2 ⟨rfl, hb⟩; have B2 := Aside0.mk (below_step B1.out hb); clear hb))
      go_ret
      exact ⟨_, rfl, Kd.R_nil _ _ _ _ _, B2.out⟩
    | true =>
      rw [if_neg (by simp)] at h
      by_cases hs : a.length ≤ 1000000 ∧ b.length ≤ 1000000
      · rw [if_pos hs] at h
        have SZ := Aside0.mk hs.1
        have SB := Aside0.mk hs.2
        have H := Aside0.mk h
        clear hs h
        go_enter Try.func25, Try.ntmps25
        go_wp2_with (first
          | (go_at_call 15; (with_reducible refine (impl_SessionsValid.calls k _ _ a true w HR0.out HC0.out X1.out).mono ?_); rintro e w1 ⟨rfl, hb⟩; have B1 := Aside0.mk hb; clear hb)
          | (go_at_call 15; (with_reducible refine (impl_SessionsValid.calls k _ _ b true w1 (Kd.C_below HR1.out B1.out) HC1.out X2.out).mono ?_); rintro e w2 ⟨rfl, hb⟩; have B2 := Aside0.mk (below_step B1.out hb); clear hb)
          | (go_at_call 44; (with_reducible refine (impl_copyOf.calls _ c0 a w2 (Kd.C_below HR0.out B2.out) HC0.out SZ.out).mono ?_); rintro e w3 ⟨v3, rfl, ho, hb⟩; have O3 := Aside0.mk (Kd.R_lower ho (below_size B2.out)); have B3 := Aside0.mk (below_step B2.out hb); clear ho hb))
        go_loopg [5, 22] b.length (fun kx v5 v22 wr => ∃ (j : Nat) (acc : List S35), v22 = .int .i64 (j : Int) ∧ j + kx = b.length ∧ Aside0 (Kd.R k35 35 wr w.heap.size (fun _ => True) v5 acc) ∧ Aside0 (Below w.heap.size w wr) ∧ Aside0 (impl_SessionsJoin.l k acc (b.drop j) = some r))
        case atStart => exact ⟨0, a, rfl, by omega, O3, B3, H⟩
        case round =>
          clear H O3 B3
          obtain ⟨j, acc, rfl, hk, OR, BR, HJ⟩ := hrel
          by_cases hj : j < b.length
          · have hd := HJ.out
            rw [impl_SessionsJoin.at hj] at hd
            unfold impl_SessionsJoin.l at hd
            replace hd := Option.bind_eq_some_iff.mp hd
            obtain ⟨⟨x1, x2⟩, h5, hd⟩ := hd
            have X5 := Aside0.mk h5
            clear h5 HJ
            have cj : decide ((j : Int) < (b.length : Int)) = true := decide_eq_true (by omega)
            have hsb := SB.out
            have wj : wrap64 ((j : Int) + 1) = ((j + 1 : Nat) : Int) := by unfold wrap64; omega
            obtain ⟨ad, hA, y0, y1, y2⟩ := at_T35 (Kd.C_below HR1.out BR.out) (j : Int) (by omega) (by omega)
            cases hA
            rw [Int.toNat_natCast] at y0 y1 y2
            have j1 := eq_true (show (j : Int) < (b.length : Int) by omega)
            have j2 := eq_true hj
            obtain ⟨A5, c5, e5⟩ := Kd.R_slice OR.out
            subst e5
            clear hsb
            cases x2 with
            | false =>
              rw [if_neg (by simp)] at hd
              have HD := Aside0.mk hd
              clear hd
              go_wp2_with (first
                | ((with_reducible refine gate_dst (N := 7) rfl ?_); refine box_event ?hg (N := 7) ?hd (cs := #[.int .i64 0, .int .i64 0, .int .i64 0]) (t := 35) ?hr ?_; (case hd => rfl); (case hg => rfl); (case hr => first | (go_simp; done) | (go_simp; rfl)); intro g hg w10 hc hbb; have HB10 := Aside0.mk hbb; have LG := Aside0.mk (Nat.le_of_eq hg.symm); have e0 : w10.cell? ⟨g, 0, none⟩ = some (.int .i64 0) := (blk_cell hc 0).trans rfl; have e1 : w10.cell? ⟨g, 1, none⟩ = some (.int .i64 0) := (blk_cell hc 1).trans rfl; have e2 : w10.cell? ⟨g, 2, none⟩ = some (.int .i64 0) := (blk_cell hc 2).trans rfl; have f0 := blk_frozen hc 0; have f1 := blk_frozen hc 1; have f2 := blk_frozen hc 2; have Z10 := Aside0.mk hc; clear hc hbb hg)
                | ((with_reducible refine gate_store (t := 35) (p := 7) rfl ?_); refine store_event (t := 35) (p := 7) (v := ?vo_s) (w1 := (((w10.setCell ⟨g, 0, none⟩ (.int .i64 (rd_T35 b (j : Int)).f0)).setCell ⟨g, 1, none⟩ (.int .i64 (rd_T35 b (j : Int)).f1)).setCell ⟨g, 2, none⟩ (.int .i64 (rd_T35 b (j : Int)).f2))) ?hg ?ho ?hn ?hr ?_; (case ho => rfl); (case hg => rfl); (case hn => rfl); (case hr => first | (go_simp; done) | (go_simp; rfl)); intro w11 hw; have hF := (show w11.heap[g]? = some (.cells #[.int .i64 (rd_T35 b (j : Int)).f0, .int .i64 (rd_T35 b (j : Int)).f1, .int .i64 (rd_T35 b (j : Int)).f2] 35 (0, 0)) from hw ▸ blk_put (blk_put (blk_put Z10.out 0 _ rfl) 1 _ rfl) 2 _ rfl); have hb := (show Below wr.heap.size wr w11 from hw ▸ below_set (below_set (below_set HB10.out LG.out) LG.out) LG.out); have O11 := Aside0.mk (Kd.R_below OR.out hb); have B11 := Aside0.mk (below_step BR.out hb); clear hw hb; have c0_ : w11.cell? ⟨g, 0, none⟩ = some (.int .i64 (rd_T35 b (j : Int)).f0) := (blk_cell hF 0).trans rfl; have c1_ : w11.cell? ⟨g, 1, none⟩ = some (.int .i64 (rd_T35 b (j : Int)).f1) := (blk_cell hF 1).trans rfl; have c2_ : w11.cell? ⟨g, 2, none⟩ = some (.int .i64 (rd_T35 b (j : Int)).f2) := (blk_cell hF 2).trans rfl; clear hF)
                | (go_at_call 21; (with_reducible refine (impl_SessionPut.calls k _ _ acc (rd_T35 b (j : Int)).f0 (rd_T35 b (j : Int)).f1 (rd_T35 b (j : Int)).f2 x1 false w11 (Kd.R_reads' O11.out).2.2 (Kd.R_reads' O11.out).2.1 X5.out).mono ?_); rintro e w12 ⟨v12, rfl, ho, hb⟩; have N12 := Aside0.mk (Kd.R_lower ho (below_size B11.out)); have O12 := Aside0.mk (Kd.R_below O11.out hb); have B12 := Aside0.mk (below_step B11.out hb); clear ho hb))
              go_roundg (gk - 1)
              case measure => omega
              case rel => exact ⟨j + 1, acc, congrArg (Value.int .i64) wj, by omega, O12, B12, HD⟩
            | true =>
              rw [if_pos rfl] at hd
              have HD := Aside0.mk hd
              clear hd
              go_wp2_with (first
                | ((with_reducible refine gate_dst (N := 7) rfl ?_); refine box_event ?hg (N := 7) ?hd (cs := #[.int .i64 0, .int .i64 0, .int .i64 0]) (t := 35) ?hr ?_; (case hd => rfl); (case hg => rfl); (case hr => first | (go_simp; done) | (go_simp; rfl)); intro g hg w10 hc hbb; have HB10 := Aside0.mk hbb; have LG := Aside0.mk (Nat.le_of_eq hg.symm); have e0 : w10.cell? ⟨g, 0, none⟩ = some (.int .i64 0) := (blk_cell hc 0).trans rfl; have e1 : w10.cell? ⟨g, 1, none⟩ = some (.int .i64 0) := (blk_cell hc 1).trans rfl; have e2 : w10.cell? ⟨g, 2, none⟩ = some (.int .i64 0) := (blk_cell hc 2).trans rfl; have f0 := blk_frozen hc 0; have f1 := blk_frozen hc 1; have f2 := blk_frozen hc 2; have Z10 := Aside0.mk hc; clear hc hbb hg)
                | ((with_reducible refine gate_store (t := 35) (p := 7) rfl ?_); refine store_event (t := 35) (p := 7) (v := ?vo_s) (w1 := (((w10.setCell ⟨g, 0, none⟩ (.int .i64 (rd_T35 b (j : Int)).f0)).setCell ⟨g, 1, none⟩ (.int .i64 (rd_T35 b (j : Int)).f1)).setCell ⟨g, 2, none⟩ (.int .i64 (rd_T35 b (j : Int)).f2))) ?hg ?ho ?hn ?hr ?_; (case ho => rfl); (case hg => rfl); (case hn => rfl); (case hr => first | (go_simp; done) | (go_simp; rfl)); intro w11 hw; have hF := (show w11.heap[g]? = some (.cells #[.int .i64 (rd_T35 b (j : Int)).f0, .int .i64 (rd_T35 b (j : Int)).f1, .int .i64 (rd_T35 b (j : Int)).f2] 35 (0, 0)) from hw ▸ blk_put (blk_put (blk_put Z10.out 0 _ rfl) 1 _ rfl) 2 _ rfl); have hb := (show Below wr.heap.size wr w11 from hw ▸ below_set (below_set (below_set HB10.out LG.out) LG.out) LG.out); have O11 := Aside0.mk (Kd.R_below OR.out hb); have B11 := Aside0.mk (below_step BR.out hb); clear hw hb; have c0_ : w11.cell? ⟨g, 0, none⟩ = some (.int .i64 (rd_T35 b (j : Int)).f0) := (blk_cell hF 0).trans rfl; have c1_ : w11.cell? ⟨g, 1, none⟩ = some (.int .i64 (rd_T35 b (j : Int)).f1) := (blk_cell hF 1).trans rfl; have c2_ : w11.cell? ⟨g, 2, none⟩ = some (.int .i64 (rd_T35 b (j : Int)).f2) := (blk_cell hF 2).trans rfl; clear hF)
                | (go_at_call 21; (with_reducible refine (impl_SessionPut.calls k _ _ acc (rd_T35 b (j : Int)).f0 (rd_T35 b (j : Int)).f1 (rd_T35 b (j : Int)).f2 x1 true w11 (Kd.R_reads' O11.out).2.2 (Kd.R_reads' O11.out).2.1 X5.out).mono ?_); rintro e w12 ⟨v12, rfl, ho, hb⟩; have N12 := Aside0.mk (Kd.R_lower ho (below_size B11.out)); have O12 := Aside0.mk (Kd.R_below O11.out hb); have B12 := Aside0.mk (below_step B11.out hb); clear ho hb))
              go_roundg (gk - 1)
              case measure => omega
              case rel => exact ⟨j + 1, x1, congrArg (Value.int .i64) wj, by omega, N12, B12, HD⟩
          · have cj : decide ((j : Int) < (b.length : Int)) = false := decide_eq_false (by omega)
            have hd := HJ.out
            rw [List.drop_of_length_le (by omega)] at hd
            obtain rfl : acc = r := by simpa [impl_SessionsJoin.l] using hd
            clear hd HJ
            go_wp2
            go_ret
            exact ⟨_, rfl, OR.out, BR.out⟩
      · rw [if_neg hs] at h
        cases h



theorem fresh_ne {w w' : World} {b : Nat} {v u : Value} {xs ys : List S35} {ok : Nat → Prop} (hv : Kd.R k35 35 w' w.heap.size (fun _ => True) v xs) (hu : Kd.R k35 35 w b ok u ys) : ∀ k, v.ownBlock = some k → u.ownBlock = some k → False := fun k h1 h2 => by
  have := Kd.R_base hv k h1
  have := Kd.R_lt hu k h2
  omega
theorem keepR {W W2 : World} {b : Nat} {v u : Value} {xs : List S35} {ok : Nat → Prop} (h : Kd.R k35 35 W b ok v xs) (hk : Kept W W2 (fun k => some k = u.ownBlock)) (ne : ∀ k, v.ownBlock = some k → u.ownBlock = some k → False) : Kd.R k35 35 W2 b (fun _ => True) v xs :=
  Kd.R_mono (Kd.R_kept (Kd.R_tight rfl h) hk (fun k h1 h2 => ne k h1.symm h2.symm)) (fun _ _ => trivial)

def laws_FnExactSessionsJoin.judge (k : Nat) (a b : List S32) : Option Bool :=
  (laws_toSessionS.f k a).bind fun ya => (laws_toSessionS.f k b).bind fun yb => (spec_SessionsJoin.f k ya yb).bind fun y => (impl_SessionsJoin.f k ya yb).bind fun x => (laws_eqSessionS.f k x y).bind fun t1 =>
    (laws_eqSessionS.f k ya ya).bind fun t2 => (laws_eqSessionS.f k yb yb).bind fun t3 => (laws_markSessionS.f k ya 1).bind fun m1 => (laws_markSessionS.f k yb m1.1).bind fun m2 => (laws_markSessionS.f k x 1).bind fun m3 => (laws_heldSessionS.f k m3.2 1).bind fun q =>
      if t1 = true ∧ t2 = true ∧ t3 = true ∧ 0 ≤ m2.1 ∧ 0 ≤ q ∧ q = m3.1 then some true else none
def laws_FnExactSessionsJoin.f (k : Nat) (a b : List S32) : Option Bool :=
  (laws_szSessionS.f a 1048576).bind fun s1 => if s1 < 0 then some true else (laws_szSessionS.f b s1).bind fun s2 => if s2 < 0 then some true else laws_FnExactSessionsJoin.judge k a b

set_option maxHeartbeats 4000000 in
set_option maxRecDepth 100000 in
theorem laws_FnExactSessionsJoin.calls (k : Nat) (A0 : Option Addr) (c0 : Nat) (a : List S32) (A1 : Option Addr) (c1 : Nat) (b : List S32) (r : Bool) (w : World) (hr0 : Kd.C k32 w A0 a.length a) (hc0 : a.length ≤ c0) (hr1 : Kd.C k32 w A1 b.length b) (hc1 : b.length ≤ c1) (h : laws_FnExactSessionsJoin.f k a b = some r) :
    Calls Try.prog 6 #[.slice A0 a.length c0, .slice A1 b.length c1] w fun e w' => e = .returned (.bool r) ∧ Below w.heap.size w w' := by
  have HR0 := Aside0.mk hr0
  have HC0 := Aside0.mk hc0
  have HR1 := Aside0.mk hr1
  have HC1 := Aside0.mk hc1
  have B0 := Aside0.mk (Below.refl w.heap.size w)
  clear hr0 hc0 hr1 hc1
  unfold laws_FnExactSessionsJoin.f at h
  replace h := Option.bind_eq_some_iff.mp h
  obtain ⟨s1, h1, h⟩ := h
  have J1 := Aside0.mk h1
  clear h1
  by_cases hs : s1 < 0
  · rw [if_pos hs] at h
    obtain rfl := Option.some.inj h
    have d1 : decide (s1 < 0) = true := decide_eq_true hs
    clear h hs
    go_enter Try.func6, Try.ntmps6
    go_wp2_with (first
      | (go_at_call 12; (with_reducible refine (laws_szSessionS.calls _ _ a 1048576 s1 w HR0.out HC0.out J1.out).mono ?_); rintro e w1 ⟨rfl, ⟨nd, hw⟩⟩; have hb := (show Below w.heap.size w w1 from hw ▸ pw_below_drewN (Below.refl _ _) nd); clear hw; have B1 := Aside0.mk (below_step B0.out hb); clear hb))
    go_ret
    exact ⟨rfl, B1.out⟩
  · rw [if_neg hs] at h
    have d1 : decide (s1 < 0) = false := decide_eq_false hs
    clear hs
    replace h := Option.bind_eq_some_iff.mp h
    obtain ⟨s2, h2, h⟩ := h
    have J2 := Aside0.mk h2
    clear h2
    by_cases hs : s2 < 0
    · rw [if_pos hs] at h
      obtain rfl := Option.some.inj h
      have d2 : decide (s2 < 0) = true := decide_eq_true hs
      clear h hs
      go_enter Try.func6, Try.ntmps6
      go_wp2_with (first
        | (go_at_call 12; (with_reducible refine (laws_szSessionS.calls _ _ a 1048576 s1 w HR0.out HC0.out J1.out).mono ?_); rintro e w1 ⟨rfl, ⟨nd, hw⟩⟩; have hb := (show Below w.heap.size w w1 from hw ▸ pw_below_drewN (Below.refl _ _) nd); clear hw; have B1 := Aside0.mk (below_step B0.out hb); clear hb)
        | (go_at_call 12; (with_reducible refine (laws_szSessionS.calls _ _ b s1 s2 w1 (Kd.C_below HR1.out B1.out) HC1.out J2.out).mono ?_); rintro e w2 ⟨rfl, ⟨nd, hw⟩⟩; have hb := (show Below w1.heap.size w1 w2 from hw ▸ pw_below_drewN (Below.refl _ _) nd); clear hw; have B2 := Aside0.mk (below_step B1.out hb); clear hb))
      go_ret
      exact ⟨rfl, B2.out⟩
    · rw [if_neg hs] at h
      have d2 : decide (s2 < 0) = false := decide_eq_false hs
      clear hs
      unfold laws_FnExactSessionsJoin.judge at h
      replace h := Option.bind_eq_some_iff.mp h
      obtain ⟨ya, h3, h⟩ := h
      replace h := Option.bind_eq_some_iff.mp h
      obtain ⟨yb, h4, h⟩ := h
      replace h := Option.bind_eq_some_iff.mp h
      obtain ⟨y, h5, h⟩ := h
      replace h := Option.bind_eq_some_iff.mp h
      obtain ⟨x, h6, h⟩ := h
      replace h := Option.bind_eq_some_iff.mp h
      obtain ⟨t1, h7, h⟩ := h
      replace h := Option.bind_eq_some_iff.mp h
      obtain ⟨t2, h8, h⟩ := h
      replace h := Option.bind_eq_some_iff.mp h
      obtain ⟨t3, h9, h⟩ := h
      replace h := Option.bind_eq_some_iff.mp h
      obtain ⟨⟨k1, m1⟩, h10, h⟩ := h
      replace h := Option.bind_eq_some_iff.mp h
      obtain ⟨⟨k2, m2⟩, h11, h⟩ := h
      replace h := Option.bind_eq_some_iff.mp h
      obtain ⟨⟨k3, m3⟩, h12, h⟩ := h
      replace h := Option.bind_eq_some_iff.mp h
      obtain ⟨q, h13, h⟩ := h
      dsimp only at h11 h13 h
      by_cases hj : t1 = true ∧ t2 = true ∧ t3 = true ∧ 0 ≤ k2 ∧ 0 ≤ q ∧ q = k3
      · rw [if_pos hj] at h
        obtain ⟨rfl, rfl, rfl, hk2, hq, rfl⟩ := hj
        obtain rfl := Option.some.inj h
        have d3 : decide (k2 < 0) = false := decide_eq_false (by omega)
        have d4 : decide (q < 0) = false := decide_eq_false (by omega)
        have J3 := Aside0.mk h3
        have J4 := Aside0.mk h4
        have J5 := Aside0.mk h5
        have J6 := Aside0.mk h6
        have J7 := Aside0.mk h7
        have J8 := Aside0.mk h8
        have J9 := Aside0.mk h9
        have J10 := Aside0.mk h10
        have J11 := Aside0.mk h11
        have J12 := Aside0.mk h12
        have J13 := Aside0.mk h13
        clear h h3 h4 h5 h6 h7 h8 h9 h10 h11 h12 h13 hk2 hq
        go_enter Try.func6, Try.ntmps6
        go_wp2_with (first
          | (go_at_call 12; (with_reducible refine (laws_szSessionS.calls _ _ a 1048576 s1 w HR0.out HC0.out J1.out).mono ?_); rintro e w1 ⟨rfl, ⟨nd, hw⟩⟩; have hb := (show Below w.heap.size w w1 from hw ▸ pw_below_drewN (Below.refl _ _) nd); clear hw; have B1 := Aside0.mk (below_step B0.out hb); clear hb)
          | (go_at_call 12; (with_reducible refine (laws_szSessionS.calls _ _ b s1 s2 w1 (Kd.C_below HR1.out B1.out) HC1.out J2.out).mono ?_); rintro e w2 ⟨rfl, ⟨nd, hw⟩⟩; have hb := (show Below w1.heap.size w1 w2 from hw ▸ pw_below_drewN (Below.refl _ _) nd); clear hw; have B2 := Aside0.mk (below_step B1.out hb); clear hb)
          | (go_at_call 14; (with_reducible refine (laws_toSessionS.calls k _ _ a ya w2 (Kd.C_below HR0.out B2.out) HC0.out J3.out).mono ?_); rintro e w3 ⟨v3, rfl, ho, hb⟩; have B3 := Aside0.mk (below_step B2.out hb); have P3 := Aside0.mk (Kd.R_lower ho (below_size B2.out)); clear hb ho; obtain ⟨AP, kP, eP⟩ := Kd.R_slice P3.out; subst eP)
          | (go_at_call 14; (with_reducible refine (laws_toSessionS.calls k _ _ b yb w3 (Kd.C_below HR1.out B3.out) HC1.out J4.out).mono ?_); rintro e w4 ⟨v4, rfl, ho, hb⟩; have NEQP := Aside0.mk (fresh_ne ho P3.out); have P4 := Aside0.mk (Kd.R_below P3.out hb); have B4 := Aside0.mk (below_step B3.out hb); have Q4 := Aside0.mk (Kd.R_lower ho (below_size B3.out)); clear hb ho; obtain ⟨AQ, kQ, eQ⟩ := Kd.R_slice Q4.out; subst eQ)
          | (go_at_call 24; (with_reducible refine (spec_SessionsJoin.calls k _ _ ya _ _ yb y w4 (Kd.R_reads' P4.out).2.2 (Kd.R_reads' P4.out).2.1 (Kd.R_reads' Q4.out).2.2 (Kd.R_reads' Q4.out).2.1 J5.out).mono ?_); rintro e w5 ⟨v5, rfl, ho, hb⟩; have NEYP := Aside0.mk (fresh_ne ho P4.out); have NEYQ := Aside0.mk (fresh_ne ho Q4.out); have P5 := Aside0.mk (Kd.R_below P4.out hb); have Q5 := Aside0.mk (Kd.R_below Q4.out hb); have B5 := Aside0.mk (below_step B4.out hb); have Y5 := Aside0.mk (Kd.R_lower ho (below_size B4.out)); clear hb ho; obtain ⟨AY, kY, eY⟩ := Kd.R_slice Y5.out; subst eY)
          | (go_at_call 14; (with_reducible refine (laws_toSessionS.calls k _ _ a ya w5 (Kd.C_below HR0.out B5.out) HC0.out J3.out).mono ?_); rintro e w6 ⟨v6, rfl, ho, hb⟩; have NEXY := Aside0.mk (fresh_ne ho Y5.out); have Y6 := Aside0.mk (Kd.R_below Y5.out hb); have B6 := Aside0.mk (below_step B5.out hb); have X6 := Aside0.mk (Kd.R_lower ho (below_size B5.out)); clear hb ho; obtain ⟨AX, kX, eX⟩ := Kd.R_slice X6.out; subst eX)
          | (go_at_call 14; (with_reducible refine (laws_toSessionS.calls k _ _ b yb w6 (Kd.C_below HR1.out B6.out) HC1.out J4.out).mono ?_); rintro e w7 ⟨v7, rfl, ho, hb⟩; have NEZY := Aside0.mk (fresh_ne ho Y6.out); have NEZX := Aside0.mk (fresh_ne ho X6.out); have Y7 := Aside0.mk (Kd.R_below Y6.out hb); have X7 := Aside0.mk (Kd.R_below X6.out hb); have B7 := Aside0.mk (below_step B6.out hb); have Z7 := Aside0.mk (Kd.R_lower ho (below_size B6.out)); clear hb ho; obtain ⟨AZ, kZ, eZ⟩ := Kd.R_slice Z7.out; subst eZ)
          | (go_at_call 25; (with_reducible refine (impl_SessionsJoin.calls k _ _ ya _ _ yb x w7 (Kd.R_reads' X7.out).2.2 (Kd.R_reads' X7.out).2.1 (Kd.R_reads' Z7.out).2.2 (Kd.R_reads' Z7.out).2.1 J6.out).mono ?_); rintro e w8 ⟨v8, rfl, ho, hb⟩; have NEGY := Aside0.mk (fresh_ne ho Y7.out); have NEGX := Aside0.mk (fresh_ne ho X7.out); have NEGZ := Aside0.mk (fresh_ne ho Z7.out); have Y8 := Aside0.mk (Kd.R_below Y7.out hb); have X8 := Aside0.mk (Kd.R_below X7.out hb); have Z8 := Aside0.mk (Kd.R_below Z7.out hb); have B8 := Aside0.mk (below_step B7.out hb); have G8 := Aside0.mk (Kd.R_lower ho (below_size B7.out)); clear hb ho; obtain ⟨AG, kG, eG⟩ := Kd.R_slice G8.out; subst eG)
          | (go_at_call 16; (with_reducible refine (laws_eqSessionS.calls k _ _ x _ _ y true w8 (Kd.R_reads' G8.out).2.2 (Kd.R_reads' G8.out).2.1 (Kd.R_reads' Y8.out).2.2 (Kd.R_reads' Y8.out).2.1 J7.out).mono ?_); rintro e w9 ⟨rfl, hb⟩; have Y9 := Aside0.mk (Kd.R_below Y8.out hb); have X9 := Aside0.mk (Kd.R_below X8.out hb); have Z9 := Aside0.mk (Kd.R_below Z8.out hb); have G9 := Aside0.mk (Kd.R_below G8.out hb); have B9 := Aside0.mk (below_step B8.out hb); clear hb)
          | (go_at_call 14; (with_reducible refine (laws_toSessionS.calls k _ _ a ya w9 (Kd.C_below HR0.out B9.out) HC0.out J3.out).mono ?_); rintro e w10 ⟨v10, rfl, ho, hb⟩; have NEUY := Aside0.mk (fresh_ne ho Y9.out); have NEUX := Aside0.mk (fresh_ne ho X9.out); have NEUZ := Aside0.mk (fresh_ne ho Z9.out); have NEUG := Aside0.mk (fresh_ne ho G9.out); have Y10 := Aside0.mk (Kd.R_below Y9.out hb); have X10 := Aside0.mk (Kd.R_below X9.out hb); have Z10 := Aside0.mk (Kd.R_below Z9.out hb); have G10 := Aside0.mk (Kd.R_below G9.out hb); have B10 := Aside0.mk (below_step B9.out hb); have U10 := Aside0.mk (Kd.R_lower ho (below_size B9.out)); clear hb ho; obtain ⟨AU, kU, eU⟩ := Kd.R_slice U10.out; subst eU)
          | (go_at_call 16; (with_reducible refine (laws_eqSessionS.calls k _ _ ya _ _ ya true w10 (Kd.R_reads' X10.out).2.2 (Kd.R_reads' X10.out).2.1 (Kd.R_reads' U10.out).2.2 (Kd.R_reads' U10.out).2.1 J8.out).mono ?_); rintro e w11 ⟨rfl, hb⟩; have Y11 := Aside0.mk (Kd.R_below Y10.out hb); have X11 := Aside0.mk (Kd.R_below X10.out hb); have Z11 := Aside0.mk (Kd.R_below Z10.out hb); have G11 := Aside0.mk (Kd.R_below G10.out hb); have U11 := Aside0.mk (Kd.R_below U10.out hb); have B11 := Aside0.mk (below_step B10.out hb); clear hb)
          | (go_at_call 14; (with_reducible refine (laws_toSessionS.calls k _ _ b yb w11 (Kd.C_below HR1.out B11.out) HC1.out J4.out).mono ?_); rintro e w12 ⟨v12, rfl, ho, hb⟩; have NEVY := Aside0.mk (fresh_ne ho Y11.out); have NEVX := Aside0.mk (fresh_ne ho X11.out); have NEVZ := Aside0.mk (fresh_ne ho Z11.out); have NEVG := Aside0.mk (fresh_ne ho G11.out); have Y12 := Aside0.mk (Kd.R_below Y11.out hb); have X12 := Aside0.mk (Kd.R_below X11.out hb); have Z12 := Aside0.mk (Kd.R_below Z11.out hb); have G12 := Aside0.mk (Kd.R_below G11.out hb); have B12 := Aside0.mk (below_step B11.out hb); have V12 := Aside0.mk (Kd.R_lower ho (below_size B11.out)); clear hb ho; obtain ⟨AV, kV, eV⟩ := Kd.R_slice V12.out; subst eV)
          | (go_at_call 16; (with_reducible refine (laws_eqSessionS.calls k _ _ yb _ _ yb true w12 (Kd.R_reads' Z12.out).2.2 (Kd.R_reads' Z12.out).2.1 (Kd.R_reads' V12.out).2.2 (Kd.R_reads' V12.out).2.1 J9.out).mono ?_); rintro e w13 ⟨rfl, hb⟩; have Y13 := Aside0.mk (Kd.R_below Y12.out hb); have X13 := Aside0.mk (Kd.R_below X12.out hb); have Z13 := Aside0.mk (Kd.R_below Z12.out hb); have G13 := Aside0.mk (Kd.R_below G12.out hb); have V13 := Aside0.mk (Kd.R_below V12.out hb); have B13 := Aside0.mk (below_step B12.out hb); clear hb)
          | (go_at_call 22; (with_reducible refine (laws_markSessionS.calls k (fun k_ => some k_ = (.slice AX ya.length kX : Value).ownBlock) (.slice AX ya.length kX : Value) ya 1 k1 m1 w w13 B13.out (Kd.R_tight rfl X13.out) J10.out).mono ?_); rintro e w14 ⟨rfl, hy, hb, hkp⟩; have Y14 := Aside0.mk (keepR Y13.out hkp (fun k_ h1 h2 => NEXY.out k_ h2 h1)); have Z14 := Aside0.mk (keepR Z13.out hkp (fun k_ h1 h2 => NEZX.out k_ h1 h2)); have G14 := Aside0.mk (keepR G13.out hkp (fun k_ h1 h2 => NEGX.out k_ h1 h2)); have X14 := Aside0.mk (Kd.R_mono hy (fun _ _ => trivial)); have HLX := Aside0.mk (Kd.R_reads' hy).1; have B14 := Aside0.mk hb; clear hy hb hkp)
          | (go_at_call 22; (with_reducible refine (laws_markSessionS.calls k (fun k_ => some k_ = (.slice AZ yb.length kZ : Value).ownBlock) (.slice AZ yb.length kZ : Value) yb k1 k2 m2 w w14 B14.out (Kd.R_tight rfl Z14.out) J11.out).mono ?_); rintro e w15 ⟨rfl, hy, hb, hkp⟩; have Y15 := Aside0.mk (keepR Y14.out hkp (fun k_ h1 h2 => NEZY.out k_ h2 h1)); have G15 := Aside0.mk (keepR G14.out hkp (fun k_ h1 h2 => NEGZ.out k_ h1 h2)); have Z15 := Aside0.mk (Kd.R_mono hy (fun _ _ => trivial)); have HLZ := Aside0.mk (Kd.R_reads' hy).1; have B15 := Aside0.mk hb; clear hy hb hkp)
          | (go_at_call 16; (with_reducible refine (laws_eqSessionS.calls k _ _ x _ _ y true w15 (Kd.R_reads' G15.out).2.2 (Kd.R_reads' G15.out).2.1 (Kd.R_reads' Y15.out).2.2 (Kd.R_reads' Y15.out).2.1 J7.out).mono ?_); rintro e w16 ⟨rfl, hb⟩; have Y16 := Aside0.mk (Kd.R_below Y15.out hb); have G16 := Aside0.mk (Kd.R_below G15.out hb); have B16 := Aside0.mk (below_step B15.out hb); clear hb)
          | (go_at_call 22; (with_reducible refine (laws_markSessionS.calls k (fun k_ => some k_ = (.slice AG x.length kG : Value).ownBlock) (.slice AG x.length kG : Value) x 1 q m3 w w16 B16.out (Kd.R_tight rfl G16.out) J12.out).mono ?_); rintro e w17 ⟨rfl, hy, hb, hkp⟩; have Y17 := Aside0.mk (keepR Y16.out hkp (fun k_ h1 h2 => NEGY.out k_ h2 h1)); have G17 := Aside0.mk (Kd.R_mono hy (fun _ _ => trivial)); have HLG := Aside0.mk (Kd.R_reads' hy).1; have B17 := Aside0.mk hb; clear hy hb hkp)
          | (go_at_call 23; refine (show Calls Try.prog 23 #[.slice AG x.length kG, .int .i64 1] w17 _ from HLG.out ▸ laws_heldSessionS.calls k AG kG m3 1 q w17 (Kd.R_reads' G17.out).2.2 (HLG.out ▸ (Kd.R_reads' G17.out).2.1) J13.out).mono ?_; rintro e w18 ⟨rfl, ⟨nd, hw⟩⟩; have hb := (show Below w17.heap.size w17 w18 from hw ▸ pw_below_drewN (Below.refl _ _) nd); clear hw; have Y18 := Aside0.mk (Kd.R_below Y17.out hb); have G18 := Aside0.mk (Kd.R_below G17.out hb); have B18 := Aside0.mk (below_step B17.out hb); clear hb)
          | (go_at_call 14; (with_reducible refine (laws_toSessionS.calls k _ _ a ya w18 (Kd.C_below HR0.out B18.out) HC0.out J3.out).mono ?_); rintro e w19 ⟨v19, rfl, ho, hb⟩; have NERY := Aside0.mk (fresh_ne ho Y18.out); have NERG := Aside0.mk (fresh_ne ho G18.out); have Y19 := Aside0.mk (Kd.R_below Y18.out hb); have G19 := Aside0.mk (Kd.R_below G18.out hb); have B19 := Aside0.mk (below_step B18.out hb); have R19 := Aside0.mk (Kd.R_lower ho (below_size B18.out)); clear hb ho; obtain ⟨AR, kR, eR⟩ := Kd.R_slice R19.out; subst eR)
          | (go_at_call 14; (with_reducible refine (laws_toSessionS.calls k _ _ b yb w19 (Kd.C_below HR1.out B19.out) HC1.out J4.out).mono ?_); rintro e w20 ⟨v20, rfl, ho, hb⟩; have NESY := Aside0.mk (fresh_ne ho Y19.out); have NESG := Aside0.mk (fresh_ne ho G19.out); have NESR := Aside0.mk (fresh_ne ho R19.out); have Y20 := Aside0.mk (Kd.R_below Y19.out hb); have G20 := Aside0.mk (Kd.R_below G19.out hb); have R20 := Aside0.mk (Kd.R_below R19.out hb); have B20 := Aside0.mk (below_step B19.out hb); have S20 := Aside0.mk (Kd.R_lower ho (below_size B19.out)); clear hb ho; obtain ⟨AS, kS, eS⟩ := Kd.R_slice S20.out; subst eS)
          | (go_at_call 25; (with_reducible refine (impl_SessionsJoin.calls k _ _ ya _ _ yb x w20 (Kd.R_reads' R20.out).2.2 (Kd.R_reads' R20.out).2.1 (Kd.R_reads' S20.out).2.2 (Kd.R_reads' S20.out).2.1 J6.out).mono ?_); rintro e w21 ⟨v21, rfl, ho, hb⟩; have NEHY := Aside0.mk (fresh_ne ho Y20.out); have NEHG := Aside0.mk (fresh_ne ho G20.out); have NEHR := Aside0.mk (fresh_ne ho R20.out); have NEHS := Aside0.mk (fresh_ne ho S20.out); have Y21 := Aside0.mk (Kd.R_below Y20.out hb); have G21 := Aside0.mk (Kd.R_below G20.out hb); have R21 := Aside0.mk (Kd.R_below R20.out hb); have S21 := Aside0.mk (Kd.R_below S20.out hb); have B21 := Aside0.mk (below_step B20.out hb); have H21 := Aside0.mk (Kd.R_lower ho (below_size B20.out)); clear hb ho; obtain ⟨AH, kH, eH⟩ := Kd.R_slice H21.out; subst eH)
          | (go_at_call 16; (with_reducible refine (laws_eqSessionS.calls k _ _ x _ _ y true w21 (Kd.R_reads' H21.out).2.2 (Kd.R_reads' H21.out).2.1 (Kd.R_reads' Y21.out).2.2 (Kd.R_reads' Y21.out).2.1 J7.out).mono ?_); rintro e w22 ⟨rfl, hb⟩; have Y22 := Aside0.mk (Kd.R_below Y21.out hb); have G22 := Aside0.mk (Kd.R_below G21.out hb); have R22 := Aside0.mk (Kd.R_below R21.out hb); have S22 := Aside0.mk (Kd.R_below S21.out hb); have H22 := Aside0.mk (Kd.R_below H21.out hb); have B22 := Aside0.mk (below_step B21.out hb); clear hb)
          | (go_at_call 23; refine (show Calls Try.prog 23 #[.slice AG x.length kG, .int .i64 1] w22 _ from HLG.out ▸ laws_heldSessionS.calls k AG kG m3 1 q w22 (Kd.R_reads' G22.out).2.2 (HLG.out ▸ (Kd.R_reads' G22.out).2.1) J13.out).mono ?_; rintro e w23 ⟨rfl, ⟨nd, hw⟩⟩; have hb := (show Below w22.heap.size w22 w23 from hw ▸ pw_below_drewN (Below.refl _ _) nd); clear hw; have Y23 := Aside0.mk (Kd.R_below Y22.out hb); have G23 := Aside0.mk (Kd.R_below G22.out hb); have R23 := Aside0.mk (Kd.R_below R22.out hb); have S23 := Aside0.mk (Kd.R_below S22.out hb); have H23 := Aside0.mk (Kd.R_below H22.out hb); have B23 := Aside0.mk (below_step B22.out hb); clear hb))
        go_ret
        exact ⟨rfl, B23.out⟩
      · rw [if_neg hj] at h
        cases h

end Go.Proofs.Ytmljefpcjlelmaa.PFnExactSessionsJoin
