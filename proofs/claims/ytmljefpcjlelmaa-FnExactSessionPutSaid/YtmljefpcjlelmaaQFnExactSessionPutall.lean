/- The place of a client among sessions: slices.BinarySearchFunc at sessions, cmp.Compare and impl.sessionPlace, walked by hand (the print takes no function value). impl_SessionPut by hand (the print takes none of what it calls): a list is put together anew, with one session placed. impl_SessionPut by hand (the print takes none of what it calls): the session is placed, or the list is as it was. laws_FnExactSessionPut by hand (it calls what the print does not take): the ways on which the law answers true. -/
import Derived.Test.YtmljefpcjlelmaaPFnExactSessionPutx0
import Derived.Test.YtmljefpcjlelmaaPFnExactSessionPutx1
import Derived.Test.YtmljefpcjlelmaaPFnExactSessionPutx11
import Derived.Test.YtmljefpcjlelmaaPFnExactSessionPutx12
import Derived.Test.YtmljefpcjlelmaaPFnExactSessionPutx13
import Derived.Test.YtmljefpcjlelmaaPFnExactSessionPutx2
import Derived.Test.YtmljefpcjlelmaaPFnExactSessionPutx4
import Derived.Test.YtmljefpcjlelmaaPFnExactSessionPutx9
namespace Go.Proofs.Ytmljefpcjlelmaa.PFnExactSessionPut
open Go.RowKit Go.Proofs.YtmljefpcjlelmaaW.PrintWords Go.Proofs.YtmljefpcjlelmaaW.PrintLast Go.Proofs.YtmljefpcjlelmaaW.PrintMore
set_option linter.unusedVariables false
set_option linter.unusedSimpArgs false

def cmpI (x y : Int) : Int := if x < y then -1 else if x > y then 1 else 0
theorem cmp_isNaN.calls (x : Int) (w : World) : Calls Try.prog 64 #[.int .i64 x] w fun e w' => e = .returned (.bool false) ∧ Below w.heap.size w w' := by
  go_enter Try.func64, Try.ntmps64
  go_wp2
  go_ret
  exact ⟨by simp, Below.refl _ _⟩
set_option maxHeartbeats 1000000 in
theorem cmp_Compare.calls (x y : Int) (w : World) : Calls Try.prog 60 #[.int .i64 x, .int .i64 y] w fun e w' => e = .returned (.int .i64 (cmpI x y)) ∧ Below w.heap.size w w' := by
  unfold cmpI
  by_cases h1 : x < y
  · have d1 : decide (x < y) = true := decide_eq_true h1
    rw [if_pos h1]
    clear h1
    go_enter Try.func60, Try.ntmps60
    go_wp2_with (first
      | (go_at_call 64; (with_reducible refine (cmp_isNaN.calls x w).mono ?_); rintro e w1 ⟨rfl, hb⟩; have B1 := Aside0.mk hb; clear hb)
      | (go_at_call 64; (with_reducible refine (cmp_isNaN.calls y w1).mono ?_); rintro e w2 ⟨rfl, hb⟩; have B2 := Aside0.mk (below_step B1.out hb); clear hb))
    go_ret
    exact ⟨rfl, B2.out⟩
  · have d1 : decide (x < y) = false := decide_eq_false h1
    rw [if_neg h1]
    by_cases h2 : x > y
    · have d2 : decide (x > y) = true := decide_eq_true h2
      rw [if_pos h2]
      clear h1 h2
      go_enter Try.func60, Try.ntmps60
      go_wp2_with (first
        | (go_at_call 64; (with_reducible refine (cmp_isNaN.calls x w).mono ?_); rintro e w1 ⟨rfl, hb⟩; have B1 := Aside0.mk hb; clear hb)
        | (go_at_call 64; (with_reducible refine (cmp_isNaN.calls y w1).mono ?_); rintro e w2 ⟨rfl, hb⟩; have B2 := Aside0.mk (below_step B1.out hb); clear hb))
      go_ret
      exact ⟨rfl, B2.out⟩
    · have d2 : decide (x > y) = false := decide_eq_false h2
      rw [if_neg h2]
      clear h1 h2
      go_enter Try.func60, Try.ntmps60
      go_wp2_with (first
        | (go_at_call 64; (with_reducible refine (cmp_isNaN.calls x w).mono ?_); rintro e w1 ⟨rfl, hb⟩; have B1 := Aside0.mk hb; clear hb)
        | (go_at_call 64; (with_reducible refine (cmp_isNaN.calls y w1).mono ?_); rintro e w2 ⟨rfl, hb⟩; have B2 := Aside0.mk (below_step B1.out hb); clear hb))
      go_ret
      exact ⟨rfl, B2.out⟩

set_option maxHeartbeats 1000000 in
theorem impl_sessionPlace1.calls (s : S35) (c : Int) (w : World) : Calls Try.prog 59 #[.agg #[.int .i64 s.f0, .int .i64 s.f1, .int .i64 s.f2], .int .i64 c] w fun e w' => e = .returned (.int .i64 (cmpI s.f0 c)) ∧ Below w.heap.size w w' := by
  have hu := Try.underlying35
  go_enter Try.func59, Try.ntmps59
  go_wp2_with (first
    | ((with_reducible refine gate_dst (N := 2) rfl ?_); refine box_event ?hg (N := 2) ?hd (cs := #[.int .i64 s.f0, .int .i64 s.f1, .int .i64 s.f2]) (t := 35) ?hr ?_; (case hd => rfl); (case hg => rfl); (case hr => first | (go_simp; done) | (go_simp; rfl)); intro g hg w1 hc hb; have B1 := Aside0.mk hb; have c0 : w1.cell? ⟨g, 0, none⟩ = some (.int .i64 s.f0) := (blk_cell hc 0).trans rfl; clear hc hb hg)
    | (go_at_call 60; (with_reducible refine (cmp_Compare.calls s.f0 c w1).mono ?_); rintro e w2 ⟨rfl, hb⟩; have B2 := Aside0.mk (below_step B1.out hb); clear hb))
  go_ret
  exact ⟨rfl, B2.out⟩

/-- where the client is, or were, among lo .. hi -/
def placeOf (l : List S35) (c : Int) : Nat → Nat → Nat → Nat
  | 0, lo, _ => lo
  | d + 1, lo, hi => if lo < hi then (if (rd_T35 l (((lo + hi) / 2 : Nat) : Int)).f0 < c then placeOf l c d ((lo + hi) / 2 + 1) hi else placeOf l c d lo ((lo + hi) / 2)) else lo
theorem cmpI_neg (x c : Int) : decide (cmpI x c < 0) = decide (x < c) := by
  unfold cmpI
  by_cases h : x < c
  · simp [h]
  · by_cases h2 : x > c <;> simp [h, h2]
theorem cmpI_zero (x c : Int) : (cmpI x c == 0) = decide (x = c) := by
  unfold cmpI
  by_cases h : x < c
  · rw [if_pos h, decide_eq_false (by omega)]
    rfl
  · by_cases h2 : x > c
    · rw [if_neg h, if_pos h2, decide_eq_false (by omega)]
      rfl
    · rw [if_neg h, if_neg h2, decide_eq_true (by omega)]
      rfl
def hitOf (l : List S35) (c : Int) : Bool := decide (placeOf l c l.length 0 l.length < l.length) && decide ((rd_T35 l ((placeOf l c l.length 0 l.length : Nat) : Int)).f0 = c)

set_option maxHeartbeats 4000000 in
set_option maxRecDepth 100000 in
theorem slices_BinarySearchFunc.calls (A0 : Option Addr) (c0 : Nat) (l : List S35) (c : Int) (w : World) (hr0 : Kd.C k35 w A0 l.length l) (hc0 : l.length ≤ c0) (hsz : l.length < 4611686018427387904) :
    Calls Try.prog 58 #[.slice A0 l.length c0, .int .i64 c, .func (.func 59) #[] #[]] w fun e w' =>
      e = .returned (.tuple #[.int .i64 ((placeOf l c l.length 0 l.length : Nat) : Int), .bool (hitOf l c)]) ∧ Below w.heap.size w w' := by
  have HR0 := Aside0.mk hr0
  clear hr0
  have hu := Try.underlying35
  generalize hR : placeOf l c l.length 0 l.length = R
  have HT := Aside0.mk (show hitOf l c = (decide (R < l.length) && decide ((rd_T35 l ((R : Nat) : Int)).f0 = c)) by unfold hitOf; rw [hR])
  have PR := Aside0.mk hR
  clear hR
  go_enter Try.func58, Try.ntmps58
  go_wp2
  go_loopg [9, 10] l.length (fun kx s9 s10 wr => ∃ lo hi : Nat, s9 = .int .i64 lo ∧ s10 = .int .i64 hi ∧ lo ≤ hi ∧ hi ≤ l.length ∧ hi - lo ≤ kx ∧ Aside0 (Below w.heap.size w wr) ∧ Aside0 (placeOf l c kx lo hi = R))
  case atStart => exact ⟨0, l.length, rfl, rfl, Nat.zero_le _, Nat.le_refl _, by omega, ⟨Below.refl _ _⟩, PR⟩
  case round =>
    clear PR
    obtain ⟨lo, hi, rfl, rfl, hlh, hin, hg, BW, PW⟩ := hrel
    by_cases hlt : lo < hi
    · obtain ⟨d, rfl⟩ : ∃ d, gk = d + 1 := ⟨gk - 1, by omega⟩
      have hp := PW.out
      simp only [placeOf] at hp
      rw [if_pos hlt] at hp
      obtain ⟨ad, hA, x0, x1, x2⟩ := at_T35 (Kd.C_below HR0.out BW.out) (((lo + hi) / 2 : Nat) : Int) (by omega) (by omega)
      subst hA
      generalize hy : rd_T35 l (((lo + hi) / 2 : Nat) : Int) = y at x0 x1 x2 hp
      rw [Int.toNat_natCast] at x0 x1 x2
      clear hy
      by_cases hyx : y.f0 < c
      · rw [if_pos hyx] at hp
        have P2 := Aside0.mk hp
        have dc : decide (cmpI y.f0 c < 0) = true := (cmpI_neg _ _).trans (decide_eq_true hyx)
        clear PW hp hyx
        go_wp2_with (go_at_call 59; (with_reducible refine (impl_sessionPlace1.calls y c wr).mono ?_); rintro e w1 ⟨rfl, hb⟩; have B1 := Aside0.mk (below_step BW.out hb); clear hb)
        go_roundg d
        case measure => omega
        case rel => exact ⟨(lo + hi) / 2 + 1, hi, by rw [show ((lo : Int) + (hi : Int)) / 2 + 1 = (((lo + hi) / 2 + 1 : Nat) : Int) by omega], rfl, by omega, hin, by omega, B1, P2⟩
      · rw [if_neg hyx] at hp
        have P2 := Aside0.mk hp
        have dc : decide (cmpI y.f0 c < 0) = false := (cmpI_neg _ _).trans (decide_eq_false hyx)
        clear PW hp hyx
        go_wp2_with (go_at_call 59; (with_reducible refine (impl_sessionPlace1.calls y c wr).mono ?_); rintro e w1 ⟨rfl, hb⟩; have B1 := Aside0.mk (below_step BW.out hb); clear hb)
        go_roundg d
        case measure => omega
        case rel => exact ⟨lo, (lo + hi) / 2, rfl, by rw [show ((lo : Int) + (hi : Int)) / 2 = (((lo + hi) / 2 : Nat) : Int) by omega], by omega, by omega, by omega, B1, P2⟩
    · obtain rfl : R = lo := by
        rw [← PW.out]
        cases gk with
        | zero => rfl
        | succ d => simp only [placeOf]; rw [if_neg hlt]
      by_cases hn : R < l.length
      · obtain ⟨ad, hA, x0, x1, x2⟩ := at_T35 (Kd.C_below HR0.out BW.out) (R : Int) (by omega) (by omega)
        subst hA
        generalize hy : rd_T35 l (R : Int) = y at x0 x1 x2 HT
        rw [Int.toNat_natCast] at x0 x1 x2
        clear hy PW
        go_wp2_with (go_at_call 59; (with_reducible refine (impl_sessionPlace1.calls y c wr).mono ?_); rintro e w1 ⟨rfl, hb⟩; have B1 := Aside0.mk (below_step BW.out hb); clear hb)
        go_ret2
        refine ⟨?_, B1.out⟩
        rw [HT.out, decide_eq_true hn, ← cmpI_zero]
        rfl
      · clear PW
        go_wp2
        go_ret2
        refine ⟨?_, BW.out⟩
        rw [HT.out, decide_eq_false hn]
        rfl

theorem impl_sessionPlace.calls (A0 : Option Addr) (c0 : Nat) (l : List S35) (c : Int) (w : World) (hr0 : Kd.C k35 w A0 l.length l) (hc0 : l.length ≤ c0) (hsz : l.length < 4611686018427387904) :
    Calls Try.prog 42 #[.slice A0 l.length c0, .int .i64 c] w fun e w' => e = .returned (.tuple #[.int .i64 ((placeOf l c l.length 0 l.length : Nat) : Int), .bool (hitOf l c)]) ∧ Below w.heap.size w w' := by
  have h := slices_BinarySearchFunc.calls A0 c0 l c w hr0 hc0 hsz
  go_enter Try.func42, Try.ntmps42
  go_wp2_with (go_at_call 58; (with_reducible refine h.mono ?_); rintro e w1 ⟨rfl, hb⟩; have B1 := Aside0.mk hb; clear hb)
  go_ret2
  exact ⟨rfl, B1.out⟩



/-- make([]T, 0, n) -/
theorem make_cap {α : Type} {P : Program} {ops : Array Oper} {Q : Exit → Act → World → Prop} {rest : List Oper} {o : Oper} {a : Act} (d : Kd α) {w0 W : World} (base e : Nat) (hgd : o.guard = none) {N : Tmp} (hd : o.dst = some N) (t : TypeId) (x y : Operand) (ho : o.op = .makeSlice t x y) (n : Nat)
    (hx : a.eval x = .int .i64 0) (hy : a.eval y = .int .i64 (n : Int)) (ht : P.underlying t = some (.slice e)) (z : Value) (bytes : Nat) (hinfo : (P.info? e).map (fun i => (i.zero, i.size, i.bytes)) = some (some z, d.sz, bytes)) (hb0 : 0 < bytes)
    (hl : n * bytes ≤ 281474976710656) (HB : Below base w0 W) (hbase : base ≤ W.heap.size)
    (h : ∀ v1 w1, d.R e w1 base (fun _ => True) v1 [] → Below base w0 w1 → wpList P ops Q rest (a.put o.dst v1) w1) : wpList P ops Q (o :: rest) a W := by
  obtain ⟨i0, hi, hzz⟩ := Option.map_eq_some_iff.1 hinfo
  simp only [Prod.mk.injEq] at hzz
  obtain ⟨hz0, hz1, hz2⟩ := hzz
  have hm : n ≤ 281474976710656 := Nat.le_trans (Nat.le_mul_of_pos_right _ hb0) hl
  have hr := run_make (P := P) W t e i0 z ht hi hz0 .i64 .i64 0 (n : Int) (Int.le_refl _) (by omega)
    (by
      have h3 : ((i0.bytes * n : Nat) : Int) ≤ 281474976710656 := by rw [hz2, Nat.mul_comm]; omega
      rwa [Int.natCast_mul] at h3) (by omega)
  simp only [Int.toNat_zero, Int.toNat_natCast] at hr
  have hown := World.ownsRow_made (base := base) (e := e) (size := i0.size) W (madeCells z.cells (n * i0.size)) n hbase (by unfold maxLen; omega) (size_madeCells _ _)
  rw [hz1] at hown hr
  refine Kd.event_run hgd ?_ (h _ _ ⟨fun _ _ => trivial, [], hown, Reps.none _ _⟩ (HB.alloc hbase _))
  simp [execOp, ho, hx, hy, hr]

/-- sessions as cells of a row that is read are sessions as cells of a row of one's own -/
theorem ses_own (W : World) (base : Nat) (x : S35) (cs : List Value) (h : k35.K W x cs) : k35.M W base (fun _ => False) x cs := by
  obtain rfl := k35_open h
  exact k35_mkM _ _ _ x

set_option maxHeartbeats 1000000 in
theorem impl_copyOf.calls (A0 : Option Addr) (c0 : Nat) (l : List S35) (w : World) (hr0 : Kd.C k35 w A0 l.length l) (hc0 : l.length ≤ c0) (hs : l.length ≤ 1000000) :
    Calls Try.prog 44 #[.slice A0 l.length c0] w fun e w' => ∃ v0_ : Value, e = .returned v0_ ∧ Kd.R k35 35 w' w.heap.size (fun _ => True) v0_ l ∧ Below w.heap.size w w' := by
  have HR0 := Aside0.mk hr0
  clear hr0
  go_enter Try.func44, Try.ntmps44
  go_wp2_with ((with_reducible refine gate_builtin (b := .append) (xs := #[.const (.slice none 0 0), .tmp 3]) rfl ?_); at_builtin; refine Kd.R_append_rows k35 (w0 := w) w.heap.size rfl (.const (.slice none 0 0)) (.tmp 3) 25 35 (.agg #[.int .i64 0, .int .i64 0, .int .i64 0]) 24 rfl Try.underlying25 info35 rfl (by decide) (by omega) (.slice none 0 0) [] l _ _ _ (fun _ => True) (fun _ => False) rfl rfl (Kd.R_nil _ _ _ _ _) HR0.out (fun x cs h => ses_own _ _ x cs h) (fun _ h => h.elim) (fun _ _ => trivial) (Below.refl _ _) (Nat.le_refl _) (by simp only [List.length_nil]; omega) ?_; intro v1 w1 ho hb hg hat; rw [List.nil_append] at ho; have O := Aside0.mk ho; have B := Aside0.mk hb; clear ho hb hg hat)
  go_ret
  exact ⟨_, rfl, O.out, B.out⟩

set_option maxHeartbeats 2000000 in
theorem impl_replaced.calls (A0 : Option Addr) (c0 : Nat) (l : List S35) (at_ many : Nat) (A1 : Option Addr) (c1 : Nat) (by_ : List S35) (w : World) (hr0 : Kd.C k35 w A0 l.length l) (hc0 : l.length ≤ c0) (hr1 : Kd.C k35 w A1 by_.length by_) (hc1 : by_.length ≤ c1)
    (hs : l.length ≤ 1000000) (hs1 : by_.length ≤ 1000000) (ham : at_ + many ≤ l.length) :
    Calls Try.prog 43 #[.slice A0 l.length c0, .int .i64 (at_ : Int), .int .i64 (many : Int), .slice A1 by_.length c1] w fun e w' => ∃ v0_ : Value, e = .returned v0_ ∧ Kd.R k35 35 w' w.heap.size (fun _ => True) v0_ ((l.take at_ ++ by_) ++ l.drop (at_ + many)) ∧ Below w.heap.size w w' := by
  have HR0 := Aside0.mk hr0
  have HR1 := Aside0.mk hr1
  clear hr0 hr1
  have hsum : (l.length : Int) - (many : Int) + (by_.length : Int) = ((l.length - many + by_.length : Nat) : Int) := by omega
  obtain ⟨i0, hif, _, hsz, _⟩ := info_parts info35
  have hcut1 := cut_to (P := Try.prog) 25 35 .i64 Try.underlying25 hif A0 l.length c0 (at_ : Int) (by omega) (by omega) hc0
  have hcut2 := cut_from (P := Try.prog) 25 35 .i64 Try.underlying25 hif 3 hsz A0 l.length c0 ((at_ : Int) + (many : Int)) (by omega) (by omega)
  rw [Int.toNat_natCast] at hcut1
  rw [show ((at_ : Int) + (many : Int)).toNat = at_ + many by omega] at hcut2
  have C1 := Aside0.mk (fun {W : World} (h : Kd.C k35 W A0 l.length l) => show Kd.C k35 W A0 at_ (l.take at_) from by
    have := Kd.C_take h (m := at_) (by omega)
    rwa [List.length_take, Nat.min_eq_left (by omega)] at this)
  obtain ⟨A2, hA2⟩ : ∃ A2, A2 = (if c0 = at_ + many then A0 else A0.map (·.add ((at_ + many) * 3))) := ⟨_, rfl⟩
  rw [← hA2] at hcut2
  have C2 := Aside0.mk (fun {W : World} (h : Kd.C k35 W A0 l.length l) => show Kd.C k35 W A2 (l.length - (at_ + many)) (l.drop (at_ + many)) from by
    have := Kd.C_drop h (m := at_ + many) (c := c0) (by omega) hc0
    rw [List.length_drop] at this
    rw [hA2]
    exact this)
  have SUM := Aside0.mk hsum
  clear hsum hif hsz hA2
  go_enter Try.func43, Try.ntmps43
  go_wp2_with (first
    | ((with_reducible refine gate_dst (N := 17) rfl ?_); refine make_cap k35 (w0 := w) w.heap.size 35 rfl (N := 17) rfl 25 _ _ rfl (l.length - many + by_.length) rfl (congrArg (Value.int .i64) SUM.out) Try.underlying25 (.agg #[.int .i64 0, .int .i64 0, .int .i64 0]) 24 info35 (by omega) (by omega) (Below.refl _ _) (Nat.le_refl _) ?_; intro v1 w1 ho hb; have O1 := Aside0.mk ho; have B1 := Aside0.mk hb; clear ho hb)
    | ((with_reducible refine gate_builtin (b := .append) (xs := #[.tmp 18, .tmp 21]) rfl ?_); at_builtin; refine Kd.R_append_rows k35 (w0 := w) w.heap.size rfl (.tmp 18) (.tmp 21) 25 35 (.agg #[.int .i64 0, .int .i64 0, .int .i64 0]) 24 rfl Try.underlying25 info35 rfl (by decide) (by omega) v1 [] (l.take at_) _ _ _ (fun _ => True) (fun _ => False) rfl rfl O1.out (C1.out (Kd.C_below HR0.out B1.out)) (fun x cs h => ses_own _ _ x cs h) (fun _ h => h.elim) (fun _ _ => trivial) B1.out (below_size B1.out) (by simp only [List.length_nil]; omega) ?_; intro v2 w2 ho hb hg hat; rw [List.nil_append] at ho; have O2 := Aside0.mk ho; have B2 := Aside0.mk hb; clear ho hb hg hat)
    | ((with_reducible refine gate_builtin (b := .append) (xs := #[.tmp 23, .tmp 24]) rfl ?_); at_builtin; refine Kd.R_append_rows k35 (w0 := w) w.heap.size rfl (.tmp 23) (.tmp 24) 25 35 (.agg #[.int .i64 0, .int .i64 0, .int .i64 0]) 24 rfl Try.underlying25 info35 rfl (by decide) (by omega) v2 (l.take at_) by_ _ _ _ (fun _ => True) (fun _ => False) rfl rfl O2.out (Kd.C_below HR1.out B2.out) (fun x cs h => ses_own _ _ x cs h) (fun _ h => h.elim) (fun _ _ => trivial) B2.out (below_size B2.out) (by simp only [List.length_take]; omega) ?_; intro v3 w3 ho hb hg hat; have O3 := Aside0.mk ho; have B3 := Aside0.mk hb; clear ho hb hg hat)
    | ((with_reducible refine gate_builtin (b := .append) (xs := #[.tmp 26, .tmp 31]) rfl ?_); at_builtin; refine Kd.R_append_rows k35 (w0 := w) w.heap.size rfl (.tmp 26) (.tmp 31) 25 35 (.agg #[.int .i64 0, .int .i64 0, .int .i64 0]) 24 rfl Try.underlying25 info35 rfl (by decide) (by omega) v3 (l.take at_ ++ by_) (l.drop (at_ + many)) _ _ _ (fun _ => True) (fun _ => False) rfl rfl O3.out (C2.out (Kd.C_below HR0.out B3.out)) (fun x cs h => ses_own _ _ x cs h) (fun _ h => h.elim) (fun _ _ => trivial) B3.out (below_size B3.out) (by simp only [List.length_append, List.length_take]; omega) ?_; intro v4 w4 ho hb hg hat; have O4 := Aside0.mk ho; have B4 := Aside0.mk hb; clear ho hb hg hat))
  go_ret
  exact ⟨_, rfl, O4.out, B4.out⟩



theorem placeOf_le (l : List S35) (c : Int) : ∀ (d lo hi : Nat), lo ≤ hi → placeOf l c d lo hi ≤ hi
  | 0, _, _, h => h
  | d + 1, lo, hi, h => by
    rw [placeOf]
    by_cases hlt : lo < hi
    · rw [if_pos hlt]
      split
      · exact placeOf_le l c d _ _ (by omega)
      · exact Nat.le_trans (placeOf_le l c d _ _ (by omega)) (by omega)
    · rw [if_neg hlt]
      exact h
def plOf (l : List S35) (c : Int) : Nat := placeOf l c l.length 0 l.length
def impl_SessionPut.f (k : Nat) (l : List S35) (a b c : Int) : Option (List S35 × Bool) :=
  (impl_SessionsValid.f k l).bind fun q => if q = false then some ([], false) else (impl_SessionsValid.f k [⟨a, b, c⟩]).bind fun q2 => if q2 = false then some ([], false) else
    if l.length ≤ 1000000 then
      (if hitOf l a = false then some ((l.take (plOf l a) ++ [⟨a, b, c⟩]) ++ l.drop (plOf l a + 0), true)
        else if (rd_T35 l ((plOf l a : Nat) : Int)).f1 ≥ b then some (l, false) else some ((l.take (plOf l a) ++ [⟨a, b, c⟩]) ++ l.drop (plOf l a + 1), true)) else none
def bits (n m : Nat) : Array Bool := ((List.range n).map fun i => m.testBit i).toArray
def impl_SessionPut.T6 : Bool × List (List Nat × List Nat) := (true, [([], []), ([], []), ([0, 1], [0, 1]), ([2], [2]), ([3], [3]), ([], []), ([5], [5]), ([4, 6], [4, 6])])
def impl_SessionPut.B6 : List Nat := [0, 0, 3, 7, 15, 0, 32, 127]
theorem impl_SessionPut.tab6 : rtab .any (opsOf Try.f21 6) = impl_SessionPut.T6 := by kernel_rfl
theorem impl_SessionPut.bits6 : waitsOk impl_SessionPut.T6.2 impl_SessionPut.B6 = true := by kernel_rfl

set_option maxHeartbeats 4000000 in
set_option maxRecDepth 100000 in
theorem impl_SessionPut.calls (k : Nat) (A0 : Option Addr) (c0 : Nat) (l : List S35) (a b c : Int) (r1 : List S35) (r2 : Bool) (w : World) (hr0 : Kd.C k35 w A0 l.length l) (hc0 : l.length ≤ c0) (h : impl_SessionPut.f k l a b c = some (r1, r2)) :
    Calls Try.prog 21 #[.slice A0 l.length c0, .agg #[.int .i64 a, .int .i64 b, .int .i64 c]] w fun e w' => ∃ v0_ : Value, e = .returned (.tuple #[v0_, .bool r2]) ∧ Kd.R k35 35 w' w.heap.size (fun _ => True) v0_ r1 ∧ Below w.heap.size w w' := by
  have hu := Try.underlying35
  have HR0 := Aside0.mk hr0
  have HC0 := Aside0.mk hc0
  clear hr0 hc0
  unfold impl_SessionPut.f at h
  replace h := Option.bind_eq_some_iff.mp h
  obtain ⟨q, h1, h⟩ := h
  have X1 := Aside0.mk h1
  clear h1
  cases q with
  | false =>
    rw [if_pos rfl] at h
    obtain ⟨rfl, rfl⟩ : r1 = [] ∧ r2 = false := by simpa [eq_comm] using h
    clear h
    go_enter Try.func21, Try.ntmps21
    go_wp2_with (first
      | ((with_reducible refine gate_dst (N := 3) rfl ?_); refine box_event ?hg (N := 3) ?hd (cs := #[.int .i64 a, .int .i64 b, .int .i64 c]) (t := 35) ?hr ?_; (case hd => rfl); (case hg => rfl); (case hr => first | (go_simp; done) | (go_simp; rfl)); intro g hg w1 hc hb; have B1 := Aside0.mk hb; have hF := hc; clear hc hb hg; have F1 := Aside0.mk hF; have c10 : w1.cell? ⟨g, 0, none⟩ = some (.int .i64 a) := (blk_cell hF 0).trans rfl; have c11 : w1.cell? ⟨g, 1, none⟩ = some (.int .i64 b) := (blk_cell hF 1).trans rfl; have c12 : w1.cell? ⟨g, 2, none⟩ = some (.int .i64 c) := (blk_cell hF 2).trans rfl; clear hF)
      | (go_at_call 15; (with_reducible refine (impl_SessionsValid.calls k _ _ l false w1 ?side1 HC0.out X1.out).mono ?_); (case side1 => exact Kd.C_below HR0.out B1.out); rintro e w2 ⟨rfl, hb⟩; have hF := blk_below F1.out hb; have B2 := Aside0.mk (below_step B1.out hb); clear hb; have F2 := Aside0.mk hF; have c20 : w2.cell? ⟨g, 0, none⟩ = some (.int .i64 a) := (blk_cell hF 0).trans rfl; have c21 : w2.cell? ⟨g, 1, none⟩ = some (.int .i64 b) := (blk_cell hF 1).trans rfl; have c22 : w2.cell? ⟨g, 2, none⟩ = some (.int .i64 c) := (blk_cell hF 2).trans rfl; clear hF))
    go_ret2
    exact ⟨_, rfl, Kd.R_nil _ _ _ _ _, B2.out⟩
  | true =>
    rw [if_neg (by simp)] at h
    replace h := Option.bind_eq_some_iff.mp h
    obtain ⟨q2, h2, h⟩ := h
    have X2 := Aside0.mk h2
    clear h2
    cases q2 with
    | false =>
      rw [if_pos rfl] at h
      obtain ⟨rfl, rfl⟩ : r1 = [] ∧ r2 = false := by simpa [eq_comm] using h
      clear h
      go_enter Try.func21, Try.ntmps21
      go_wp2_with (first
        | ((with_reducible refine gate_dst (N := 3) rfl ?_); refine box_event ?hg (N := 3) ?hd (cs := #[.int .i64 a, .int .i64 b, .int .i64 c]) (t := 35) ?hr ?_; (case hd => rfl); (case hg => rfl); (case hr => first | (go_simp; done) | (go_simp; rfl)); intro g hg w1 hc hb; have B1 := Aside0.mk hb; have hF := hc; clear hc hb hg; have F1 := Aside0.mk hF; have c10 : w1.cell? ⟨g, 0, none⟩ = some (.int .i64 a) := (blk_cell hF 0).trans rfl; have c11 : w1.cell? ⟨g, 1, none⟩ = some (.int .i64 b) := (blk_cell hF 1).trans rfl; have c12 : w1.cell? ⟨g, 2, none⟩ = some (.int .i64 c) := (blk_cell hF 2).trans rfl; clear hF)
        | (go_at_call 15; (with_reducible refine (impl_SessionsValid.calls k _ _ l true w1 ?side1 HC0.out X1.out).mono ?_); (case side1 => exact Kd.C_below HR0.out B1.out); rintro e w2 ⟨rfl, hb⟩; have hF := blk_below F1.out hb; have B2 := Aside0.mk (below_step B1.out hb); clear hb; have F2 := Aside0.mk hF; have c20 : w2.cell? ⟨g, 0, none⟩ = some (.int .i64 a) := (blk_cell hF 0).trans rfl; have c21 : w2.cell? ⟨g, 1, none⟩ = some (.int .i64 b) := (blk_cell hF 1).trans rfl; have c22 : w2.cell? ⟨g, 2, none⟩ = some (.int .i64 c) := (blk_cell hF 2).trans rfl; clear hF)
        | ((with_reducible refine gate_dst (N := 13) rfl ?_); (try (refine gate_guard (by rfl) ?_; dsimp only)); refine Kd.R_lit k35 _ 35 ?hg (N := 13) ?hd (xs := ([⟨a, b, c⟩] : List S35)) (inner := [.int .i64 a, .int .i64 b, .int .i64 c]) (ok := fun _ => True) (okp := fun _ => True) ?hr ?hp (fun _ hk => hk) trivial (Below.refl _ _) (Nat.le_refl _) (by simp) ?_; (case hd => rfl); (case hg => rfl); (case hr => first | (go_simp; done) | (go_simp; rfl)); (case hp => exact (Reps.c3 (k35_mkM _ _ _ (⟨a, b, c⟩ : S35)) (Reps.none _ _))); intro v3 w3 ho hb _ _; obtain ⟨A3, k3, ee⟩ := Kd.R_slice ho; subst ee; have V3 := Aside0.mk (Kd.R_reads' ho).2.2; have L3 := Aside0.mk (Kd.R_reads' ho).2.1; clear ho; have hF := blk_below F2.out hb; have B3 := Aside0.mk (below_step B2.out hb); clear hb; have F3 := Aside0.mk hF; have c30 : w3.cell? ⟨g, 0, none⟩ = some (.int .i64 a) := (blk_cell hF 0).trans rfl; have c31 : w3.cell? ⟨g, 1, none⟩ = some (.int .i64 b) := (blk_cell hF 1).trans rfl; have c32 : w3.cell? ⟨g, 2, none⟩ = some (.int .i64 c) := (blk_cell hF 2).trans rfl; clear hF)
        | (go_at_call 15; refine (show Calls Try.prog 15 #[.slice A3 1 k3] w3 _ from impl_SessionsValid.calls k A3 k3 [⟨a, b, c⟩] false w3 V3.out L3.out X2.out).mono ?_; rintro e w4 ⟨rfl, hb⟩; have hF := blk_below F3.out hb; have B4 := Aside0.mk (below_step B3.out hb); clear hb; have F4 := Aside0.mk hF; have c40 : w4.cell? ⟨g, 0, none⟩ = some (.int .i64 a) := (blk_cell hF 0).trans rfl; have c41 : w4.cell? ⟨g, 1, none⟩ = some (.int .i64 b) := (blk_cell hF 1).trans rfl; have c42 : w4.cell? ⟨g, 2, none⟩ = some (.int .i64 c) := (blk_cell hF 2).trans rfl; clear hF))
      go_ret2
      exact ⟨_, rfl, Kd.R_nil _ _ _ _ _, B4.out⟩
    | true =>
      rw [if_neg (by simp)] at h
      by_cases hs : l.length ≤ 1000000
      · rw [if_pos hs] at h
        have SZ := Aside0.mk hs
        clear hs
        have hle : plOf l a ≤ l.length := placeOf_le l a l.length 0 l.length (Nat.zero_le _)
        have hhit : hitOf l a = true → plOf l a < l.length := fun hh => by
          unfold hitOf at hh
          rw [Bool.and_eq_true, decide_eq_true_eq] at hh
          exact hh.1
        obtain ⟨R, hR⟩ : ∃ R, R = plOf l a := ⟨_, rfl⟩
        have PR := Aside0.mk (show placeOf l a l.length 0 l.length = R from hR.symm)
        rw [← hR] at h hle hhit
        clear hR
        cases hh : hitOf l a with
        | false =>
          rw [hh, if_pos rfl] at h
          obtain ⟨rfl, rfl⟩ : (l.take R ++ [⟨a, b, c⟩]) ++ l.drop (R + 0) = r1 ∧ true = r2 := by simpa using h
          have HH := Aside0.mk hh
          have HP := Aside0.mk hle
          clear h hh hle hhit
          go_enter Try.func21, Try.ntmps21
          go_wp2_with (first
            | ((with_reducible refine gate_dst (N := 3) rfl ?_); refine box_event ?hg (N := 3) ?hd (cs := #[.int .i64 a, .int .i64 b, .int .i64 c]) (t := 35) ?hr ?_; (case hd => rfl); (case hg => rfl); (case hr => first | (go_simp; done) | (go_simp; rfl)); intro g hg w1 hc hb; have B1 := Aside0.mk hb; have hF := hc; clear hc hb hg; have F1 := Aside0.mk hF; have c10 : w1.cell? ⟨g, 0, none⟩ = some (.int .i64 a) := (blk_cell hF 0).trans rfl; have c11 : w1.cell? ⟨g, 1, none⟩ = some (.int .i64 b) := (blk_cell hF 1).trans rfl; have c12 : w1.cell? ⟨g, 2, none⟩ = some (.int .i64 c) := (blk_cell hF 2).trans rfl; clear hF)
            | (go_at_call 15; (with_reducible refine (impl_SessionsValid.calls k _ _ l true w1 ?side1 HC0.out X1.out).mono ?_); (case side1 => exact Kd.C_below HR0.out B1.out); rintro e w2 ⟨rfl, hb⟩; have hF := blk_below F1.out hb; have B2 := Aside0.mk (below_step B1.out hb); clear hb; have F2 := Aside0.mk hF; have c20 : w2.cell? ⟨g, 0, none⟩ = some (.int .i64 a) := (blk_cell hF 0).trans rfl; have c21 : w2.cell? ⟨g, 1, none⟩ = some (.int .i64 b) := (blk_cell hF 1).trans rfl; have c22 : w2.cell? ⟨g, 2, none⟩ = some (.int .i64 c) := (blk_cell hF 2).trans rfl; clear hF)
            | ((with_reducible refine gate_dst (N := 13) rfl ?_); (try (refine gate_guard (by rfl) ?_; dsimp only)); refine Kd.R_lit k35 _ 35 ?hg (N := 13) ?hd (xs := ([⟨a, b, c⟩] : List S35)) (inner := [.int .i64 a, .int .i64 b, .int .i64 c]) (ok := fun _ => True) (okp := fun _ => True) ?hr ?hp (fun _ hk => hk) trivial (Below.refl _ _) (Nat.le_refl _) (by simp) ?_; (case hd => rfl); (case hg => rfl); (case hr => first | (go_simp; done) | (go_simp; rfl)); (case hp => exact (Reps.c3 (k35_mkM _ _ _ (⟨a, b, c⟩ : S35)) (Reps.none _ _))); intro v3 w3 ho hb _ _; obtain ⟨A3, k3, ee⟩ := Kd.R_slice ho; subst ee; have V3 := Aside0.mk (Kd.R_reads' ho).2.2; have L3 := Aside0.mk (Kd.R_reads' ho).2.1; clear ho; have hF := blk_below F2.out hb; have B3 := Aside0.mk (below_step B2.out hb); clear hb; have F3 := Aside0.mk hF; have c30 : w3.cell? ⟨g, 0, none⟩ = some (.int .i64 a) := (blk_cell hF 0).trans rfl; have c31 : w3.cell? ⟨g, 1, none⟩ = some (.int .i64 b) := (blk_cell hF 1).trans rfl; have c32 : w3.cell? ⟨g, 2, none⟩ = some (.int .i64 c) := (blk_cell hF 2).trans rfl; clear hF)
            | (go_at_call 15; refine (show Calls Try.prog 15 #[.slice A3 1 k3] w3 _ from impl_SessionsValid.calls k A3 k3 [⟨a, b, c⟩] true w3 V3.out L3.out X2.out).mono ?_; rintro e w4 ⟨rfl, hb⟩; have hF := blk_below F3.out hb; have B4 := Aside0.mk (below_step B3.out hb); clear hb; have F4 := Aside0.mk hF; have c40 : w4.cell? ⟨g, 0, none⟩ = some (.int .i64 a) := (blk_cell hF 0).trans rfl; have c41 : w4.cell? ⟨g, 1, none⟩ = some (.int .i64 b) := (blk_cell hF 1).trans rfl; have c42 : w4.cell? ⟨g, 2, none⟩ = some (.int .i64 c) := (blk_cell hF 2).trans rfl; clear hF)
            | (go_at_call 42; (with_reducible refine (impl_sessionPlace.calls _ _ l a w4 ?side1 HC0.out ?side2).mono ?_); (case side1 => exact Kd.C_below HR0.out B4.out); (case side2 => have := SZ.out; omega); rw [HH.out, PR.out]; rintro e w5 ⟨rfl, hb⟩; have hF := blk_below F4.out hb; have B5 := Aside0.mk (below_step B4.out hb); clear hb; have F5 := Aside0.mk hF; have c50 : w5.cell? ⟨g, 0, none⟩ = some (.int .i64 a) := (blk_cell hF 0).trans rfl; have c51 : w5.cell? ⟨g, 1, none⟩ = some (.int .i64 b) := (blk_cell hF 1).trans rfl; have c52 : w5.cell? ⟨g, 2, none⟩ = some (.int .i64 c) := (blk_cell hF 2).trans rfl; clear hF)
            | ((with_reducible refine gate_dst (N := 29) rfl ?_); (try (refine gate_guard (by rfl) ?_; dsimp only)); refine Kd.R_lit k35 _ 35 ?hg (N := 29) ?hd (xs := ([⟨a, b, c⟩] : List S35)) (inner := [.int .i64 a, .int .i64 b, .int .i64 c]) (ok := fun _ => True) (okp := fun _ => True) ?hr ?hp (fun _ hk => hk) trivial (Below.refl _ _) (Nat.le_refl _) (by simp) ?_; (case hd => rfl); (case hg => rfl); (case hr => first | (go_simp; done) | (go_simp; rfl)); (case hp => exact (Reps.c3 (k35_mkM _ _ _ (⟨a, b, c⟩ : S35)) (Reps.none _ _))); intro v6 w6 ho hb _ _; obtain ⟨A6, k6, ee⟩ := Kd.R_slice ho; subst ee; have V6 := Aside0.mk (Kd.R_reads' ho).2.2; have L6 := Aside0.mk (Kd.R_reads' ho).2.1; clear ho; have hF := blk_below F5.out hb; have B6 := Aside0.mk (below_step B5.out hb); clear hb; have F6 := Aside0.mk hF; have c60 : w6.cell? ⟨g, 0, none⟩ = some (.int .i64 a) := (blk_cell hF 0).trans rfl; have c61 : w6.cell? ⟨g, 1, none⟩ = some (.int .i64 b) := (blk_cell hF 1).trans rfl; have c62 : w6.cell? ⟨g, 2, none⟩ = some (.int .i64 c) := (blk_cell hF 2).trans rfl; clear hF)
            | (go_at_call 43; refine (show Calls Try.prog 43 #[.slice A0 l.length c0, .int .i64 (R : Int), .int .i64 0, .slice A6 1 k6] w6 _ from impl_replaced.calls A0 c0 l R 0 A6 k6 [⟨a, b, c⟩] w6 (Kd.C_below HR0.out B6.out) HC0.out V6.out L6.out SZ.out (by simp) (by have := HP.out; omega)).mono ?_; rintro e w7 ⟨v7, rfl, ho, hb⟩; have O := Aside0.mk (Kd.R_lower ho (below_size B6.out)); have B := Aside0.mk (below_step B6.out hb); clear ho hb))
          go_ret2
          exact ⟨_, rfl, O.out, B.out⟩
        | true =>
          rw [hh, if_neg (by simp)] at h
          have HH := Aside0.mk hh
          have HP := Aside0.mk (hhit hh)
          clear hh hle hhit
          by_cases hb : (rd_T35 l ((R : Nat) : Int)).f1 ≥ b
          · rw [if_pos hb] at h
            obtain ⟨rfl, rfl⟩ : l = r1 ∧ false = r2 := by simpa using h
            have db : decide ((rd_T35 l ((R : Nat) : Int)).f1 ≥ b) = true := decide_eq_true hb
            clear h hb
            go_enter Try.func21, Try.ntmps21
            go_wp2_with (first
              | ((with_reducible refine gate_dst (N := 3) rfl ?_); refine box_event ?hg (N := 3) ?hd (cs := #[.int .i64 a, .int .i64 b, .int .i64 c]) (t := 35) ?hr ?_; (case hd => rfl); (case hg => rfl); (case hr => first | (go_simp; done) | (go_simp; rfl)); intro g hg w1 hc hb; have B1 := Aside0.mk hb; have hF := hc; clear hc hb hg; have F1 := Aside0.mk hF; have c10 : w1.cell? ⟨g, 0, none⟩ = some (.int .i64 a) := (blk_cell hF 0).trans rfl; have c11 : w1.cell? ⟨g, 1, none⟩ = some (.int .i64 b) := (blk_cell hF 1).trans rfl; have c12 : w1.cell? ⟨g, 2, none⟩ = some (.int .i64 c) := (blk_cell hF 2).trans rfl; clear hF)
              | (go_at_call 15; (with_reducible refine (impl_SessionsValid.calls k _ _ l true w1 ?side1 HC0.out X1.out).mono ?_); (case side1 => exact Kd.C_below HR0.out B1.out); rintro e w2 ⟨rfl, hb⟩; have hF := blk_below F1.out hb; have B2 := Aside0.mk (below_step B1.out hb); clear hb; have F2 := Aside0.mk hF; have c20 : w2.cell? ⟨g, 0, none⟩ = some (.int .i64 a) := (blk_cell hF 0).trans rfl; have c21 : w2.cell? ⟨g, 1, none⟩ = some (.int .i64 b) := (blk_cell hF 1).trans rfl; have c22 : w2.cell? ⟨g, 2, none⟩ = some (.int .i64 c) := (blk_cell hF 2).trans rfl; clear hF)
              | ((with_reducible refine gate_dst (N := 13) rfl ?_); (try (refine gate_guard (by rfl) ?_; dsimp only)); refine Kd.R_lit k35 _ 35 ?hg (N := 13) ?hd (xs := ([⟨a, b, c⟩] : List S35)) (inner := [.int .i64 a, .int .i64 b, .int .i64 c]) (ok := fun _ => True) (okp := fun _ => True) ?hr ?hp (fun _ hk => hk) trivial (Below.refl _ _) (Nat.le_refl _) (by simp) ?_; (case hd => rfl); (case hg => rfl); (case hr => first | (go_simp; done) | (go_simp; rfl)); (case hp => exact (Reps.c3 (k35_mkM _ _ _ (⟨a, b, c⟩ : S35)) (Reps.none _ _))); intro v3 w3 ho hb _ _; obtain ⟨A3, k3, ee⟩ := Kd.R_slice ho; subst ee; have V3 := Aside0.mk (Kd.R_reads' ho).2.2; have L3 := Aside0.mk (Kd.R_reads' ho).2.1; clear ho; have hF := blk_below F2.out hb; have B3 := Aside0.mk (below_step B2.out hb); clear hb; have F3 := Aside0.mk hF; have c30 : w3.cell? ⟨g, 0, none⟩ = some (.int .i64 a) := (blk_cell hF 0).trans rfl; have c31 : w3.cell? ⟨g, 1, none⟩ = some (.int .i64 b) := (blk_cell hF 1).trans rfl; have c32 : w3.cell? ⟨g, 2, none⟩ = some (.int .i64 c) := (blk_cell hF 2).trans rfl; clear hF)
              | (go_at_call 15; refine (show Calls Try.prog 15 #[.slice A3 1 k3] w3 _ from impl_SessionsValid.calls k A3 k3 [⟨a, b, c⟩] true w3 V3.out L3.out X2.out).mono ?_; rintro e w4 ⟨rfl, hb⟩; have hF := blk_below F3.out hb; have B4 := Aside0.mk (below_step B3.out hb); clear hb; have F4 := Aside0.mk hF; have c40 : w4.cell? ⟨g, 0, none⟩ = some (.int .i64 a) := (blk_cell hF 0).trans rfl; have c41 : w4.cell? ⟨g, 1, none⟩ = some (.int .i64 b) := (blk_cell hF 1).trans rfl; have c42 : w4.cell? ⟨g, 2, none⟩ = some (.int .i64 c) := (blk_cell hF 2).trans rfl; clear hF)
              | (go_at_call 42; (with_reducible refine (impl_sessionPlace.calls _ _ l a w4 ?side1 HC0.out ?side2).mono ?_); (case side1 => exact Kd.C_below HR0.out B4.out); (case side2 => have := SZ.out; omega); rw [HH.out, PR.out]; rintro e w5 ⟨rfl, hb⟩; have hF := blk_below F4.out hb; have B5 := Aside0.mk (below_step B4.out hb); clear hb; have F5 := Aside0.mk hF; have c50 : w5.cell? ⟨g, 0, none⟩ = some (.int .i64 a) := (blk_cell hF 0).trans rfl; have c51 : w5.cell? ⟨g, 1, none⟩ = some (.int .i64 b) := (blk_cell hF 1).trans rfl; have c52 : w5.cell? ⟨g, 2, none⟩ = some (.int .i64 c) := (blk_cell hF 2).trans rfl; clear hF; obtain ⟨ad, hA, x0, x1, x2⟩ := at_T35 (Kd.C_below HR0.out B5.out) (R : Int) (by omega) (by have := HP.out; omega); cases hA; rw [Int.toNat_natCast] at x0 x1 x2; have j1 := eq_true (show (R : Int) < (l.length : Int) by have := HP.out; omega); have j2 := eq_true (show R < l.length by have := HP.out; omega)))
            refine start_ (n := 8) (S := fun W => W = w5.drew) (ds := []) #[false, false, false, false, false, false, false, false] (by kernel_rfl) rfl rfl (rfl) (fun hHeld => ?_); refine with_tabW impl_SessionPut.tab6 impl_SessionPut.bits6 (fun HT_ HW_ => ?_)
            have B6 := Aside0.mk (below_drew B5.out)
            have hF := blk_drew F5.out
            have d0 : w5.drew.cell? ⟨g, 0, none⟩ = some (.int .i64 a) := (blk_cell hF 0).trans rfl
            have d1 : w5.drew.cell? ⟨g, 1, none⟩ = some (.int .i64 b) := (blk_cell hF 1).trans rfl
            have d2 : w5.drew.cell? ⟨g, 2, none⟩ = some (.int .i64 c) := (blk_cell hF 2).trans rfl
            replace x1 : w5.drew.cell? _ = _ := x1
            have F6 := Aside0.mk hF
            clear hF
            generalize w5.drew = w6 at *
            refine pure_ (i := 0) (N := some 31) (v := ?_) (a' := ?_) (bits 8 1) rfl rfl (any_of HT_.out (by kernel_rfl)) (fun _ _ _ h => h) (Or.inl ⟨by rfl, ?_⟩) ?_ ?_
            rotate_left
            · intro w'
              go_simp
              with_reducible rfl
            rotate_left
            · simp only [Act.put, List.setIfInBounds_toArray, List.set_cons_zero, List.set_cons_succ, i64_w, i32_w]
              rfl
            refine pure_ (i := 1) (N := some 32) (v := ?_) (a' := ?_) (bits 8 3) rfl rfl (any_of HT_.out (by kernel_rfl)) (fun _ _ _ h => h) (Or.inl ⟨by rfl, ?_⟩) ?_ ?_
            rotate_left
            · intro w'
              go_simp
              with_reducible rfl
            rotate_left
            · simp only [Act.put, List.setIfInBounds_toArray, List.set_cons_zero, List.set_cons_succ, i64_w, i32_w]
              rfl
            refine pure_ (i := 2) (N := some 33) (v := ?_) (a' := ?_) (bits 8 7) rfl rfl (any_of HT_.out (by kernel_rfl)) (fun _ _ _ h => h) (Or.inl ⟨by rfl, ?_⟩) ?_ ?_
            rotate_left
            · intro w'
              go_simp
              with_reducible rfl
            rotate_left
            · simp only [Act.put, List.setIfInBounds_toArray, List.set_cons_zero, List.set_cons_succ, i64_w, i32_w]
              rfl
            refine pure_ (i := 3) (N := some 34) (v := ?_) (a' := ?_) (bits 8 15) rfl rfl (any_of HT_.out (by kernel_rfl)) (fun _ _ _ h => h) (Or.inl ⟨by rfl, ?_⟩) ?_ ?_
            rotate_left
            · intro w'
              go_simp
              with_reducible rfl
            rotate_left
            · simp only [Act.put, List.setIfInBounds_toArray, List.set_cons_zero, List.set_cons_succ, i64_w, i32_w]
              rfl
            refine take_ (i := 4) (N := some 35) (v := ?_) (a' := ?_) (bits 8 31) rfl rfl (take_ofW HT_.out HW_.out (by kernel_rfl)) (fun _ _ _ h => h) (Or.inl ⟨by rfl, ?_⟩) hHeld ?_ ?_
            rotate_left
            · intro w' hS
              subst hS
              go_simp
              with_reducible rfl
            rotate_left
            · simp only [Act.put, List.setIfInBounds_toArray, List.set_cons_zero, List.set_cons_succ, i64_w, i32_w]
              rfl
            refine pure_ (i := 5) (N := some 36) (v := ?_) (a' := ?_) (bits 8 63) rfl rfl (any_of HT_.out (by kernel_rfl)) (fun _ _ _ h => h) (Or.inl ⟨by rfl, ?_⟩) ?_ ?_
            rotate_left
            · intro w'
              go_simp
              with_reducible rfl
            rotate_left
            · simp only [Act.put, List.setIfInBounds_toArray, List.set_cons_zero, List.set_cons_succ, i64_w, i32_w]
              rfl
            refine take_ (i := 6) (N := some 37) (v := ?_) (a' := ?_) (bits 8 127) rfl rfl (take_ofW HT_.out HW_.out (by kernel_rfl)) (fun _ _ _ h => h) (Or.inl ⟨by rfl, ?_⟩) hHeld ?_ ?_
            rotate_left
            · intro w' hS
              subst hS
              go_simp
              with_reducible rfl
            rotate_left
            · simp only [Act.put, List.setIfInBounds_toArray, List.set_cons_zero, List.set_cons_succ, i64_w, i32_w]
              rfl
            refine pure_ (i := 7) (N := some 38) (v := ?_) (a' := ?_) (bits 8 255) rfl rfl (any_of HT_.out (by kernel_rfl)) (fun _ _ _ h => h) (Or.inl ⟨by rfl, ?_⟩) ?_ ?_
            rotate_left
            · intro w'
              go_simp
              with_reducible rfl
            rotate_left
            · simp only [Act.put, List.setIfInBounds_toArray, List.set_cons_zero, List.set_cons_succ, i64_w, i32_w]
              rfl
            refine done_ (done_of HT_.out (by kernel_rfl)) ?_
            go_wp2_with (first
              | (go_at_call 44; (with_reducible refine (impl_copyOf.calls _ c0 l w6 ?side1 HC0.out SZ.out).mono ?_); (case side1 => exact Kd.C_below HR0.out B6.out); rintro e w7 ⟨v7, rfl, ho, hb⟩; have O := Aside0.mk (Kd.R_lower ho (below_size B6.out)); have B := Aside0.mk (below_step B6.out hb); clear ho hb))
            go_ret2
            exact ⟨_, rfl, O.out, B.out⟩
          · rw [if_neg hb] at h
            obtain ⟨rfl, rfl⟩ : (l.take R ++ [⟨a, b, c⟩]) ++ l.drop (R + 1) = r1 ∧ true = r2 := by simpa using h
            have db : decide ((rd_T35 l ((R : Nat) : Int)).f1 ≥ b) = false := decide_eq_false hb
            clear h hb
            go_enter Try.func21, Try.ntmps21
            go_wp2_with (first
              | ((with_reducible refine gate_dst (N := 3) rfl ?_); refine box_event ?hg (N := 3) ?hd (cs := #[.int .i64 a, .int .i64 b, .int .i64 c]) (t := 35) ?hr ?_; (case hd => rfl); (case hg => rfl); (case hr => first | (go_simp; done) | (go_simp; rfl)); intro g hg w1 hc hb; have B1 := Aside0.mk hb; have hF := hc; clear hc hb hg; have F1 := Aside0.mk hF; have c10 : w1.cell? ⟨g, 0, none⟩ = some (.int .i64 a) := (blk_cell hF 0).trans rfl; have c11 : w1.cell? ⟨g, 1, none⟩ = some (.int .i64 b) := (blk_cell hF 1).trans rfl; have c12 : w1.cell? ⟨g, 2, none⟩ = some (.int .i64 c) := (blk_cell hF 2).trans rfl; clear hF)
              | (go_at_call 15; (with_reducible refine (impl_SessionsValid.calls k _ _ l true w1 ?side1 HC0.out X1.out).mono ?_); (case side1 => exact Kd.C_below HR0.out B1.out); rintro e w2 ⟨rfl, hb⟩; have hF := blk_below F1.out hb; have B2 := Aside0.mk (below_step B1.out hb); clear hb; have F2 := Aside0.mk hF; have c20 : w2.cell? ⟨g, 0, none⟩ = some (.int .i64 a) := (blk_cell hF 0).trans rfl; have c21 : w2.cell? ⟨g, 1, none⟩ = some (.int .i64 b) := (blk_cell hF 1).trans rfl; have c22 : w2.cell? ⟨g, 2, none⟩ = some (.int .i64 c) := (blk_cell hF 2).trans rfl; clear hF)
              | ((with_reducible refine gate_dst (N := 13) rfl ?_); (try (refine gate_guard (by rfl) ?_; dsimp only)); refine Kd.R_lit k35 _ 35 ?hg (N := 13) ?hd (xs := ([⟨a, b, c⟩] : List S35)) (inner := [.int .i64 a, .int .i64 b, .int .i64 c]) (ok := fun _ => True) (okp := fun _ => True) ?hr ?hp (fun _ hk => hk) trivial (Below.refl _ _) (Nat.le_refl _) (by simp) ?_; (case hd => rfl); (case hg => rfl); (case hr => first | (go_simp; done) | (go_simp; rfl)); (case hp => exact (Reps.c3 (k35_mkM _ _ _ (⟨a, b, c⟩ : S35)) (Reps.none _ _))); intro v3 w3 ho hb _ _; obtain ⟨A3, k3, ee⟩ := Kd.R_slice ho; subst ee; have V3 := Aside0.mk (Kd.R_reads' ho).2.2; have L3 := Aside0.mk (Kd.R_reads' ho).2.1; clear ho; have hF := blk_below F2.out hb; have B3 := Aside0.mk (below_step B2.out hb); clear hb; have F3 := Aside0.mk hF; have c30 : w3.cell? ⟨g, 0, none⟩ = some (.int .i64 a) := (blk_cell hF 0).trans rfl; have c31 : w3.cell? ⟨g, 1, none⟩ = some (.int .i64 b) := (blk_cell hF 1).trans rfl; have c32 : w3.cell? ⟨g, 2, none⟩ = some (.int .i64 c) := (blk_cell hF 2).trans rfl; clear hF)
              | (go_at_call 15; refine (show Calls Try.prog 15 #[.slice A3 1 k3] w3 _ from impl_SessionsValid.calls k A3 k3 [⟨a, b, c⟩] true w3 V3.out L3.out X2.out).mono ?_; rintro e w4 ⟨rfl, hb⟩; have hF := blk_below F3.out hb; have B4 := Aside0.mk (below_step B3.out hb); clear hb; have F4 := Aside0.mk hF; have c40 : w4.cell? ⟨g, 0, none⟩ = some (.int .i64 a) := (blk_cell hF 0).trans rfl; have c41 : w4.cell? ⟨g, 1, none⟩ = some (.int .i64 b) := (blk_cell hF 1).trans rfl; have c42 : w4.cell? ⟨g, 2, none⟩ = some (.int .i64 c) := (blk_cell hF 2).trans rfl; clear hF)
              | (go_at_call 42; (with_reducible refine (impl_sessionPlace.calls _ _ l a w4 ?side1 HC0.out ?side2).mono ?_); (case side1 => exact Kd.C_below HR0.out B4.out); (case side2 => have := SZ.out; omega); rw [HH.out, PR.out]; rintro e w5 ⟨rfl, hb⟩; have hF := blk_below F4.out hb; have B5 := Aside0.mk (below_step B4.out hb); clear hb; have F5 := Aside0.mk hF; have c50 : w5.cell? ⟨g, 0, none⟩ = some (.int .i64 a) := (blk_cell hF 0).trans rfl; have c51 : w5.cell? ⟨g, 1, none⟩ = some (.int .i64 b) := (blk_cell hF 1).trans rfl; have c52 : w5.cell? ⟨g, 2, none⟩ = some (.int .i64 c) := (blk_cell hF 2).trans rfl; clear hF; obtain ⟨ad, hA, x0, x1, x2⟩ := at_T35 (Kd.C_below HR0.out B5.out) (R : Int) (by omega) (by have := HP.out; omega); cases hA; rw [Int.toNat_natCast] at x0 x1 x2; have j1 := eq_true (show (R : Int) < (l.length : Int) by have := HP.out; omega); have j2 := eq_true (show R < l.length by have := HP.out; omega)))
            refine start_ (n := 8) (S := fun W => W = w5.drew) (ds := []) #[false, false, false, false, false, false, false, false] (by kernel_rfl) rfl rfl (rfl) (fun hHeld => ?_); refine with_tabW impl_SessionPut.tab6 impl_SessionPut.bits6 (fun HT_ HW_ => ?_)
            have B6 := Aside0.mk (below_drew B5.out)
            have hF := blk_drew F5.out
            have d0 : w5.drew.cell? ⟨g, 0, none⟩ = some (.int .i64 a) := (blk_cell hF 0).trans rfl
            have d1 : w5.drew.cell? ⟨g, 1, none⟩ = some (.int .i64 b) := (blk_cell hF 1).trans rfl
            have d2 : w5.drew.cell? ⟨g, 2, none⟩ = some (.int .i64 c) := (blk_cell hF 2).trans rfl
            replace x1 : w5.drew.cell? _ = _ := x1
            have F6 := Aside0.mk hF
            clear hF
            generalize w5.drew = w6 at *
            refine pure_ (i := 0) (N := some 31) (v := ?_) (a' := ?_) (bits 8 1) rfl rfl (any_of HT_.out (by kernel_rfl)) (fun _ _ _ h => h) (Or.inl ⟨by rfl, ?_⟩) ?_ ?_
            rotate_left
            · intro w'
              go_simp
              with_reducible rfl
            rotate_left
            · simp only [Act.put, List.setIfInBounds_toArray, List.set_cons_zero, List.set_cons_succ, i64_w, i32_w]
              rfl
            refine pure_ (i := 1) (N := some 32) (v := ?_) (a' := ?_) (bits 8 3) rfl rfl (any_of HT_.out (by kernel_rfl)) (fun _ _ _ h => h) (Or.inl ⟨by rfl, ?_⟩) ?_ ?_
            rotate_left
            · intro w'
              go_simp
              with_reducible rfl
            rotate_left
            · simp only [Act.put, List.setIfInBounds_toArray, List.set_cons_zero, List.set_cons_succ, i64_w, i32_w]
              rfl
            refine pure_ (i := 2) (N := some 33) (v := ?_) (a' := ?_) (bits 8 7) rfl rfl (any_of HT_.out (by kernel_rfl)) (fun _ _ _ h => h) (Or.inl ⟨by rfl, ?_⟩) ?_ ?_
            rotate_left
            · intro w'
              go_simp
              with_reducible rfl
            rotate_left
            · simp only [Act.put, List.setIfInBounds_toArray, List.set_cons_zero, List.set_cons_succ, i64_w, i32_w]
              rfl
            refine pure_ (i := 3) (N := some 34) (v := ?_) (a' := ?_) (bits 8 15) rfl rfl (any_of HT_.out (by kernel_rfl)) (fun _ _ _ h => h) (Or.inl ⟨by rfl, ?_⟩) ?_ ?_
            rotate_left
            · intro w'
              go_simp
              with_reducible rfl
            rotate_left
            · simp only [Act.put, List.setIfInBounds_toArray, List.set_cons_zero, List.set_cons_succ, i64_w, i32_w]
              rfl
            refine take_ (i := 4) (N := some 35) (v := ?_) (a' := ?_) (bits 8 31) rfl rfl (take_ofW HT_.out HW_.out (by kernel_rfl)) (fun _ _ _ h => h) (Or.inl ⟨by rfl, ?_⟩) hHeld ?_ ?_
            rotate_left
            · intro w' hS
              subst hS
              go_simp
              with_reducible rfl
            rotate_left
            · simp only [Act.put, List.setIfInBounds_toArray, List.set_cons_zero, List.set_cons_succ, i64_w, i32_w]
              rfl
            refine pure_ (i := 5) (N := some 36) (v := ?_) (a' := ?_) (bits 8 63) rfl rfl (any_of HT_.out (by kernel_rfl)) (fun _ _ _ h => h) (Or.inl ⟨by rfl, ?_⟩) ?_ ?_
            rotate_left
            · intro w'
              go_simp
              with_reducible rfl
            rotate_left
            · simp only [Act.put, List.setIfInBounds_toArray, List.set_cons_zero, List.set_cons_succ, i64_w, i32_w]
              rfl
            refine take_ (i := 6) (N := some 37) (v := ?_) (a' := ?_) (bits 8 127) rfl rfl (take_ofW HT_.out HW_.out (by kernel_rfl)) (fun _ _ _ h => h) (Or.inl ⟨by rfl, ?_⟩) hHeld ?_ ?_
            rotate_left
            · intro w' hS
              subst hS
              go_simp
              with_reducible rfl
            rotate_left
            · simp only [Act.put, List.setIfInBounds_toArray, List.set_cons_zero, List.set_cons_succ, i64_w, i32_w]
              rfl
            refine pure_ (i := 7) (N := some 38) (v := ?_) (a' := ?_) (bits 8 255) rfl rfl (any_of HT_.out (by kernel_rfl)) (fun _ _ _ h => h) (Or.inl ⟨by rfl, ?_⟩) ?_ ?_
            rotate_left
            · intro w'
              go_simp
              with_reducible rfl
            rotate_left
            · simp only [Act.put, List.setIfInBounds_toArray, List.set_cons_zero, List.set_cons_succ, i64_w, i32_w]
              rfl
            refine done_ (done_of HT_.out (by kernel_rfl)) ?_
            go_wp2_with (first
              | ((with_reducible refine gate_dst (N := 44) rfl ?_); (try (refine gate_guard (by rfl) ?_; dsimp only)); refine Kd.R_lit k35 _ 35 ?hg (N := 44) ?hd (xs := ([⟨a, b, c⟩] : List S35)) (inner := [.int .i64 a, .int .i64 b, .int .i64 c]) (ok := fun _ => True) (okp := fun _ => True) ?hr ?hp (fun _ hk => hk) trivial (Below.refl _ _) (Nat.le_refl _) (by simp) ?_; (case hd => rfl); (case hg => rfl); (case hr => first | (go_simp; done) | (go_simp; rfl)); (case hp => exact (Reps.c3 (k35_mkM _ _ _ (⟨a, b, c⟩ : S35)) (Reps.none _ _))); intro v7 w7 ho hb _ _; obtain ⟨A7, k7, ee⟩ := Kd.R_slice ho; subst ee; have V7 := Aside0.mk (Kd.R_reads' ho).2.2; have L7 := Aside0.mk (Kd.R_reads' ho).2.1; clear ho; have hF := blk_below F6.out hb; have B7 := Aside0.mk (below_step B6.out hb); clear hb; have F7 := Aside0.mk hF; have c70 : w7.cell? ⟨g, 0, none⟩ = some (.int .i64 a) := (blk_cell hF 0).trans rfl; have c71 : w7.cell? ⟨g, 1, none⟩ = some (.int .i64 b) := (blk_cell hF 1).trans rfl; have c72 : w7.cell? ⟨g, 2, none⟩ = some (.int .i64 c) := (blk_cell hF 2).trans rfl; clear hF)
              | (go_at_call 43; refine (show Calls Try.prog 43 #[.slice (some ad) l.length c0, .int .i64 (R : Int), .int .i64 1, .slice A7 1 k7] w7 _ from impl_replaced.calls (some ad) c0 l R 1 A7 k7 [⟨a, b, c⟩] w7 (Kd.C_below HR0.out B7.out) HC0.out V7.out L7.out SZ.out (by simp) (by have := HP.out; omega)).mono ?_; rintro e w8 ⟨v8, rfl, ho, hb⟩; have O := Aside0.mk (Kd.R_lower ho (below_size B7.out)); have B := Aside0.mk (below_step B7.out hb); clear ho hb))
            go_ret2
            exact ⟨_, rfl, O.out, B.out⟩
      · rw [if_neg hs] at h
        cases h



theorem fresh_ne {w w' : World} {b : Nat} {v u : Value} {xs ys : List S35} {ok : Nat → Prop} (hv : Kd.R k35 35 w' w.heap.size (fun _ => True) v xs) (hu : Kd.R k35 35 w b ok u ys) : ∀ k, v.ownBlock = some k → u.ownBlock = some k → False := fun k h1 h2 => by
  have := Kd.R_base hv k h1
  have := Kd.R_lt hu k h2
  omega
theorem keepR {W W2 : World} {b : Nat} {v u : Value} {xs : List S35} {ok : Nat → Prop} (h : Kd.R k35 35 W b ok v xs) (hk : Kept W W2 (fun k => some k = u.ownBlock)) (ne : ∀ k, v.ownBlock = some k → u.ownBlock = some k → False) : Kd.R k35 35 W2 b (fun _ => True) v xs :=
  Kd.R_mono (Kd.R_kept (Kd.R_tight rfl h) hk (fun k h1 h2 => ne k h1.symm h2.symm)) (fun _ _ => trivial)

def laws_FnExactSessionPut.judge (k : Nat) (l : List S32) (a b c : Int) : Option Bool :=
  (laws_toSessionS.f k l).bind fun m => (laws_toSession.f a b c).bind fun s => (spec_SessionPut.f k m s.1 s.2.1 s.2.2).bind fun y => (impl_SessionPut.f k m s.1 s.2.1 s.2.2).bind fun x => (laws_eqSessionS.f k x.1 y.1).bind fun t1 =>
    (laws_eqSessionS.f k m m).bind fun t2 => (laws_markSessionS.f k m 1).bind fun m1 => (laws_markSessionS.f k x.1 1).bind fun m3 => (laws_heldSessionS.f k m3.2 1).bind fun q =>
      if t1 = true ∧ x.2 = y.2 ∧ t2 = true ∧ 0 ≤ m1.1 ∧ 0 ≤ q ∧ q = m3.1 then some true else none
def laws_FnExactSessionPut.f (k : Nat) (l : List S32) (a b c : Int) : Option Bool :=
  (laws_szSessionS.f l 1048576).bind fun s0 => if s0 < 0 then some true else laws_FnExactSessionPut.judge k l a b c
def laws_FnExactSessionPut.T5 : Bool × List (List Nat × List Nat) := (true, [([], []), ([0], [0]), ([], []), ([2, 1], [2]), ([1, 3, 3], [1, 3]), ([4], [4]), ([5], [5]), ([5], [5]), ([6, 4, 0, 1, 2, 3, 4, 5, 6], [6]), ([7, 8, 0, 1, 2, 3, 4, 5, 6, 7, 8], [7])])
def laws_FnExactSessionPut.B5 : List Nat := [0, 1, 0, 7, 15, 31, 63, 63, 127, 511]
theorem laws_FnExactSessionPut.tab5 : rtab .any (opsOf Try.f5 5) = laws_FnExactSessionPut.T5 := by kernel_rfl
theorem laws_FnExactSessionPut.bits5 : waitsOk laws_FnExactSessionPut.T5.2 laws_FnExactSessionPut.B5 = true := by kernel_rfl
def laws_FnExactSessionPut.T24 : Bool × List (List Nat × List Nat) := (true, [([], []), ([0], [0]), ([], []), ([2, 1], [2]), ([1, 3, 3], [1, 3]), ([4], [4]), ([5], [5]), ([5], [5]), ([6, 4, 0, 1, 2, 3, 4, 5, 6], [6]), ([7, 8, 0, 1, 2, 3, 4, 5, 6, 7, 8], [7])])
def laws_FnExactSessionPut.B24 : List Nat := [0, 1, 0, 7, 15, 31, 63, 63, 127, 511]
theorem laws_FnExactSessionPut.tab24 : rtab .any (opsOf Try.f5 24) = laws_FnExactSessionPut.T24 := by kernel_rfl
theorem laws_FnExactSessionPut.bits24 : waitsOk laws_FnExactSessionPut.T24.2 laws_FnExactSessionPut.B24 = true := by kernel_rfl

set_option maxHeartbeats 4000000 in
set_option maxRecDepth 100000 in
theorem laws_FnExactSessionPut.calls (k : Nat) (A0 : Option Addr) (c0 : Nat) (l : List S32) (a b c : Int) (r : Bool) (w : World) (hr0 : Kd.C k32 w A0 l.length l) (hc0 : l.length ≤ c0) (h : laws_FnExactSessionPut.f k l a b c = some r) :
    Calls Try.prog 5 #[.slice A0 l.length c0, .agg #[.int .i64 a, .int .i64 b, .int .i64 c]] w fun e w' => e = .returned (.bool r) ∧ Below w.heap.size w w' := by
  have hu := Try.underlying32
  have hu2 := Try.underlying35
  have HR0 := Aside0.mk hr0
  have HC0 := Aside0.mk hc0
  clear hr0 hc0
  unfold laws_FnExactSessionPut.f at h
  replace h := Option.bind_eq_some_iff.mp h
  obtain ⟨s0, h1, h⟩ := h
  have J1 := Aside0.mk h1
  clear h1
  by_cases hs : s0 < 0
  · rw [if_pos hs] at h
    obtain rfl := Option.some.inj h
    have d1 : decide (s0 < 0) = true := decide_eq_true hs
    clear h hs
    go_enter Try.func5, Try.ntmps5
    go_wp2_with (first
      | ((with_reducible refine gate_dst (N := 3) rfl ?_); refine box_event ?hg (N := 3) ?hd (cs := #[.int .i64 a, .int .i64 b, .int .i64 c]) (t := 32) ?hr ?_; (case hd => rfl); (case hg => rfl); (case hr => first | (go_simp; done) | (go_simp; rfl)); intro g hg w1 hc hbb; have B1 := Aside0.mk hbb; have F1 := Aside0.mk hc; clear hc hbb hg)
      | (go_at_call 12; (with_reducible refine (laws_szSessionS.calls _ _ l 1048576 s0 w1 (Kd.C_below HR0.out B1.out) HC0.out J1.out).mono ?_); rintro e w2 ⟨rfl, ⟨nd, hw⟩⟩; have hb := (show Below w1.heap.size w1 w2 from hw ▸ pw_below_drewN (Below.refl _ _) nd); clear hw; have B2 := Aside0.mk (below_step B1.out hb); have F2 := Aside0.mk (blk_below F1.out hb); clear hb))
    go_ret
    exact ⟨rfl, B2.out⟩
  · rw [if_neg hs] at h
    have d1 : decide (s0 < 0) = false := decide_eq_false hs
    clear hs
    unfold laws_FnExactSessionPut.judge at h
    replace h := Option.bind_eq_some_iff.mp h
    obtain ⟨m, h2, h⟩ := h
    replace h := Option.bind_eq_some_iff.mp h
    obtain ⟨⟨s1, s2, s3⟩, h3, h⟩ := h
    replace h := Option.bind_eq_some_iff.mp h
    obtain ⟨⟨y1, y2⟩, h4, h⟩ := h
    replace h := Option.bind_eq_some_iff.mp h
    obtain ⟨⟨x1, x2⟩, h5, h⟩ := h
    replace h := Option.bind_eq_some_iff.mp h
    obtain ⟨t1, h6, h⟩ := h
    replace h := Option.bind_eq_some_iff.mp h
    obtain ⟨t2, h7, h⟩ := h
    replace h := Option.bind_eq_some_iff.mp h
    obtain ⟨⟨k1, m1⟩, h8, h⟩ := h
    replace h := Option.bind_eq_some_iff.mp h
    obtain ⟨⟨k3, m3⟩, h9, h⟩ := h
    replace h := Option.bind_eq_some_iff.mp h
    obtain ⟨q, h10, h⟩ := h
    dsimp only at h4 h5 h6 h9 h10 h
    by_cases hj : t1 = true ∧ x2 = y2 ∧ t2 = true ∧ 0 ≤ k1 ∧ 0 ≤ q ∧ q = k3
    · rw [if_pos hj] at h
      obtain ⟨rfl, rfl, rfl, hk1, hq, rfl⟩ := hj
      obtain rfl := Option.some.inj h
      have d3 : decide (k1 < 0) = false := decide_eq_false (by omega)
      have d4 : decide (q < 0) = false := decide_eq_false (by omega)
      have d5 : (x2 != x2) = false := by simp
      have J2 := Aside0.mk h2
      have J3 := Aside0.mk h3
      have J4 := Aside0.mk h4
      have J5 := Aside0.mk h5
      have J6 := Aside0.mk h6
      have J7 := Aside0.mk h7
      have J8 := Aside0.mk h8
      have J9 := Aside0.mk h9
      have J10 := Aside0.mk h10
      clear h h2 h3 h4 h5 h6 h7 h8 h9 h10 hk1 hq
      go_enter Try.func5, Try.ntmps5
      go_wp2_with (first
        | ((with_reducible refine gate_dst (N := 3) rfl ?_); refine box_event ?hg (N := 3) ?hd (cs := #[.int .i64 a, .int .i64 b, .int .i64 c]) (t := 32) ?hr ?_; (case hd => rfl); (case hg => rfl); (case hr => first | (go_simp; done) | (go_simp; rfl)); intro g hg w1 hc hbb; have B1 := Aside0.mk hbb; have F1 := Aside0.mk hc; clear hc hbb hg)
        | (go_at_call 12; (with_reducible refine (laws_szSessionS.calls _ _ l 1048576 s0 w1 (Kd.C_below HR0.out B1.out) HC0.out J1.out).mono ?_); rintro e w2 ⟨rfl, ⟨nd, hw⟩⟩; have hb := (show Below w1.heap.size w1 w2 from hw ▸ pw_below_drewN (Below.refl _ _) nd); clear hw; have B2 := Aside0.mk (below_step B1.out hb); have F2 := Aside0.mk (blk_below F1.out hb); clear hb))
      refine start_ (n := 10) (S := fun W => W.heap[g]? = some (.cells #[.int .i64 a, .int .i64 b, .int .i64 c] 32 (0, 0))) (ds := []) #[false, false, false, false, false, false, false, false, false, false] (by kernel_rfl) rfl rfl (blk_drew F2.out) (fun hHeld => ?_); refine with_tabW laws_FnExactSessionPut.tab5 laws_FnExactSessionPut.bits5 (fun HT_ HW_ => ?_)
      have B3 := Aside0.mk (below_drew B2.out)
      generalize w2.drew = w3 at B3 hHeld ⊢
      refine pure_ (i := 0) (N := some 22) (v := ?_) (a' := ?_) (bits 10 1) rfl rfl (any_of HT_.out (by kernel_rfl)) (fun _ _ _ h => h) (Or.inl ⟨by rfl, ?_⟩) ?_ ?_
      rotate_left
      · intro w'
        go_simp
        with_reducible rfl
      rotate_left
      · simp only [Act.put, List.setIfInBounds_toArray, List.set_cons_zero, List.set_cons_succ, i64_w, i32_w]
        rfl
      refine take_ (i := 2) (N := some 24) (v := ?_) (a' := ?_) (bits 10 5) rfl rfl (take_ofW HT_.out HW_.out (by kernel_rfl)) (fun _ _ _ h => h) (Or.inl ⟨by rfl, ?_⟩) hHeld ?_ ?_
      rotate_left
      · intro w' hS
        have h0 : w'.cell? ⟨g, 0, none⟩ = some (.int .i64 a) := (blk_cell hS 0).trans rfl
        have h1 : w'.cell? ⟨g, 1, none⟩ = some (.int .i64 b) := (blk_cell hS 1).trans rfl
        have h2 : w'.cell? ⟨g, 2, none⟩ = some (.int .i64 c) := (blk_cell hS 2).trans rfl
        go_simp
        with_reducible rfl
      rotate_left
      · simp only [Act.put, List.setIfInBounds_toArray, List.set_cons_zero, List.set_cons_succ, i64_w, i32_w]
        rfl
      refine one_ (i := 1) (N := some 23) (bits 10 7) rfl rfl (one_of HT_.out (by kernel_rfl)) (by decide) (fun K hK => ?_)
      refine goes_ Try.func14 (by kernel_rfl) rfl #[.slice A0 l.length c0] (by rfl) rfl rfl (by (try simp only [List.map_toArray, List.map_cons, List.map_nil]); rfl) ?_
      with_reducible refine (laws_toSessionS.calls k _ _ l m w3 (Kd.C_below HR0.out B3.out) HC0.out J2.out).mono ?_
      rintro e w4 ⟨v4, rfl, ho, hb⟩
      refine ⟨_, rfl, ?_⟩
      have B4 := Aside0.mk (below_step B3.out hb)
      have F4 := blk_below hHeld hb
      have P4 := Aside0.mk (Kd.R_lower ho (below_size B3.out))
      clear hb ho hHeld
      obtain ⟨AP, kP, eP⟩ := Kd.R_slice P4.out
      subst eP
      refine hK.out _ _ F4 (fun hHeld => ?_)
      clear hK K
      refine norm_ (a' := ?_) ?_ ?_
      rotate_left
      · show Act.put _ (some 23) _ = _
        simp only [Act.put, List.setIfInBounds_toArray, List.set_cons_zero, List.set_cons_succ, i64_w, i32_w]
        rfl
      refine one_ (i := 3) (N := some 25) (bits 10 15) rfl rfl (one_of HT_.out (by kernel_rfl)) (by decide) (fun K hK => ?_)
      refine goes_ Try.func20 (by kernel_rfl) rfl #[.agg #[.int .i64 a, .int .i64 b, .int .i64 c]] (by rfl) rfl rfl (by (try simp only [List.map_toArray, List.map_cons, List.map_nil]); rfl) ?_
      with_reducible refine (laws_toSession.calls a b c s1 s2 s3 w4 J3.out).mono ?_
      rintro e w5 ⟨rfl, hb⟩
      refine ⟨_, rfl, ?_⟩
      have P5 := Aside0.mk (Kd.R_below P4.out hb)
      have B5 := Aside0.mk (below_step B4.out hb)
      have F5 := blk_below hHeld hb
      clear hb hHeld
      refine hK.out _ _ F5 (fun hHeld => ?_)
      clear hK K
      refine norm_ (a' := ?_) ?_ ?_
      rotate_left
      · show Act.put _ (some 25) _ = _
        simp only [Act.put, List.setIfInBounds_toArray, List.set_cons_zero, List.set_cons_succ, i64_w, i32_w]
        rfl
      refine one_ (i := 4) (N := some 26) (bits 10 31) rfl rfl (one_of HT_.out (by kernel_rfl)) (by decide) (fun K hK => ?_)
      refine goes_ Try.func19 (by kernel_rfl) rfl #[.slice AP m.length kP, .agg #[.int .i64 s1, .int .i64 s2, .int .i64 s3]] (by rfl) rfl rfl (by (try simp only [List.map_toArray, List.map_cons, List.map_nil]); rfl) ?_
      with_reducible refine (spec_SessionPut.calls k _ _ m s1 s2 s3 y1 x2 w5 (Kd.R_reads' P5.out).2.2 (Kd.R_reads' P5.out).2.1 J4.out).mono ?_
      rintro e w6 ⟨v6, rfl, ho, hb⟩
      refine ⟨_, rfl, ?_⟩
      have NEYP := Aside0.mk (fresh_ne ho P5.out)
      have P6 := Aside0.mk (Kd.R_below P5.out hb)
      have B6 := Aside0.mk (below_step B5.out hb)
      have F6 := blk_below hHeld hb
      have Y6 := Aside0.mk (Kd.R_lower ho (below_size B5.out))
      clear hb ho hHeld
      obtain ⟨AY, kY, eY⟩ := Kd.R_slice Y6.out
      subst eY
      refine hK.out _ _ F6 (fun hHeld => ?_)
      clear hK K
      refine norm_ (a' := ?_) ?_ ?_
      rotate_left
      · show Act.put _ (some 26) _ = _
        simp only [Act.put, List.setIfInBounds_toArray, List.set_cons_zero, List.set_cons_succ, i64_w, i32_w]
        rfl
      refine pure_ (i := 5) (N := some 21) (v := ?_) (a' := ?_) (bits 10 63) rfl rfl (any_of HT_.out (by kernel_rfl)) (fun _ _ _ h => h) (Or.inl ⟨by rfl, ?_⟩) ?_ ?_
      rotate_left
      · intro w'
        go_simp
        with_reducible rfl
      rotate_left
      · simp only [Act.put, List.setIfInBounds_toArray, List.set_cons_zero, List.set_cons_succ, i64_w, i32_w]
        rfl
      refine pure_ (i := 6) (N := some 27) (v := ?_) (a' := ?_) (bits 10 127) rfl rfl (any_of HT_.out (by kernel_rfl)) (fun _ _ _ h => h) (Or.inl ⟨by rfl, ?_⟩) ?_ ?_
      rotate_left
      · intro w'
        go_simp
        with_reducible rfl
      rotate_left
      · simp only [Act.put, List.setIfInBounds_toArray, List.set_cons_zero, List.set_cons_succ, i64_w, i32_w]
        rfl
      refine pure_ (i := 7) (N := some 28) (v := ?_) (a' := ?_) (bits 10 255) rfl rfl (any_of HT_.out (by kernel_rfl)) (fun _ _ _ h => h) (Or.inl ⟨by rfl, ?_⟩) ?_ ?_
      rotate_left
      · intro w'
        go_simp
        with_reducible rfl
      rotate_left
      · simp only [Act.put, List.setIfInBounds_toArray, List.set_cons_zero, List.set_cons_succ, i64_w, i32_w]
        rfl
      refine pure_ (i := 8) (N := some 6) (v := ?_) (a' := ?_) (bits 10 511) rfl rfl (any_of HT_.out (by kernel_rfl)) (fun _ _ _ h => h) (Or.inl ⟨by rfl, ?_⟩) ?_ ?_
      rotate_left
      · intro w'
        go_simp
        with_reducible rfl
      rotate_left
      · simp only [Act.put, List.setIfInBounds_toArray, List.set_cons_zero, List.set_cons_succ, i64_w, i32_w]
        rfl
      refine pure_ (i := 9) (N := some 7) (v := ?_) (a' := ?_) (bits 10 1023) rfl rfl (any_of HT_.out (by kernel_rfl)) (fun _ _ _ h => h) (Or.inl ⟨by rfl, ?_⟩) ?_ ?_
      rotate_left
      · intro w'
        go_simp
        with_reducible rfl
      rotate_left
      · simp only [Act.put, List.setIfInBounds_toArray, List.set_cons_zero, List.set_cons_succ, i64_w, i32_w]
        rfl
      refine done_ (done_of HT_.out (by kernel_rfl)) ?_
      have F6 := Aside0.mk F6
      go_wp2_with (first
        | (go_at_call 14; (with_reducible refine (laws_toSessionS.calls k _ _ l m w6 (Kd.C_below HR0.out B6.out) HC0.out J2.out).mono ?_); rintro e w7 ⟨v7, rfl, ho, hb⟩; have NEXY := Aside0.mk (fresh_ne ho Y6.out); have Y7 := Aside0.mk (Kd.R_below Y6.out hb); have B7 := Aside0.mk (below_step B6.out hb); have F7 := Aside0.mk (blk_below F6.out hb); have X7 := Aside0.mk (Kd.R_lower ho (below_size B6.out)); clear hb ho; obtain ⟨AX, kX, eX⟩ := Kd.R_slice X7.out; subst eX; have c7_0 : w7.cell? ⟨g, 0, none⟩ = some (.int .i64 a) := (blk_cell F7.out 0).trans rfl; have c7_1 : w7.cell? ⟨g, 1, none⟩ = some (.int .i64 b) := (blk_cell F7.out 1).trans rfl; have c7_2 : w7.cell? ⟨g, 2, none⟩ = some (.int .i64 c) := (blk_cell F7.out 2).trans rfl)
        | (go_at_call 20; (with_reducible refine (laws_toSession.calls a b c s1 s2 s3 w7 J3.out).mono ?_); rintro e w8 ⟨rfl, hb⟩; have Y8 := Aside0.mk (Kd.R_below Y7.out hb); have X8 := Aside0.mk (Kd.R_below X7.out hb); have B8 := Aside0.mk (below_step B7.out hb); have F8 := Aside0.mk (blk_below F7.out hb); clear hb)
        | (go_at_call 21; (with_reducible refine (impl_SessionPut.calls k _ _ m s1 s2 s3 x1 x2 w8 (Kd.R_reads' X8.out).2.2 (Kd.R_reads' X8.out).2.1 J5.out).mono ?_); rintro e w9 ⟨v9, rfl, ho, hb⟩; have NEGY := Aside0.mk (fresh_ne ho Y8.out); have NEGX := Aside0.mk (fresh_ne ho X8.out); have Y9 := Aside0.mk (Kd.R_below Y8.out hb); have X9 := Aside0.mk (Kd.R_below X8.out hb); have B9 := Aside0.mk (below_step B8.out hb); have F9 := Aside0.mk (blk_below F8.out hb); have G9 := Aside0.mk (Kd.R_lower ho (below_size B8.out)); clear hb ho; obtain ⟨AG, kG, eG⟩ := Kd.R_slice G9.out; subst eG)
        | (go_at_call 16; (with_reducible refine (laws_eqSessionS.calls k _ _ x1 _ _ y1 true w9 (Kd.R_reads' G9.out).2.2 (Kd.R_reads' G9.out).2.1 (Kd.R_reads' Y9.out).2.2 (Kd.R_reads' Y9.out).2.1 J6.out).mono ?_); rintro e w10 ⟨rfl, hb⟩; have Y10 := Aside0.mk (Kd.R_below Y9.out hb); have X10 := Aside0.mk (Kd.R_below X9.out hb); have G10 := Aside0.mk (Kd.R_below G9.out hb); have B10 := Aside0.mk (below_step B9.out hb); have F10 := Aside0.mk (blk_below F9.out hb); clear hb)
        | (go_at_call 14; (with_reducible refine (laws_toSessionS.calls k _ _ l m w10 (Kd.C_below HR0.out B10.out) HC0.out J2.out).mono ?_); rintro e w11 ⟨v11, rfl, ho, hb⟩; have NEUY := Aside0.mk (fresh_ne ho Y10.out); have NEUX := Aside0.mk (fresh_ne ho X10.out); have NEUG := Aside0.mk (fresh_ne ho G10.out); have Y11 := Aside0.mk (Kd.R_below Y10.out hb); have X11 := Aside0.mk (Kd.R_below X10.out hb); have G11 := Aside0.mk (Kd.R_below G10.out hb); have B11 := Aside0.mk (below_step B10.out hb); have F11 := Aside0.mk (blk_below F10.out hb); have U11 := Aside0.mk (Kd.R_lower ho (below_size B10.out)); clear hb ho; obtain ⟨AU, kU, eU⟩ := Kd.R_slice U11.out; subst eU)
        | (go_at_call 16; (with_reducible refine (laws_eqSessionS.calls k _ _ m _ _ m true w11 (Kd.R_reads' X11.out).2.2 (Kd.R_reads' X11.out).2.1 (Kd.R_reads' U11.out).2.2 (Kd.R_reads' U11.out).2.1 J7.out).mono ?_); rintro e w12 ⟨rfl, hb⟩; have Y12 := Aside0.mk (Kd.R_below Y11.out hb); have X12 := Aside0.mk (Kd.R_below X11.out hb); have G12 := Aside0.mk (Kd.R_below G11.out hb); have U12 := Aside0.mk (Kd.R_below U11.out hb); have B12 := Aside0.mk (below_step B11.out hb); have F12 := Aside0.mk (blk_below F11.out hb); clear hb)
        | (go_at_call 22; (with_reducible refine (laws_markSessionS.calls k (fun k_ => some k_ = (.slice AX m.length kX : Value).ownBlock) (.slice AX m.length kX : Value) m 1 k1 m1 w w12 B12.out (Kd.R_tight rfl X12.out) J8.out).mono ?_); rintro e w13 ⟨rfl, hy, hb, hkp⟩; have Y13 := Aside0.mk (keepR Y12.out hkp (fun k_ h1 h2 => NEXY.out k_ h2 h1)); have G13 := Aside0.mk (keepR G12.out hkp (fun k_ h1 h2 => NEGX.out k_ h1 h2)); have X13 := Aside0.mk (Kd.R_mono hy (fun _ _ => trivial)); have HLX := Aside0.mk (Kd.R_reads' hy).1; have B13 := Aside0.mk hb; have F13 := Aside0.mk ((hkp.2 g (blk_lt F12.out) (Kd.R_ne X12.out F12.out (by decide))).trans F12.out); clear hy hb hkp)
        | (go_at_call 16; (with_reducible refine (laws_eqSessionS.calls k _ _ x1 _ _ y1 true w13 (Kd.R_reads' G13.out).2.2 (Kd.R_reads' G13.out).2.1 (Kd.R_reads' Y13.out).2.2 (Kd.R_reads' Y13.out).2.1 J6.out).mono ?_); rintro e w14 ⟨rfl, hb⟩; have Y14 := Aside0.mk (Kd.R_below Y13.out hb); have G14 := Aside0.mk (Kd.R_below G13.out hb); have B14 := Aside0.mk (below_step B13.out hb); have F14 := Aside0.mk (blk_below F13.out hb); clear hb)
        | (go_at_call 22; (with_reducible refine (laws_markSessionS.calls k (fun k_ => some k_ = (.slice AG x1.length kG : Value).ownBlock) (.slice AG x1.length kG : Value) x1 1 q m3 w w14 B14.out (Kd.R_tight rfl G14.out) J9.out).mono ?_); rintro e w15 ⟨rfl, hy, hb, hkp⟩; have Y15 := Aside0.mk (keepR Y14.out hkp (fun k_ h1 h2 => NEGY.out k_ h2 h1)); have G15 := Aside0.mk (Kd.R_mono hy (fun _ _ => trivial)); have HLG := Aside0.mk (Kd.R_reads' hy).1; have B15 := Aside0.mk hb; have F15 := Aside0.mk ((hkp.2 g (blk_lt F14.out) (Kd.R_ne G14.out F14.out (by decide))).trans F14.out); clear hy hb hkp)
        | (go_at_call 23; refine (show Calls Try.prog 23 #[.slice AG x1.length kG, .int .i64 1] w15 _ from HLG.out ▸ laws_heldSessionS.calls k AG kG m3 1 q w15 (Kd.R_reads' G15.out).2.2 (HLG.out ▸ (Kd.R_reads' G15.out).2.1) J10.out).mono ?_; rintro e w16 ⟨rfl, ⟨nd, hw⟩⟩; have hb := (show Below w15.heap.size w15 w16 from hw ▸ pw_below_drewN (Below.refl _ _) nd); clear hw; have Y16 := Aside0.mk (Kd.R_below Y15.out hb); have G16 := Aside0.mk (Kd.R_below G15.out hb); have B16 := Aside0.mk (below_step B15.out hb); have F16 := Aside0.mk (blk_below F15.out hb); clear hb))
      refine start_ (n := 10) (S := fun W => W.heap[g]? = some (.cells #[.int .i64 a, .int .i64 b, .int .i64 c] 32 (0, 0))) (ds := []) #[false, false, false, false, false, false, false, false, false, false] (by kernel_rfl) rfl rfl (blk_drew F16.out) (fun hHeld => ?_); refine with_tabW laws_FnExactSessionPut.tab24 laws_FnExactSessionPut.bits24 (fun HT_ HW_ => ?_)
      have B17 := Aside0.mk (below_drew B16.out)
      have Y17 := Aside0.mk (Kd.R_drew Y16.out)
      have G17 := Aside0.mk (Kd.R_drew G16.out)
      generalize w16.drew = w17 at B17 Y17 G17 hHeld ⊢
      refine pure_ (i := 0) (N := some 80) (v := ?_) (a' := ?_) (bits 10 1) rfl rfl (any_of HT_.out (by kernel_rfl)) (fun _ _ _ h => h) (Or.inl ⟨by rfl, ?_⟩) ?_ ?_
      rotate_left
      · intro w'
        go_simp
        with_reducible rfl
      rotate_left
      · simp only [Act.put, List.setIfInBounds_toArray, List.set_cons_zero, List.set_cons_succ, i64_w, i32_w]
        rfl
      refine take_ (i := 2) (N := some 82) (v := ?_) (a' := ?_) (bits 10 5) rfl rfl (take_ofW HT_.out HW_.out (by kernel_rfl)) (fun _ _ _ h => h) (Or.inl ⟨by rfl, ?_⟩) hHeld ?_ ?_
      rotate_left
      · intro w' hS
        have h0 : w'.cell? ⟨g, 0, none⟩ = some (.int .i64 a) := (blk_cell hS 0).trans rfl
        have h1 : w'.cell? ⟨g, 1, none⟩ = some (.int .i64 b) := (blk_cell hS 1).trans rfl
        have h2 : w'.cell? ⟨g, 2, none⟩ = some (.int .i64 c) := (blk_cell hS 2).trans rfl
        go_simp
        with_reducible rfl
      rotate_left
      · simp only [Act.put, List.setIfInBounds_toArray, List.set_cons_zero, List.set_cons_succ, i64_w, i32_w]
        rfl
      refine one_ (i := 1) (N := some 81) (bits 10 7) rfl rfl (one_of HT_.out (by kernel_rfl)) (by decide) (fun K hK => ?_)
      refine goes_ Try.func14 (by kernel_rfl) rfl #[.slice A0 l.length c0] (by rfl) rfl rfl (by (try simp only [List.map_toArray, List.map_cons, List.map_nil]); rfl) ?_
      with_reducible refine (laws_toSessionS.calls k _ _ l m w17 (Kd.C_below HR0.out B17.out) HC0.out J2.out).mono ?_
      rintro e w18 ⟨v18, rfl, ho, hb⟩
      refine ⟨_, rfl, ?_⟩
      have NERY := Aside0.mk (fresh_ne ho Y17.out)
      have NERG := Aside0.mk (fresh_ne ho G17.out)
      have Y18 := Aside0.mk (Kd.R_below Y17.out hb)
      have G18 := Aside0.mk (Kd.R_below G17.out hb)
      have B18 := Aside0.mk (below_step B17.out hb)
      have F18 := blk_below hHeld hb
      have R18 := Aside0.mk (Kd.R_lower ho (below_size B17.out))
      clear hb ho hHeld
      obtain ⟨AR, kR, eR⟩ := Kd.R_slice R18.out
      subst eR
      refine hK.out _ _ F18 (fun hHeld => ?_)
      clear hK K
      refine norm_ (a' := ?_) ?_ ?_
      rotate_left
      · show Act.put _ (some 81) _ = _
        simp only [Act.put, List.setIfInBounds_toArray, List.set_cons_zero, List.set_cons_succ, i64_w, i32_w]
        rfl
      refine one_ (i := 3) (N := some 83) (bits 10 15) rfl rfl (one_of HT_.out (by kernel_rfl)) (by decide) (fun K hK => ?_)
      refine goes_ Try.func20 (by kernel_rfl) rfl #[.agg #[.int .i64 a, .int .i64 b, .int .i64 c]] (by rfl) rfl rfl (by (try simp only [List.map_toArray, List.map_cons, List.map_nil]); rfl) ?_
      with_reducible refine (laws_toSession.calls a b c s1 s2 s3 w18 J3.out).mono ?_
      rintro e w19 ⟨rfl, hb⟩
      refine ⟨_, rfl, ?_⟩
      have Y19 := Aside0.mk (Kd.R_below Y18.out hb)
      have G19 := Aside0.mk (Kd.R_below G18.out hb)
      have R19 := Aside0.mk (Kd.R_below R18.out hb)
      have B19 := Aside0.mk (below_step B18.out hb)
      have F19 := blk_below hHeld hb
      clear hb hHeld
      refine hK.out _ _ F19 (fun hHeld => ?_)
      clear hK K
      refine norm_ (a' := ?_) ?_ ?_
      rotate_left
      · show Act.put _ (some 83) _ = _
        simp only [Act.put, List.setIfInBounds_toArray, List.set_cons_zero, List.set_cons_succ, i64_w, i32_w]
        rfl
      refine one_ (i := 4) (N := some 84) (bits 10 31) rfl rfl (one_of HT_.out (by kernel_rfl)) (by decide) (fun K hK => ?_)
      refine goes_ Try.func21 (by kernel_rfl) rfl #[.slice AR m.length kR, .agg #[.int .i64 s1, .int .i64 s2, .int .i64 s3]] (by rfl) rfl rfl (by (try simp only [List.map_toArray, List.map_cons, List.map_nil]); rfl) ?_
      with_reducible refine (impl_SessionPut.calls k _ _ m s1 s2 s3 x1 x2 w19 (Kd.R_reads' R19.out).2.2 (Kd.R_reads' R19.out).2.1 J5.out).mono ?_
      rintro e w20 ⟨v20, rfl, ho, hb⟩
      refine ⟨_, rfl, ?_⟩
      have NEHY := Aside0.mk (fresh_ne ho Y19.out)
      have NEHG := Aside0.mk (fresh_ne ho G19.out)
      have NEHR := Aside0.mk (fresh_ne ho R19.out)
      have Y20 := Aside0.mk (Kd.R_below Y19.out hb)
      have G20 := Aside0.mk (Kd.R_below G19.out hb)
      have R20 := Aside0.mk (Kd.R_below R19.out hb)
      have B20 := Aside0.mk (below_step B19.out hb)
      have F20 := blk_below hHeld hb
      have H20 := Aside0.mk (Kd.R_lower ho (below_size B19.out))
      clear hb ho hHeld
      obtain ⟨AH, kH, eH⟩ := Kd.R_slice H20.out
      subst eH
      refine hK.out _ _ F20 (fun hHeld => ?_)
      clear hK K
      refine norm_ (a' := ?_) ?_ ?_
      rotate_left
      · show Act.put _ (some 84) _ = _
        simp only [Act.put, List.setIfInBounds_toArray, List.set_cons_zero, List.set_cons_succ, i64_w, i32_w]
        rfl
      refine pure_ (i := 5) (N := some 79) (v := ?_) (a' := ?_) (bits 10 63) rfl rfl (any_of HT_.out (by kernel_rfl)) (fun _ _ _ h => h) (Or.inl ⟨by rfl, ?_⟩) ?_ ?_
      rotate_left
      · intro w'
        go_simp
        with_reducible rfl
      rotate_left
      · simp only [Act.put, List.setIfInBounds_toArray, List.set_cons_zero, List.set_cons_succ, i64_w, i32_w]
        rfl
      refine pure_ (i := 6) (N := some 85) (v := ?_) (a' := ?_) (bits 10 127) rfl rfl (any_of HT_.out (by kernel_rfl)) (fun _ _ _ h => h) (Or.inl ⟨by rfl, ?_⟩) ?_ ?_
      rotate_left
      · intro w'
        go_simp
        with_reducible rfl
      rotate_left
      · simp only [Act.put, List.setIfInBounds_toArray, List.set_cons_zero, List.set_cons_succ, i64_w, i32_w]
        rfl
      refine pure_ (i := 7) (N := some 86) (v := ?_) (a' := ?_) (bits 10 255) rfl rfl (any_of HT_.out (by kernel_rfl)) (fun _ _ _ h => h) (Or.inl ⟨by rfl, ?_⟩) ?_ ?_
      rotate_left
      · intro w'
        go_simp
        with_reducible rfl
      rotate_left
      · simp only [Act.put, List.setIfInBounds_toArray, List.set_cons_zero, List.set_cons_succ, i64_w, i32_w]
        rfl
      refine pure_ (i := 8) (N := some 14) (v := ?_) (a' := ?_) (bits 10 511) rfl rfl (any_of HT_.out (by kernel_rfl)) (fun _ _ _ h => h) (Or.inl ⟨by rfl, ?_⟩) ?_ ?_
      rotate_left
      · intro w'
        go_simp
        with_reducible rfl
      rotate_left
      · simp only [Act.put, List.setIfInBounds_toArray, List.set_cons_zero, List.set_cons_succ, i64_w, i32_w]
        rfl
      refine pure_ (i := 9) (N := some 15) (v := ?_) (a' := ?_) (bits 10 1023) rfl rfl (any_of HT_.out (by kernel_rfl)) (fun _ _ _ h => h) (Or.inl ⟨by rfl, ?_⟩) ?_ ?_
      rotate_left
      · intro w'
        go_simp
        with_reducible rfl
      rotate_left
      · simp only [Act.put, List.setIfInBounds_toArray, List.set_cons_zero, List.set_cons_succ, i64_w, i32_w]
        rfl
      refine done_ (done_of HT_.out (by kernel_rfl)) ?_
      have F20 := Aside0.mk F20
      go_wp2_with (first
        | (go_at_call 16; (with_reducible refine (laws_eqSessionS.calls k _ _ x1 _ _ y1 true w20 (Kd.R_reads' H20.out).2.2 (Kd.R_reads' H20.out).2.1 (Kd.R_reads' Y20.out).2.2 (Kd.R_reads' Y20.out).2.1 J6.out).mono ?_); rintro e w21 ⟨rfl, hb⟩; have Y21 := Aside0.mk (Kd.R_below Y20.out hb); have G21 := Aside0.mk (Kd.R_below G20.out hb); have H21 := Aside0.mk (Kd.R_below H20.out hb); have B21 := Aside0.mk (below_step B20.out hb); have F21 := Aside0.mk (blk_below F20.out hb); clear hb)
        | (go_at_call 23; refine (show Calls Try.prog 23 #[.slice AG x1.length kG, .int .i64 1] w21 _ from HLG.out ▸ laws_heldSessionS.calls k AG kG m3 1 q w21 (Kd.R_reads' G21.out).2.2 (HLG.out ▸ (Kd.R_reads' G21.out).2.1) J10.out).mono ?_; rintro e w22 ⟨rfl, ⟨nd, hw⟩⟩; have hb := (show Below w21.heap.size w21 w22 from hw ▸ pw_below_drewN (Below.refl _ _) nd); clear hw; have Y22 := Aside0.mk (Kd.R_below Y21.out hb); have G22 := Aside0.mk (Kd.R_below G21.out hb); have H22 := Aside0.mk (Kd.R_below H21.out hb); have B22 := Aside0.mk (below_step B21.out hb); have F22 := Aside0.mk (blk_below F21.out hb); clear hb))
      go_ret
      exact ⟨rfl, B22.out⟩
    · rw [if_neg hj] at h
      cases h

end Go.Proofs.Ytmljefpcjlelmaa.PFnExactSessionPut
