/- Walks over models, part 1: sfind isplace sjoinm isseq ung ssput rdses rdspan ord inm spin drs rdstate drstatevalid lawFnStateValid. -/
import Derived.Test.YtenfiihcdhnamaaPFnStateValidx0
import Derived.Deep.RegionHeld3
import Derived.Lib.Strings
import Derived.Laws.BytesArg
import Derived.Test.YtenfiihcdhnamaaPFnStateValidx43
import Derived.Test.YtenfiihcdhnamaaPFnStateValidx22
import Derived.Test.YtenfiihcdhnamaaPFnStateValidx23
import Derived.Test.YtenfiihcdhnamaaPFnStateValidx38
import Derived.Test.YtenfiihcdhnamaaPFnStateValidx30
import Derived.Test.YtenfiihcdhnamaaPFnStateValidx29
import Derived.Test.YtenfiihcdhnamaaMFnStateValid0
namespace Go.Proofs.Ytenfiihcdhnamaa.PFnStateValid
open Go.RowKit Go.Proofs.YtenfiihcdhnamaaW.PrintWords Go.Proofs.YtenfiihcdhnamaaW.PrintLast Go.Proofs.YtenfiihcdhnamaaW.PrintMore
set_option linter.unusedVariables false
set_option linter.unusedSimpArgs false
set_option maxHeartbeats 4000000
set_option maxRecDepth 100000
attribute [local go_sem] leq_str geq_str gtr_str
theorem find_drop {l : List S100} {j : Nat} (c : Int) (h : j < l.length) : findS (l.drop j) c = if (rd_T100 l (j : Int)).f0 = c then rd_T100 l (j : Int) else findS (l.drop (j + 1)) c := by
 rw [ses_drop h, findS]
theorem spec_l9Find.M (A0 : Option Addr) (c0 : Nat) (l : List S100) (c : Int) (w : World) (hr0 : Kd.C k100 w A0 l.length l) : Calls Try.prog 125 #[.slice A0 l.length c0, .int .i64 c] w fun e w' => e = .returned (.agg #[.int .i64 (findS l c).f0, .int .i64 (findS l c).f1, .int .i64 (findS l c).f2]) ∧ Below w.heap.size w w' := by
 have B := Aside0.mk (Below.refl w.heap.size w)
 have hu := Try.underlying100
 have HR0 := Aside0.mk hr0
 have L63 := Aside0.mk hr0.2.1
 clear hr0
 obtain ⟨r, hr⟩ : ∃ r, findS l c = r := ⟨_, rfl⟩
 rw [hr]
 have H := Aside0.mk (show findS (l.drop 0) c = r from hr)
 clear hr
 go_enter Try.func125, Try.ntmps125
 go_wp2_with (first
  | ((with_reducible refine gate_dst (N := 4) rfl ?_); refine bx ?hg (N := 4) ?hd (cs := #[.int .i64 (0), .int .i64 (0), .int .i64 (0)]) (t := 100) ?hr B ?_; (case hd | hg => rfl); (case hr => go_simp; first | done | rfl); intro g4 w1 hb B F4 L4 E4; clear hb E4))
 go_loopg [5] (l.length + 1) (fun kx v5 wr => ∃ j : Nat, v5 = .int .i64 (j : Int) ∧ j ≤ l.length ∧ l.length < j + kx ∧ Aside0 (Below w.heap.size w wr) ∧ Aside0 (wr.heap[g4]? = some (.cells #[.int .i64 (0), .int .i64 (0), .int .i64 (0)] 100 (0, 0))) ∧ Aside0 (findS (l.drop j) c = r))
 case atStart => exact ⟨0, rfl, by omega, by omega, B, F4, H⟩
 case round =>
  clear H B F4
  obtain ⟨j, rfl, hj, hk, B, F4, H⟩ := hrel
  have h63 := L63.out
  by_cases hlt : j < l.length
  ·have HS := H.out
   rw [find_drop c hlt] at HS
   clear H
   obtain ⟨d, rfl⟩ : ∃ d, gk = d + 1 := ⟨gk - 1, by omega⟩
   have cj : decide ((j : Int) < (l.length : Int)) = true := decide_eq_true (by omega)
   obtain ⟨ad, hA, y0, y1, y2⟩ := at_T100 (cb HR0 B) (j : Int) (by omega) (by omega)
   cases hA
   rw [Int.toNat_natCast] at y0 y1 y2
   have j1 := eq_true (show (j : Int) < (l.length : Int) by omega)
   have j2 := eq_true hlt
   generalize hy : rd_T100 l (j : Int) = y at *
   by_cases hc : y.f0 = c
   ·rw [if_pos hc] at HS
    have dc : (y.f0 == c) = true := by simp [hc]
    have dc2 : decide (y.f0 = c) = true := decide_eq_true hc
    subst HS
    go_wp2_with (first
     | ((with_reducible refine gate_store (t := 100) (p := 4) rfl ?_); obtain ⟨y0, y1, y2, z0, z1, z2⟩ := cz3 F4; refine sx (t := 100) (t' := 100) (p := 4) (v := ?vo101) ?hg ?ho ?hn 0 [.int .i64 (y.f0), .int .i64 (y.f1), .int .i64 (y.f2)] [.int .i64 (y.f0), .int .i64 (y.f1), .int .i64 (y.f2)] ?hr B F4 L4 rfl (Nat.le_of_ble_eq_true rfl) ?_; (case ho | hg | hn => rfl); (case hr => go_simp; first | done | rfl); intro w101 hk B G; replace F4 := G; clear hk y0 z0 y1 z1 y2 z2))
    refine bodyPost_ret (results_single rfl (.cell g4 100 _ (0, 0) _ rfl F4.out hu rfl (by kernel_rfl) .nil)) rfl ?_
    exact ⟨rfl, B.out⟩
   ·rw [if_neg hc] at HS
    have dc : (y.f0 == c) = false := by simp [hc]
    have dc2 : decide (y.f0 = c) = false := decide_eq_false hc
    go_wp2
    go_roundg d
    case measure => omega
    case rel => exact ⟨j + 1, congrArg (Value.int .i64) (Int.natCast_succ _).symm, by omega, by omega, B, F4, ⟨HS⟩⟩
  ·have cj : decide ((j : Int) < (l.length : Int)) = false := decide_eq_false (by omega)
   have hr := H.out
   rw [List.drop_of_length_le (by omega)] at hr
   subst hr
   go_wp2_with (first
    | ((with_reducible refine gate_store (t := 100) (p := 4) rfl ?_); obtain ⟨y0, y1, y2, z0, z1, z2⟩ := cz3 F4; refine sx (t := 100) (t' := 100) (p := 4) (v := ?vo301) ?hg ?ho ?hn 0 [.int .i64 (0), .int .i64 (0), .int .i64 (0)] [.int .i64 (0), .int .i64 (0), .int .i64 (0)] ?hr B F4 L4 rfl (Nat.le_of_ble_eq_true rfl) ?_; (case ho | hg | hn => rfl); (case hr => go_simp; first | done | rfl); intro w301 hk B G; replace F4 := G; clear hk y0 z0 y1 z1 y2 z2))
   refine bodyPost_ret (results_single rfl (.cell g4 100 _ (0, 0) _ rfl F4.out hu rfl (by kernel_rfl) .nil)) rfl ?_
   exact ⟨rfl, B.out⟩
theorem spec_SessionSeq.M (A0 : Option Addr) (c0 : Nat) (l : List S100) (c : Int) (w : World) (hr0 : Kd.C k100 w A0 l.length l) (hc0 : l.length ≤ c0) : Calls Try.prog 121 #[.slice A0 l.length c0, .int .i64 c] w fun e w' => e = .returned (.int .i64 (seqB l c)) ∧ Below w.heap.size w w' := by
 have B := Aside0.mk (Below.refl w.heap.size w)
 have hu := Try.underlying100
 have HR0 := Aside0.mk hr0
 have HC0 := Aside0.mk hc0
 have L63 := Aside0.mk hr0.2.1
 clear hr0 hc0
 have hfld : ∀ W : World, Sem.run Try.prog (Instr.field 100 (Value.agg #[Value.int .i64 (findS l c).f0, Value.int .i64 (findS l c).f1, Value.int .i64 (findS l c).f2]) 1) W = .ok (Value.int .i64 (findS l c).f1) W := fun W => by rfl
 cases hv : sesB l with
 | false =>
  rw [show seqB l c = -1 from if_neg (by rintro ⟨h, -⟩; rw [hv] at h; cases h)]
  go_enter Try.func121, Try.ntmps121
  go_wp2_with (first
   | (go_at_call 49; with_reducible refine cl (spec_SessionsValid.M _ _ l _ (cb HR0 B)) B fun w1 hb B => ?_; clear hb)
   | (go_at_call 90; with_reducible refine cl (spec_l1In.M c 0 3 _) B fun w2 hb B => ?_; clear hb)
   | (go_at_call 125; with_reducible refine cl (spec_l9Find.M _ _ l c _ (cb HR0 B)) B fun w3 hb B => ?_; clear hb))
  all_goals (go_ret; exact ⟨rfl, B.out⟩)
 | true =>
  cases hc : l1B c 0 3 with
  | false =>
   rw [show seqB l c = -1 from if_neg (by rintro ⟨-, h1, h2⟩; unfold l1B at hc; rw [decide_eq_true h1, decide_eq_true h2] at hc; cases hc)]
   go_enter Try.func121, Try.ntmps121
   go_wp2_with (first
    | (go_at_call 49; with_reducible refine cl (spec_SessionsValid.M _ _ l _ (cb HR0 B)) B fun w1 hb B => ?_; clear hb)
    | (go_at_call 90; with_reducible refine cl (spec_l1In.M c 0 3 _) B fun w2 hb B => ?_; clear hb)
    | (go_at_call 125; with_reducible refine cl (spec_l9Find.M _ _ l c _ (cb HR0 B)) B fun w3 hb B => ?_; clear hb))
   all_goals (go_ret; exact ⟨rfl, B.out⟩)
  | true =>
   have hc2 := hc
   unfold l1B at hc2
   rw [Bool.and_eq_true, decide_eq_true_eq, decide_eq_true_eq] at hc2
   rw [show seqB l c = (findS l c).f1 from if_pos ⟨hv, hc2⟩]
   clear hc2
   go_enter Try.func121, Try.ntmps121
   go_wp2_with (first
    | (go_at_call 49; with_reducible refine cl (spec_SessionsValid.M _ _ l _ (cb HR0 B)) B fun w1 hb B => ?_; clear hb)
    | (go_at_call 90; with_reducible refine cl (spec_l1In.M c 0 3 _) B fun w2 hb B => ?_; clear hb)
    | (go_at_call 125; with_reducible refine cl (spec_l9Find.M _ _ l c _ (cb HR0 B)) B fun w3 hb B => ?_; clear hb))
   all_goals (go_ret; exact ⟨rfl, B.out⟩)

def cmpI (x y : Int) : Int := if x < y then -1 else if x > y then 1 else 0
theorem cmp_isNaN.calls (x : Int) (w : World) : Calls Try.prog 122 #[.int .i64 x] w fun e w' => e = .returned (.bool false) ∧ Below w.heap.size w w' := by
 go_enter Try.func122, Try.ntmps122
 go_wp2
 go_ret
 exact ⟨by simp, Below.refl _ _⟩
theorem cmp_Compare.calls (x y : Int) (w : World) : Calls Try.prog 113 #[.int .i64 x, .int .i64 y] w fun e w' => e = .returned (.int .i64 (cmpI x y)) ∧ Below w.heap.size w w' := by
 unfold cmpI
 by_cases h1 : x < y
 ·have d1 : decide (x < y) = true := decide_eq_true h1
  rw [if_pos h1]
  clear h1
  go_enter Try.func113, Try.ntmps113
  go_wp2_with (first
   | (go_at_call 122; (with_reducible refine (cmp_isNaN.calls x w).mono ?_); rintro e w1 ⟨rfl, hb⟩; have B1 := Aside0.mk hb; clear hb)
   | (go_at_call 122; (with_reducible refine (cmp_isNaN.calls y w1).mono ?_); rintro e w2 ⟨rfl, hb⟩; have B2 := Aside0.mk (below_step B1.out hb); clear hb))
  go_ret
  exact ⟨rfl, B2.out⟩
 ·have d1 : decide (x < y) = false := decide_eq_false h1
  rw [if_neg h1]
  by_cases h2 : x > y
  ·have d2 : decide (x > y) = true := decide_eq_true h2
   rw [if_pos h2]
   clear h1 h2
   go_enter Try.func113, Try.ntmps113
   go_wp2_with (first
    | (go_at_call 122; (with_reducible refine (cmp_isNaN.calls x w).mono ?_); rintro e w1 ⟨rfl, hb⟩; have B1 := Aside0.mk hb; clear hb)
    | (go_at_call 122; (with_reducible refine (cmp_isNaN.calls y w1).mono ?_); rintro e w2 ⟨rfl, hb⟩; have B2 := Aside0.mk (below_step B1.out hb); clear hb))
   go_ret
   exact ⟨rfl, B2.out⟩
  ·have d2 : decide (x > y) = false := decide_eq_false h2
   rw [if_neg h2]
   clear h1 h2
   go_enter Try.func113, Try.ntmps113
   go_wp2_with (first
    | (go_at_call 122; (with_reducible refine (cmp_isNaN.calls x w).mono ?_); rintro e w1 ⟨rfl, hb⟩; have B1 := Aside0.mk hb; clear hb)
    | (go_at_call 122; (with_reducible refine (cmp_isNaN.calls y w1).mono ?_); rintro e w2 ⟨rfl, hb⟩; have B2 := Aside0.mk (below_step B1.out hb); clear hb))
   go_ret
   exact ⟨rfl, B2.out⟩

theorem impl_sessionPlace1.calls (s : S100) (c : Int) (w : World) : Calls Try.prog 112 #[.agg #[.int .i64 s.f0, .int .i64 s.f1, .int .i64 s.f2], .int .i64 c] w fun e w' => e = .returned (.int .i64 (cmpI s.f0 c)) ∧ Below w.heap.size w w' := by
 have hu := Try.underlying100
 go_enter Try.func112, Try.ntmps112
 go_wp2_with (first
  | ((with_reducible refine gate_dst (N := 2) rfl ?_); refine box_event ?hg (N := 2) ?hd (cs := #[.int .i64 s.f0, .int .i64 s.f1, .int .i64 s.f2]) (t := 100) ?hr ?_; (case hd => rfl); (case hg => rfl); (case hr => first | (go_simp; done) | (go_simp; rfl)); intro g hg w1 hc hb; have B1 := Aside0.mk hb; have c0 : w1.cell? ⟨g, 0, none⟩ = some (.int .i64 s.f0) := (blk_cell hc 0).trans rfl; clear hc hb hg)
  | (go_at_call 113; (with_reducible refine (cmp_Compare.calls s.f0 c w1).mono ?_); rintro e w2 ⟨rfl, hb⟩; have B2 := Aside0.mk (below_step B1.out hb); clear hb))
 go_ret
 exact ⟨rfl, B2.out⟩

theorem cmpI_neg (x c : Int) : decide (cmpI x c < 0) = decide (x < c) := by
 unfold cmpI
 by_cases h : x < c
 ·simp [h]
 ·by_cases h2 : x > c <;> simp [h, h2]
theorem cmpI_zero (x c : Int) : (cmpI x c == 0) = decide (x = c) := by
 unfold cmpI
 by_cases h : x < c
 ·rw [if_pos h, decide_eq_false (by omega)]
  rfl
 ·by_cases h2 : x > c
  ·rw [if_neg h, if_pos h2, decide_eq_false (by omega)]
   rfl
  ·rw [if_neg h, if_neg h2, decide_eq_true (by omega)]
   rfl
theorem slices_BinarySearchFunc.calls (A0 : Option Addr) (c0 : Nat) (l : List S100) (c : Int) (w : World) (hr0 : Kd.C k100 w A0 l.length l) (hc0 : l.length ≤ c0) (hsz : l.length < 4611686018427387904) :
  Calls Try.prog 111 #[.slice A0 l.length c0, .int .i64 c, .func (.func 112) #[] #[]] w fun e w' =>
   e = .returned (.tuple #[.int .i64 ((placeOf l c l.length 0 l.length : Nat) : Int), .bool (hitOf l c)]) ∧ Below w.heap.size w w' := by
 have HR0 := Aside0.mk hr0
 clear hr0
 have hu := Try.underlying100
 generalize hR : placeOf l c l.length 0 l.length = R
 have HT := Aside0.mk (show hitOf l c = (decide (R < l.length) && decide ((rd_T100 l ((R : Nat) : Int)).f0 = c)) by unfold hitOf; rw [hR])
 have PR := Aside0.mk hR
 clear hR
 go_enter Try.func111, Try.ntmps111
 go_wp2
 go_loopg [9, 10] l.length (fun kx s9 s10 wr => ∃ lo hi : Nat, s9 = .int .i64 lo ∧ s10 = .int .i64 hi ∧ lo ≤ hi ∧ hi ≤ l.length ∧ hi - lo ≤ kx ∧ Aside0 (Below w.heap.size w wr) ∧ Aside0 (placeOf l c kx lo hi = R))
 case atStart => exact ⟨0, l.length, rfl, rfl, Nat.zero_le _, Nat.le_refl _, by omega, ⟨Below.refl _ _⟩, PR⟩
 case round =>
  clear PR
  obtain ⟨lo, hi, rfl, rfl, hlh, hin, hg, BW, PW⟩ := hrel
  by_cases hlt : lo < hi
  ·obtain ⟨d, rfl⟩ : ∃ d, gk = d + 1 := ⟨gk - 1, by omega⟩
   have hp := PW.out
   simp only [placeOf] at hp
   rw [if_pos hlt] at hp
   obtain ⟨ad, hA, x0, x1, x2⟩ := at_T100 (Kd.C_below HR0.out BW.out) (((lo + hi) / 2 : Nat) : Int) (by omega) (by omega)
   subst hA
   generalize hy : rd_T100 l (((lo + hi) / 2 : Nat) : Int) = y at x0 x1 x2 hp
   rw [Int.toNat_natCast] at x0 x1 x2
   clear hy
   by_cases hyx : y.f0 < c
   ·rw [if_pos hyx] at hp
    have P2 := Aside0.mk hp
    have dc : decide (cmpI y.f0 c < 0) = true := (cmpI_neg _ _).trans (decide_eq_true hyx)
    clear PW hp hyx
    go_wp2_with (go_at_call 112; (with_reducible refine (impl_sessionPlace1.calls y c wr).mono ?_); rintro e w1 ⟨rfl, hb⟩; have B1 := Aside0.mk (below_step BW.out hb); clear hb)
    go_roundg d
    case measure => omega
    case rel => exact ⟨(lo + hi) / 2 + 1, hi, by rw [show ((lo : Int) + (hi : Int)) / 2 + 1 = (((lo + hi) / 2 + 1 : Nat) : Int) by omega], rfl, by omega, hin, by omega, B1, P2⟩
   ·rw [if_neg hyx] at hp
    have P2 := Aside0.mk hp
    have dc : decide (cmpI y.f0 c < 0) = false := (cmpI_neg _ _).trans (decide_eq_false hyx)
    clear PW hp hyx
    go_wp2_with (go_at_call 112; (with_reducible refine (impl_sessionPlace1.calls y c wr).mono ?_); rintro e w1 ⟨rfl, hb⟩; have B1 := Aside0.mk (below_step BW.out hb); clear hb)
    go_roundg d
    case measure => omega
    case rel => exact ⟨lo, (lo + hi) / 2, rfl, by rw [show ((lo : Int) + (hi : Int)) / 2 = (((lo + hi) / 2 : Nat) : Int) by omega], by omega, by omega, by omega, B1, P2⟩
  ·obtain rfl : R = lo := by
    rw [← PW.out]
    cases gk with
    | zero => rfl
    | succ d => simp only [placeOf]; rw [if_neg hlt]
   by_cases hn : R < l.length
   ·obtain ⟨ad, hA, x0, x1, x2⟩ := at_T100 (Kd.C_below HR0.out BW.out) (R : Int) (by omega) (by omega)
    subst hA
    generalize hy : rd_T100 l (R : Int) = y at x0 x1 x2 HT
    rw [Int.toNat_natCast] at x0 x1 x2
    clear hy PW
    go_wp2_with (go_at_call 112; (with_reducible refine (impl_sessionPlace1.calls y c wr).mono ?_); rintro e w1 ⟨rfl, hb⟩; have B1 := Aside0.mk (below_step BW.out hb); clear hb)
    go_ret2
    refine ⟨?_, B1.out⟩
    rw [HT.out, decide_eq_true hn, ← cmpI_zero]
    rfl
   ·clear PW
    go_wp2
    go_ret2
    refine ⟨?_, BW.out⟩
    rw [HT.out, decide_eq_false hn]
    rfl

theorem impl_sessionPlace.calls (A0 : Option Addr) (c0 : Nat) (l : List S100) (c : Int) (w : World) (hr0 : Kd.C k100 w A0 l.length l) (hc0 : l.length ≤ c0) (hsz : l.length < 4611686018427387904) :
  Calls Try.prog 87 #[.slice A0 l.length c0, .int .i64 c] w fun e w' => e = .returned (.tuple #[.int .i64 ((placeOf l c l.length 0 l.length : Nat) : Int), .bool (hitOf l c)]) ∧ Below w.heap.size w w' := by
 have h := slices_BinarySearchFunc.calls A0 c0 l c w hr0 hc0 hsz
 go_enter Try.func87, Try.ntmps87
 go_wp2_with (go_at_call 111; (with_reducible refine h.mono ?_); rintro e w1 ⟨rfl, hb⟩; have B1 := Aside0.mk hb; clear hb)
 go_ret2
 exact ⟨rfl, B1.out⟩
theorem impl_sessionPlace.M (A0 : Option Addr) (c0 : Nat) (l : List S100) (c : Int) (w : World) (hr0 : Kd.C k100 w A0 l.length l) (hc0 : l.length ≤ c0) (hv : sesB l = true) :
  Calls Try.prog 87 #[.slice A0 l.length c0, .int .i64 c] w fun e w' => e = .returned (.tuple #[.int .i64 ((plOf l c : Nat) : Int), .bool (hitOf l c)]) ∧ Below w.heap.size w w' :=
 impl_sessionPlace.calls A0 c0 l c w hr0 hc0 (by have := sesB_len hv; omega)

/-! What joined sessions hold. -/
theorem find_pos (c : Int) (l : List S100) : ∀ p, sesG p l = true → 0 ≤ (findS l c).f1 := by
  induction l with
  | nil => intro p _; exact Int.le_refl 0
  | cons s r ih =>
    intro p h
    simp only [sesG, Bool.and_eq_true] at h
    have h1 := h.1
    unfold okS l1B at h1
    simp only [Bool.and_eq_true, decide_eq_true_eq] at h1
    rw [findS]
    by_cases hc : s.f0 = c
    · rw [if_pos hc]
      omega
    · rw [if_neg hc]
      exact ih _ h.2.2
theorem seq_find {l : List S100} (h : sesB l = true) {c : Int} (h0 : 0 ≤ c) (h1 : c ≤ 3) : seqB l c = (findS l c).f1 := by
  unfold seqB
  exact if_pos ⟨h, h0, h1⟩
theorem okS_client {s : S100} (h : okS s = true) : 0 ≤ s.f0 ∧ s.f0 ≤ 3 := by
  unfold okS l1B at h
  simp only [Bool.and_eq_true, decide_eq_true_eq] at h
  omega
theorem put_find {acc : List S100} {s : S100} (h : sesB acc = true) (hs : okS s = true) (c : Int) :
    (findS (putB acc s).1 c).f1 = if s.f0 = c then max s.f1 (findS acc c).f1 else (findS acc c).f1 := by
  have hc := okS_client hs
  unfold putB
  rw [if_pos (show sesB acc = true ∧ sesB [s] = true from ⟨h, by rw [sesOne]; exact hs⟩), seq_find h hc.1 hc.2]
  by_cases hle : s.f1 ≤ (findS acc s.f0).f1
  · rw [if_pos hle]
    by_cases e : s.f0 = c
    · subst e
      rw [if_pos rfl]
      dsimp only
      omega
    · rw [if_neg e]
  · rw [if_neg hle]
    dsimp only
    rw [putL_find s c acc (sesG_order acc none h)]
    by_cases e : s.f0 = c
    · subst e
      rw [if_pos rfl, if_pos rfl]
      omega
    · rw [if_neg e, if_neg e]
theorem join_find (c : Int) (b : List S100) : ∀ p acc, sesG p b = true → sesB acc = true → (findS (joinL acc b) c).f1 = max (findS acc c).f1 (findS b c).f1 := by
  induction b with
  | nil =>
    intro p acc _ h
    have := find_pos c acc none h
    rw [joinL, show (findS [] c).f1 = 0 from rfl]
    omega
  | cons s r ih =>
    intro p acc hb h
    have hr := (List.pairwise_cons.mp (sesG_order _ _ hb)).1
    simp only [sesG, Bool.and_eq_true] at hb
    have hp := find_pos c r (some s.f0) hb.2.2
    have ha := find_pos c acc none h
    rw [joinL, ih (some s.f0) _ hb.2.2 (putB_valid h hb.1).1, put_find h hb.1 c, findS]
    by_cases e : s.f0 = c
    · rw [if_pos e, if_pos e, find_none c r fun x hx => by have := hr x hx; omega]
      rw [show (z100 : S100).f1 = 0 from rfl]
      omega
    · rw [if_neg e, if_neg e]
theorem join_seq {a b : List S100} (ha : sesB a = true) (hb : sesB b = true) {c : Int} (h0 : 0 ≤ c) (h1 : c ≤ 3) : seqB (joinB a b) c = max (seqB a c) (seqB b c) := by
  have e : joinB a b = joinL a b := by
    unfold joinB
    exact if_pos ⟨ha, hb⟩
  rw [e, seq_find (joinL_valid b a ha (sesG_ok b none hb)) h0 h1, seq_find ha h0 h1, seq_find hb h0 h1]
  exact join_find c b none a hb ha
theorem putL_sub {x s : S100} (l : List S100) : ∀ b, x ∈ putL l s b → x = s ∨ x ∈ l := by
  induction l with
  | nil =>
    intro b h
    rw [putL] at h
    cases b with
    | true => simp at h
    | false => exact .inl (by simpa using h)
  | cons y r ih =>
    intro b h
    have hy : ∀ z, z ∈ (if y.f0 = s.f0 then [] else [y]) → z = y := by
      intro z hz
      split at hz
      · cases hz
      · simpa using hz
    rw [putL] at h
    have rest : ∀ b, x ∈ (if y.f0 = s.f0 then [] else [y]) ++ putL r s b → x = s ∨ x ∈ y :: r := by
      intro b h
      rcases List.mem_append.mp h with h | h
      · exact .inr (by rw [hy x h]; simp)
      · rcases ih b h with h | h
        · exact .inl h
        · exact .inr (List.mem_cons_of_mem _ h)
    split at h
    · rcases List.mem_cons.mp h with h | h
      · exact .inl h
      · exact rest true h
    · exact rest b h
theorem put_sub {x s : S100} {l : List S100} (h : x ∈ (putB l s).1) : x = s ∨ x ∈ l := by
  unfold putB at h
  split at h
  · split at h
    · exact .inr h
    · exact putL_sub l false h
  · cases h
theorem join_sub {x : S100} (b : List S100) : ∀ acc, x ∈ joinL acc b → x ∈ acc ∨ x ∈ b := by
  induction b with
  | nil => intro acc h; exact .inl h
  | cons s r ih =>
    intro acc h
    rcases ih _ h with h | h
    · rcases put_sub h with rfl | h
      · exact .inr (by simp)
      · exact .inl h
    · exact .inr (List.mem_cons_of_mem _ h)
theorem find_mem {l : List S100} (h : sesB l = true) {s : S100} (hs : s ∈ l) : findS l s.f0 = s := by
  obtain ⟨R, hR, rfl⟩ := List.getElem_of_mem hs
  have ho := sesG_order l none h
  exact find_at _ l R hR (fun i hi => by have := List.pairwise_iff_getElem.mp ho i R (by omega) hR hi; omega) rfl
theorem put_same {l : List S100} (h : sesB l = true) {s : S100} (hs : s ∈ l) : (putB l s).1 = l := by
  have ok := sesG_ok l none h s hs
  have hc := okS_client ok
  unfold putB
  rw [if_pos (show sesB l = true ∧ sesB [s] = true from ⟨h, by rw [sesOne]; exact ok⟩), seq_find h hc.1 hc.2, find_mem h hs, if_pos (Int.le_refl _)]
theorem join_same {l : List S100} (h : sesB l = true) : ∀ b : List S100, (∀ s ∈ b, s ∈ l) → joinL l b = l
  | [], _ => rfl
  | s :: r, hb => by
    rw [joinL, put_same h (hb s (by simp))]
    exact join_same h r fun x hx => hb x (List.mem_cons_of_mem _ hx)
theorem put_bad {l : List S100} {s : S100} (h : sesB l = false ∨ sesB [s] = false) : putB l s = ([], false) := by
  unfold putB
  rw [if_neg]
  rintro ⟨h1, h2⟩
  rcases h with h | h
  · rw [h] at h1; cases h1
  · rw [h] at h2; cases h2

theorem plhit {l : List S100} {c : Int} (h : hitOf l c = true) : plOf l c < l.length ∧ (rd_T100 l ((plOf l c : Nat) : Int)).f0 = c := by
 unfold hitOf at h
 rw [Bool.and_eq_true, decide_eq_true_eq, decide_eq_true_eq] at h
 exact h
theorem seq_hit {l : List S100} {c : Int} (hv : sesB l = true) (hc : 0 ≤ c ∧ c ≤ 3) : seqB l c = if hitOf l c = true then (rd_T100 l ((plOf l c : Nat) : Int)).f1 else 0 := by
 rw [seq_find hv hc.1 hc.2]
 exact (placeOf_find hv c).symm
theorem seq_bad {l : List S100} {c : Int} (h : sesB l = false ∨ ¬ (0 ≤ c ∧ c ≤ 3)) : seqB l c = -1 := by
 unfold seqB
 rw [if_neg]
 rintro ⟨h1, h2⟩
 rcases h with h | h
 ·rw [h] at h1; cases h1
 ·exact h h2
theorem impl_SessionSeq.M (A0 : Option Addr) (c0 : Nat) (l : List S100) (c : Int) (w : World) (hr0 : Kd.C k100 w A0 l.length l) (hc0 : l.length ≤ c0) : Calls Try.prog 43 #[.slice A0 l.length c0, .int .i64 c] w fun e w' => e = .returned (.int .i64 (seqB l c)) ∧ Below w.heap.size w w' := by
 have B := Aside0.mk (Below.refl w.heap.size w)
 have hu := Try.underlying100
 have HR0 := Aside0.mk hr0
 have HC0 := Aside0.mk hc0
 have L63 := Aside0.mk hr0.2.1
 clear hr0 hc0
 by_cases hv : sesB l = true
 ·by_cases hc : 0 ≤ c ∧ c ≤ 3
  ·have hm := seq_hit hv hc
   have d0 : decide (c < 0) = false := decide_eq_false (by omega)
   have d4 : decide (c ≥ 4) = false := decide_eq_false (by omega)
   cases hh : hitOf l c with
   | true =>
    rw [hh, if_pos rfl] at hm
    rw [hm]
    obtain ⟨hlt, hf0⟩ := plhit hh
    have j1 := eq_true (show ((plOf l c : Nat) : Int) < (l.length : Int) by omega)
    have j2 := eq_true hlt
    go_enter Try.func43, Try.ntmps43
    go_wp2_with (first
     | (go_at_call 57; with_reducible refine cl (impl_SessionsValid.M _ _ l _ (cb HR0 B)) B fun w1 hb B => ?_; clear hb)
     | (go_at_call 87; with_reducible refine cl (impl_sessionPlace.M _ _ l c _ (cb HR0 B) HC0.out hv) B fun w2 hb B => ?_; clear hb; (obtain ⟨ad, hA, y0, y1, y2⟩ := at_T100 (cb HR0 B) ((plOf l c : Nat) : Int) (Int.natCast_nonneg _) (Int.ofNat_lt.mpr hlt); cases hA; rw [Int.toNat_natCast] at y0 y1 y2)))
    all_goals (go_ret; exact ⟨rfl, B.out⟩)
   | false =>
    rw [hh, if_neg (by simp)] at hm
    rw [hm]
    go_enter Try.func43, Try.ntmps43
    go_wp2_with (first
     | (go_at_call 57; with_reducible refine cl (impl_SessionsValid.M _ _ l _ (cb HR0 B)) B fun w1 hb B => ?_; clear hb)
     | (go_at_call 87; with_reducible refine cl (impl_sessionPlace.M _ _ l c _ (cb HR0 B) HC0.out hv) B fun w2 hb B => ?_; clear hb))
    all_goals (go_ret; exact ⟨rfl, B.out⟩)
  ·rw [seq_bad (.inr hc)]
   have hd : (decide (c < 0) || decide (c ≥ 4)) = true := by rw [Bool.or_eq_true, decide_eq_true_eq, decide_eq_true_eq]; omega
   go_enter Try.func43, Try.ntmps43
   go_wp2_with (first
    | (go_at_call 57; with_reducible refine cl (impl_SessionsValid.M _ _ l _ (cb HR0 B)) B fun w1 hb B => ?_; clear hb)
    | (go_at_call 87; with_reducible refine cl (impl_sessionPlace.M _ _ l c _ (cb HR0 B) HC0.out hv) B fun w2 hb B => ?_; clear hb))
   all_goals first
    | (go_ret; exact ⟨rfl, B.out⟩)
    | (exfalso; simp_all; omega)
 ·replace hv := Bool.eq_false_iff.mpr hv
  rw [seq_bad (.inl hv)]
  go_enter Try.func43, Try.ntmps43
  go_wp2_with (first
   | (go_at_call 57; with_reducible refine cl (impl_SessionsValid.M _ _ l _ (cb HR0 B)) B fun w1 hb B => ?_; clear hb)
   | (go_at_call 87; with_reducible refine cl (impl_sessionPlace.M _ _ l c _ (cb HR0 B) HC0.out hv) B fun w2 hb B => ?_; clear hb))
  all_goals (go_ret; exact ⟨rfl, B.out⟩)

/-- an operation under a guard that holds -/
theorem ungate {P : Program} {ops : Array Oper} {Q : Exit → Act → World → Prop} {a : Act} {w : World} {rest : List Oper} {o : Oper} (hw : Region.wanted o (yielded ops a.tmps) = true) (h : wpList P ops Q ({o with guard := none} :: rest) a w) : wpList P ops Q (o :: rest) a w := by
  rw [wpList, if_pos hw]
  rw [wpList, if_pos (by rfl)] at h
  exact h

theorem putL_cons (x : S100) (q : List S100) (s : S100) (b : Bool) : putL (x :: q) s b = if b = false ∧ s.f0 ≤ x.f0 then s :: ((if x.f0 = s.f0 then [] else [x]) ++ putL q s true) else (if x.f0 = s.f0 then [] else [x]) ++ putL q s b := rfl
def spec_SessionPut.T4 : Bool × List (List Nat × List Nat) := (true, [([], []), ([], []), ([1], [1]), ([0, 2], [0, 2]), ([], []), ([4], [4]), ([3, 5], [3, 5])])
def spec_SessionPut.B4 : List Nat := [0, 0, 2, 7, 0, 16, 63]
theorem spec_SessionPut.tab4 : rtab .any (opsOf Try.f110 4) = spec_SessionPut.T4 := by kernel_rfl
theorem spec_SessionPut.bits4 : waitsOk spec_SessionPut.T4.2 spec_SessionPut.B4 = true := by kernel_rfl
def spec_SessionPut.T10 : Bool × List (List Nat × List Nat) := (true, [([], []), ([0], [0]), ([1], [1]), ([2], [2]), ([2], [2]), ([3, 4, 2], [2, 3, 4]), ([5, 2], [2, 5]), ([6, 2], [2, 6]), ([2], [2]), ([8, 2], [2, 8]), ([7, 9, 2], [2, 7, 9]), ([2, 10], [2, 10])])
def spec_SessionPut.B10 : List Nat := [0, 1, 3, 7, 7, 31, 63, 127, 7, 263, 1023, 2047]
theorem spec_SessionPut.tab10 : rtab .any (opsOf Try.f110 10) = spec_SessionPut.T10 := by kernel_rfl
theorem spec_SessionPut.bits10 : waitsOk spec_SessionPut.T10.2 spec_SessionPut.B10 = true := by kernel_rfl
def spec_SessionPut.T13 : Bool × List (List Nat × List Nat) := (true, [([], []), ([], []), ([0, 1], [0, 1]), ([2], [2]), ([3], [3]), ([], []), ([5], [5]), ([4, 6], [4, 6])])
def spec_SessionPut.B13 : List Nat := [0, 0, 3, 7, 15, 0, 32, 127]
theorem spec_SessionPut.tab13 : rtab .any (opsOf Try.f110 13) = spec_SessionPut.T13 := by kernel_rfl
theorem spec_SessionPut.bits13 : waitsOk spec_SessionPut.T13.2 spec_SessionPut.B13 = true := by kernel_rfl
theorem spec_SessionPut.M (A0 : Option Addr) (c0 : Nat) (l : List S100) (a b c : Int) (w : World) (hr0 : Kd.C k100 w A0 l.length l) (hc0 : l.length ≤ c0) : Calls Try.prog 110 #[.slice A0 l.length c0, .agg #[.int .i64 a, .int .i64 b, .int .i64 c]] w fun e w' => ∃ v0, e = .returned (.tuple #[v0, .bool (putB l ⟨a, b, c⟩).2]) ∧ Kd.R k100 100 w' w.heap.size (fun _ => True) v0 (putB l ⟨a, b, c⟩).1 ∧ Below w.heap.size w w' := by
 have B := Aside0.mk (Below.refl w.heap.size w)
 have hu := Try.underlying100
 have HR0 := Aside0.mk hr0
 have HC0 := Aside0.mk hc0
 have L63 := Aside0.mk hr0.2.1
 clear hr0 hc0
 by_cases hv : sesB l = true
 ·have h4 := sesB_len hv
  cases ho : okS (⟨a, b, c⟩ : S100) with
  | true =>
   have hone : sesB [(⟨a, b, c⟩ : S100)] = true := by rw [sesOne]; exact ho
   by_cases hq : b ≤ seqB l a
   ·have hM : putB l ⟨a, b, c⟩ = (l, false) := by unfold putB; rw [if_pos ⟨hv, hone⟩]; exact if_pos hq
    have dq : decide (seqB l a ≥ b) = true := decide_eq_true hq
    go_enter Try.func110, Try.ntmps110
    go_wp2_with (first
     | ((with_reducible refine gate_dst (N := 3) rfl ?_); refine bx ?hg (N := 3) ?hd (cs := #[.int .i64 (a), .int .i64 (b), .int .i64 (c)]) (t := 100) ?hr B ?_; (case hd | hg => rfl); (case hr => go_simp; first | done | rfl); intro g3 w201 hb B F3 L3 E3; obtain ⟨c3_0, c3_1, c3_2⟩ := cs3 F3; clear hb E3)
     | ((with_reducible refine gate_dst (N := 9) rfl ?_); refine lt k100 100 ?hg (N := 9) ?hd ([] : List S100) [] ?hr (Reps.none _ _) (by simp) B ?_; (case hd | hg => rfl); (case hr => go_simp; first | done | rfl); intro z9 hz9 AL9 kL9 w202 hb B RL9 QL9; have NB3_L9 := nb QL9 F3; replace F3 := bn F3 hb; clear c3_0 c3_1 c3_2; obtain ⟨c3_0, c3_1, c3_2⟩ := cs3 F3; clear hb QL9; subst hz9)
     | (go_at_call 49; with_reducible refine cl (spec_SessionsValid.M _ _ l _ (cb HR0 B)) B fun w203 hb B => ?_; replace F3 := bn F3 hb; replace RL9 := rn RL9 hb; clear c3_0 c3_1 c3_2; obtain ⟨c3_0, c3_1, c3_2⟩ := cs3 F3; clear hb)
     | ((with_reducible refine gate_dst (N := 15) rfl ?_); refine ungate ?hw ?_; (case hw => first | (go_simp; done) | rfl); refine lt k100 100 ?hg (N := 15) ?hd ([⟨a, b, c⟩] : List S100) [.int .i64 (a), .int .i64 (b), .int .i64 (c)] ?hr (Reps.c3 (k100_mkM _ _ _ ⟨a, b, c⟩) (Reps.none _ _)) (by simp) B ?_; (case hd | hg => rfl); (case hr => go_simp; first | done | rfl); intro z15 hz15 AL15 kL15 w204 hb B RL15 QL15; have NB3_L15 := nb QL15 F3; replace F3 := bn F3 hb; replace RL9 := rn RL9 hb; clear c3_0 c3_1 c3_2; obtain ⟨c3_0, c3_1, c3_2⟩ := cs3 F3; clear hb QL15)
     | (go_at_call 49; with_reducible refine cl (clv (spec_SessionsValid.M _ _ z15 _ (rc RL15)) (congrArg Value.bool (show sesB z15 = true by rw [← hz15]; exact hone))) B fun w205 hb B => ?_; replace F3 := bn F3 hb; replace RL9 := rn RL9 hb; clear c3_0 c3_1 c3_2; obtain ⟨c3_0, c3_1, c3_2⟩ := cs3 F3; clear hb; clear hz15))
    all_goals (
     refine rg (n := 7) (S := fun W => W.heap[g3]? = some (.cells #[.int .i64 (a), .int .i64 (b), .int .i64 (c)] 100 (0, 0))) (ds := []) #[false, false, false, false, false, false, false] (by kernel_rfl) rfl rfl F3.out id B (fun w206 hb B hHeld => ?_)
     refine with_tabW spec_SessionPut.tab4 spec_SessionPut.bits4 (fun HT_ HW_ => ?_)
     replace F3 := bn F3 hb
     replace RL9 := rn RL9 hb
     clear hb
     refine pv 0 (some 20) (v := ?_) (bits 7 1) HT_ (by kernel_rfl) rfl rfl (fun _ _ _ h => h) (by kernel_rfl) ?_ ?_; rotate_left; (intro w'; go_simp; with_reducible rfl)
     refine pv 1 (some 21) (v := ?_) (bits 7 3) HT_ (by kernel_rfl) rfl rfl (fun _ _ _ h => h) (by kernel_rfl) ?_ ?_; rotate_left; (intro w'; go_simp; with_reducible rfl)
     refine tv 2 (some 22) (v := ?_) (bits 7 7) HT_ HW_ (by kernel_rfl) rfl rfl (fun _ _ _ h => h) (by kernel_rfl) hHeld ?_ ?_; rotate_left; (intro w' hS; have s0 := hS; obtain ⟨q0, q1, q2⟩ := cs3 (Aside0.mk s0); go_simp; with_reducible rfl)
     refine pv 4 (some 24) (v := ?_) (bits 7 23) HT_ (by kernel_rfl) rfl rfl (fun _ _ _ h => h) (by kernel_rfl) ?_ ?_; rotate_left; (intro w'; go_simp; with_reducible rfl)
     refine tv 5 (some 25) (v := ?_) (bits 7 55) HT_ HW_ (by kernel_rfl) rfl rfl (fun _ _ _ h => h) (by kernel_rfl) hHeld ?_ ?_; rotate_left; (intro w' hS; have s0 := hS; obtain ⟨q0, q1, q2⟩ := cs3 (Aside0.mk s0); go_simp; with_reducible rfl)
     refine norm_ (a' := ?_) ?_ ?_
     rotate_left
     ·simp only [Act.put, za, zb, zc, i64_w, i32_w]
      rfl
     refine one_ (i := 3) (N := some 23) (bits 7 63) rfl rfl (one_of HT_.out (by kernel_rfl)) (by decide) (fun K hK => ?_)
     refine goes_ Try.func121 (by kernel_rfl) rfl #[.slice A0 l.length c0, .int .i64 (a)] (by rfl) rfl rfl (by (try simp only [List.map_toArray, List.map_cons, List.map_nil]); rfl) ?_
     with_reducible refine cl (spec_SessionSeq.M _ _ l a _ (cb HR0 B) HC0.out) B fun w207 hb B => ?_
     replace F3 := bn F3 hb
     replace RL9 := rn RL9 hb
     clear hb
     refine ⟨_, rfl, ?_⟩
     refine hK.out _ _ F3.out (fun hHeld => ?_)
     clear hK K
     refine norm_ (a' := ?_) ?_ ?_
     rotate_left
     ·show Act.put _ (some 23) _ = _
      simp only [Act.put, za, zb, zc, i64_w, i32_w]
      rfl
     refine pv 6 (some 26) (v := ?_) (bits 7 127) HT_ (by kernel_rfl) rfl rfl (fun _ _ _ h => h) (by kernel_rfl) ?_ ?_; rotate_left; (intro w'; go_simp; with_reducible rfl)
     refine norm_ (a' := ?_) ?_ ?_
     rotate_left
     ·simp only [Act.put, za, zb, zc, i64_w, i32_w]
      rfl
     refine done_ (done_of HT_.out (by kernel_rfl)) ?_)
    all_goals go_wp2_with (first
     | ((with_reducible refine gate_builtin (b := .append) (xs := #[.tmp 27, .tmp 28]) rfl ?_); at_builtin; refine apx k100 100 rfl (.tmp 27) (.tmp 28) 32 (.agg #[.int .i64 (0), .int .i64 (0), .int .i64 (0)]) 24 rfl Try.underlying32 info100 rfl (by decide) (by omega) rfl rfl RL9 (cb HR0 B) (fun x cs h => by rw [k100_open h]; exact k100_mkM _ _ _ x) (by first | omega | (simp only [List.length_nil]; omega)) B ?_; intro z29 hz29 AL29 kL29 w208 hg B RL29 hat; have NB3_L29 := nba hat NB3_L9 F3; replace F3 := bgn F3 hg NB3_L9; clear hg hat))
    have hZ : z29 = l := (by rw [← hz29, List.nil_append])
    clear hz29
    subst hZ
    go_ret2
    exact ⟨_, by rw [hM]; rfl, by rw [hM]; exact RL29.out, B.out⟩
   ·have hM : putB l ⟨a, b, c⟩ = (putL l ⟨a, b, c⟩ false, true) := by unfold putB; rw [if_pos ⟨hv, hone⟩]; exact if_neg hq
    have dq : decide (seqB l a ≥ b) = false := decide_eq_false hq
    rw [hM]
    clear hM
    obtain ⟨r, hr⟩ : ∃ r, putL l (⟨a, b, c⟩ : S100) false = r := ⟨_, rfl⟩
    rw [hr]
    have H := Aside0.mk (show [] ++ putL (l.drop 0) (⟨a, b, c⟩ : S100) false = r from hr)
    clear hr
    go_enter Try.func110, Try.ntmps110
    go_wp2_with (first
     | ((with_reducible refine gate_dst (N := 3) rfl ?_); refine bx ?hg (N := 3) ?hd (cs := #[.int .i64 (a), .int .i64 (b), .int .i64 (c)]) (t := 100) ?hr B ?_; (case hd | hg => rfl); (case hr => go_simp; first | done | rfl); intro g3 w301 hb B F3 L3 E3; obtain ⟨c3_0, c3_1, c3_2⟩ := cs3 F3; clear hb E3)
     | ((with_reducible refine gate_dst (N := 9) rfl ?_); refine lt k100 100 ?hg (N := 9) ?hd ([] : List S100) [] ?hr (Reps.none _ _) (by simp) B ?_; (case hd | hg => rfl); (case hr => go_simp; first | done | rfl); intro z9 hz9 AL9 kL9 w302 hb B RL9 QL9; have NB3_L9 := nb QL9 F3; replace F3 := bn F3 hb; clear c3_0 c3_1 c3_2; obtain ⟨c3_0, c3_1, c3_2⟩ := cs3 F3; clear hb QL9; subst hz9)
     | (go_at_call 49; with_reducible refine cl (spec_SessionsValid.M _ _ l _ (cb HR0 B)) B fun w303 hb B => ?_; replace F3 := bn F3 hb; replace RL9 := rn RL9 hb; clear c3_0 c3_1 c3_2; obtain ⟨c3_0, c3_1, c3_2⟩ := cs3 F3; clear hb)
     | ((with_reducible refine gate_dst (N := 15) rfl ?_); refine ungate ?hw ?_; (case hw => first | (go_simp; done) | rfl); refine lt k100 100 ?hg (N := 15) ?hd ([⟨a, b, c⟩] : List S100) [.int .i64 (a), .int .i64 (b), .int .i64 (c)] ?hr (Reps.c3 (k100_mkM _ _ _ ⟨a, b, c⟩) (Reps.none _ _)) (by simp) B ?_; (case hd | hg => rfl); (case hr => go_simp; first | done | rfl); intro z15 hz15 AL15 kL15 w304 hb B RL15 QL15; have NB3_L15 := nb QL15 F3; replace F3 := bn F3 hb; replace RL9 := rn RL9 hb; clear c3_0 c3_1 c3_2; obtain ⟨c3_0, c3_1, c3_2⟩ := cs3 F3; clear hb QL15)
     | (go_at_call 49; with_reducible refine cl (clv (spec_SessionsValid.M _ _ z15 _ (rc RL15)) (congrArg Value.bool (show sesB z15 = true by rw [← hz15]; exact hone))) B fun w305 hb B => ?_; replace F3 := bn F3 hb; replace RL9 := rn RL9 hb; clear c3_0 c3_1 c3_2; obtain ⟨c3_0, c3_1, c3_2⟩ := cs3 F3; clear hb; clear hz15))
    all_goals (
     refine rg (n := 7) (S := fun W => W.heap[g3]? = some (.cells #[.int .i64 (a), .int .i64 (b), .int .i64 (c)] 100 (0, 0))) (ds := []) #[false, false, false, false, false, false, false] (by kernel_rfl) rfl rfl F3.out id B (fun w306 hb B hHeld => ?_)
     refine with_tabW spec_SessionPut.tab4 spec_SessionPut.bits4 (fun HT_ HW_ => ?_)
     replace F3 := bn F3 hb
     replace RL9 := rn RL9 hb
     clear hb
     refine pv 0 (some 20) (v := ?_) (bits 7 1) HT_ (by kernel_rfl) rfl rfl (fun _ _ _ h => h) (by kernel_rfl) ?_ ?_; rotate_left; (intro w'; go_simp; with_reducible rfl)
     refine pv 1 (some 21) (v := ?_) (bits 7 3) HT_ (by kernel_rfl) rfl rfl (fun _ _ _ h => h) (by kernel_rfl) ?_ ?_; rotate_left; (intro w'; go_simp; with_reducible rfl)
     refine tv 2 (some 22) (v := ?_) (bits 7 7) HT_ HW_ (by kernel_rfl) rfl rfl (fun _ _ _ h => h) (by kernel_rfl) hHeld ?_ ?_; rotate_left; (intro w' hS; have s0 := hS; obtain ⟨q0, q1, q2⟩ := cs3 (Aside0.mk s0); go_simp; with_reducible rfl)
     refine pv 4 (some 24) (v := ?_) (bits 7 23) HT_ (by kernel_rfl) rfl rfl (fun _ _ _ h => h) (by kernel_rfl) ?_ ?_; rotate_left; (intro w'; go_simp; with_reducible rfl)
     refine tv 5 (some 25) (v := ?_) (bits 7 55) HT_ HW_ (by kernel_rfl) rfl rfl (fun _ _ _ h => h) (by kernel_rfl) hHeld ?_ ?_; rotate_left; (intro w' hS; have s0 := hS; obtain ⟨q0, q1, q2⟩ := cs3 (Aside0.mk s0); go_simp; with_reducible rfl)
     refine norm_ (a' := ?_) ?_ ?_
     rotate_left
     ·simp only [Act.put, za, zb, zc, i64_w, i32_w]
      rfl
     refine one_ (i := 3) (N := some 23) (bits 7 63) rfl rfl (one_of HT_.out (by kernel_rfl)) (by decide) (fun K hK => ?_)
     refine goes_ Try.func121 (by kernel_rfl) rfl #[.slice A0 l.length c0, .int .i64 (a)] (by rfl) rfl rfl (by (try simp only [List.map_toArray, List.map_cons, List.map_nil]); rfl) ?_
     with_reducible refine cl (spec_SessionSeq.M _ _ l a _ (cb HR0 B) HC0.out) B fun w307 hb B => ?_
     replace F3 := bn F3 hb
     replace RL9 := rn RL9 hb
     clear hb
     refine ⟨_, rfl, ?_⟩
     refine hK.out _ _ F3.out (fun hHeld => ?_)
     clear hK K
     refine norm_ (a' := ?_) ?_ ?_
     rotate_left
     ·show Act.put _ (some 23) _ = _
      simp only [Act.put, za, zb, zc, i64_w, i32_w]
      rfl
     refine pv 6 (some 26) (v := ?_) (bits 7 127) HT_ (by kernel_rfl) rfl rfl (fun _ _ _ h => h) (by kernel_rfl) ?_ ?_; rotate_left; (intro w'; go_simp; with_reducible rfl)
     refine norm_ (a' := ?_) ?_ ?_
     rotate_left
     ·simp only [Act.put, za, zb, zc, i64_w, i32_w]
      rfl
     refine done_ (done_of HT_.out (by kernel_rfl)) ?_)
    all_goals try go_wp2
    clear dq hq hone ho hv
    (try clear c3_0 c3_1 c3_2)
    go_loopg [6, 7, 8] (l.length + 1) (fun kx v6 v7 v8 wr => ∃ (j : Nat) (p : List S100) (pl : Bool), v8 = .int .i64 (j : Int) ∧ v7 = .bool pl ∧ j ≤ l.length ∧ l.length < j + kx ∧ p.length ≤ 2 * j ∧ Aside0 (Below w.heap.size w wr) ∧ Aside0 (wr.heap[g3]? = some (.cells #[.int .i64 (a), .int .i64 (b), .int .i64 (c)] 100 (0, 0))) ∧ Aside0 (Ow k100 100 wr w.heap.size v6 p) ∧ Aside0 (∀ k_, v6.ownBlock = some k_ → k_ ≠ g3) ∧ Aside0 (p ++ putL (l.drop j) ⟨a, b, c⟩ pl = r))
    case atStart => exact ⟨0, [], false, rfl, rfl, by omega, by omega, by simp, B, F3, RL9, NB3_L9, H⟩
    case round =>
     clear H B F3 RL9 NB3_L9
     obtain ⟨j, p, pl, rfl, rfl, hj, hk, hpl, B, F3, Rp6, NB3_p6, H⟩ := hrel
     obtain ⟨A6, k6, rfl⟩ := Kd.R_slice Rp6.out
     obtain ⟨c3_0, c3_1, c3_2⟩ := cs3 F3
     by_cases hlt : j < l.length
     ·have HS := H.out
      rw [ses_drop hlt, putL_cons] at HS
      clear H
      obtain ⟨d, rfl⟩ : ∃ d, gk = d + 1 := ⟨gk - 1, by omega⟩
      have cj : decide ((j : Int) < (l.length : Int)) = true := decide_eq_true (by omega)
      obtain ⟨ad, hA, y0, y1, y2⟩ := at_T100 (cb HR0 B) (j : Int) (by omega) (by omega)
      cases hA
      rw [Int.toNat_natCast] at y0 y1 y2
      have j1 := eq_true (show (j : Int) < (l.length : Int) by omega)
      have j2 := eq_true hlt
      generalize hy : rd_T100 l (j : Int) = y at *
      cases pl with
      | true =>
       rw [if_neg (by simp)] at HS
       by_cases he : y.f0 = a
       ·have dn : (y.f0 != a) = false := by simp [he]
        have dn2 : decide (y.f0 = a) = true := decide_eq_true he
        rw [if_pos he] at HS
        have HT := Aside0.mk HS
        clear HS
        try go_wp2
        all_goals (
         refine rg (n := 12) (S := fun W => Kd.C k100 W (some ad) l.length l ∧ W.heap[g3]? = some (.cells #[.int .i64 (a), .int .i64 (b), .int .i64 (c)] 100 (0, 0))) (ds := []) #[false, false, false, false, false, false, false, false, false, false, false, false] (by kernel_rfl) rfl rfl ⟨(cb HR0 B), F3.out⟩ id B (fun w501 hb B hHeld => ?_)
         refine with_tabW spec_SessionPut.tab10 spec_SessionPut.bits10 (fun HT_ HW_ => ?_)
         replace F3 := bn F3 hb
         replace Rp6 := rn Rp6 hb
         clear hb
         refine pv 0 (some 36) (v := ?_) (bits 12 1) HT_ (by kernel_rfl) rfl rfl (fun _ _ _ h => h) (by kernel_rfl) ?_ ?_; rotate_left; (intro w'; go_simp; with_reducible rfl)
         refine pv 1 (some 37) (v := ?_) (bits 12 3) HT_ (by kernel_rfl) rfl rfl (fun _ _ _ h => h) (by kernel_rfl) ?_ ?_; rotate_left; (intro w'; go_simp; with_reducible rfl)
         refine pv 2 (some 38) (v := ?_) (bits 12 7) HT_ (by kernel_rfl) rfl rfl (fun _ _ _ h => h) (by kernel_rfl) ?_ ?_; rotate_left; (intro w'; go_simp; with_reducible rfl)
         refine sv 3 (some 39) (bits 12 15) HT_ (by kernel_rfl) rfl rfl (fun _ _ _ h => h) (by kernel_rfl) ?_
         refine sv 4 (some 40) (bits 12 31) HT_ (by kernel_rfl) rfl rfl (fun _ _ _ h => h) (by kernel_rfl) ?_
         refine sv 5 (some 41) (bits 12 63) HT_ (by kernel_rfl) rfl rfl (fun _ _ _ h => h) (by kernel_rfl) ?_
         refine sv 6 (some 42) (bits 12 127) HT_ (by kernel_rfl) rfl rfl (fun _ _ _ h => h) (by kernel_rfl) ?_
         refine sv 7 (some 43) (bits 12 255) HT_ (by kernel_rfl) rfl rfl (fun _ _ _ h => h) (by kernel_rfl) ?_
         refine sv 8 (some 44) (bits 12 511) HT_ (by kernel_rfl) rfl rfl (fun _ _ _ h => h) (by kernel_rfl) ?_
         refine sv 9 (some 45) (bits 12 1023) HT_ (by kernel_rfl) rfl rfl (fun _ _ _ h => h) (by kernel_rfl) ?_
         refine sv 10 (some 46) (bits 12 2047) HT_ (by kernel_rfl) rfl rfl (fun _ _ _ h => h) (by kernel_rfl) ?_
         refine pv 11 (some 47) (v := ?_) (bits 12 4095) HT_ (by kernel_rfl) rfl rfl (fun _ _ _ h => h) (by kernel_rfl) ?_ ?_; rotate_left; (intro w'; go_simp; with_reducible rfl)
         refine norm_ (a' := ?_) ?_ ?_
         rotate_left
         ·simp only [Act.put, za, zb, zc, i64_w, i32_w]
          rfl
         refine done_ (done_of HT_.out (by kernel_rfl)) ?_
         clear c3_0 c3_1 c3_2
         obtain ⟨c3_0, c3_1, c3_2⟩ := cs3 F3)
        all_goals try go_wp2
        all_goals (
         refine rg (n := 8) (S := fun W => Kd.C k100 W (some ad) l.length l ∧ W.heap[g3]? = some (.cells #[.int .i64 (a), .int .i64 (b), .int .i64 (c)] 100 (0, 0))) (ds := []) #[false, false, false, false, false, false, false, false] (by kernel_rfl) rfl rfl ⟨(cb HR0 B), F3.out⟩ id B (fun w502 hb B hHeld => ?_)
         refine with_tabW spec_SessionPut.tab13 spec_SessionPut.bits13 (fun HT_ HW_ => ?_)
         replace F3 := bn F3 hb
         replace Rp6 := rn Rp6 hb
         clear hb
         refine pv 0 (some 52) (v := ?_) (bits 8 1) HT_ (by kernel_rfl) rfl rfl (fun _ _ _ h => h) (by kernel_rfl) ?_ ?_; rotate_left; (intro w'; go_simp; with_reducible rfl)
         refine pv 1 (some 53) (v := ?_) (bits 8 3) HT_ (by kernel_rfl) rfl rfl (fun _ _ _ h => h) (by kernel_rfl) ?_ ?_; rotate_left; (intro w'; go_simp; with_reducible rfl)
         refine pv 2 (some 54) (v := ?_) (bits 8 7) HT_ (by kernel_rfl) rfl rfl (fun _ _ _ h => h) (by kernel_rfl) ?_ ?_; rotate_left; (intro w'; go_simp; with_reducible rfl)
         refine pv 3 (some 55) (v := ?_) (bits 8 15) HT_ (by kernel_rfl) rfl rfl (fun _ _ _ h => h) (by kernel_rfl) ?_ ?_; rotate_left; (intro w'; go_simp; with_reducible rfl)
         refine tv 4 (some 56) (v := ?_) (bits 8 31) HT_ HW_ (by kernel_rfl) rfl rfl (fun _ _ _ h => h) (by kernel_rfl) hHeld ?_ ?_; rotate_left; (intro w' hS; obtain ⟨s0, s1⟩ := hS; obtain ⟨_, hA, q0, q1, q2⟩ := at_T100 s0 (j : Int) (by omega) (by omega); cases hA; rw [Int.toNat_natCast] at q0 q1 q2; rw [hy] at q0 q1 q2; go_simp; with_reducible rfl)
         refine pv 5 (some 57) (v := ?_) (bits 8 63) HT_ (by kernel_rfl) rfl rfl (fun _ _ _ h => h) (by kernel_rfl) ?_ ?_; rotate_left; (intro w'; go_simp; with_reducible rfl)
         refine tv 6 (some 58) (v := ?_) (bits 8 127) HT_ HW_ (by kernel_rfl) rfl rfl (fun _ _ _ h => h) (by kernel_rfl) hHeld ?_ ?_; rotate_left; (intro w' hS; obtain ⟨s0, s1⟩ := hS; obtain ⟨q0, q1, q2⟩ := cs3 (Aside0.mk s1); go_simp; with_reducible rfl)
         refine pv 7 (some 59) (v := ?_) (bits 8 255) HT_ (by kernel_rfl) rfl rfl (fun _ _ _ h => h) (by kernel_rfl) ?_ ?_; rotate_left; (intro w'; go_simp; with_reducible rfl)
         refine norm_ (a' := ?_) ?_ ?_
         rotate_left
         ·simp only [Act.put, za, zb, zc, i64_w, i32_w]
          rfl
         refine done_ (done_of HT_.out (by kernel_rfl)) ?_
         clear y0 y1 y2
         obtain ⟨ad2, hA, y0, y1, y2⟩ := at_T100 (cb HR0 B) (j : Int) (by omega) (by omega)
         cases hA
         rw [Int.toNat_natCast, hy] at y0 y1 y2)
        all_goals try go_wp2
        go_roundg d
        case measure => omega
        case rel => exact ⟨j + 1, p, true, congrArg (Value.int .i64) (Int.natCast_succ _).symm, rfl, by omega, by omega, (by omega), B, F3, Rp6, NB3_p6, ⟨by have HS := HT.out; simp only [List.append_assoc, List.cons_append, List.nil_append, List.append_nil] at HS ⊢; exact HS⟩⟩
       ·have dn : (y.f0 != a) = true := by simp [he]
        have dn2 : decide (y.f0 = a) = false := decide_eq_false he
        rw [if_neg he] at HS
        have HT := Aside0.mk HS
        clear HS
        try go_wp2
        all_goals (
         refine rg (n := 12) (S := fun W => Kd.C k100 W (some ad) l.length l ∧ W.heap[g3]? = some (.cells #[.int .i64 (a), .int .i64 (b), .int .i64 (c)] 100 (0, 0))) (ds := []) #[false, false, false, false, false, false, false, false, false, false, false, false] (by kernel_rfl) rfl rfl ⟨(cb HR0 B), F3.out⟩ id B (fun w601 hb B hHeld => ?_)
         refine with_tabW spec_SessionPut.tab10 spec_SessionPut.bits10 (fun HT_ HW_ => ?_)
         replace F3 := bn F3 hb
         replace Rp6 := rn Rp6 hb
         clear hb
         refine pv 0 (some 36) (v := ?_) (bits 12 1) HT_ (by kernel_rfl) rfl rfl (fun _ _ _ h => h) (by kernel_rfl) ?_ ?_; rotate_left; (intro w'; go_simp; with_reducible rfl)
         refine pv 1 (some 37) (v := ?_) (bits 12 3) HT_ (by kernel_rfl) rfl rfl (fun _ _ _ h => h) (by kernel_rfl) ?_ ?_; rotate_left; (intro w'; go_simp; with_reducible rfl)
         refine pv 2 (some 38) (v := ?_) (bits 12 7) HT_ (by kernel_rfl) rfl rfl (fun _ _ _ h => h) (by kernel_rfl) ?_ ?_; rotate_left; (intro w'; go_simp; with_reducible rfl)
         refine sv 3 (some 39) (bits 12 15) HT_ (by kernel_rfl) rfl rfl (fun _ _ _ h => h) (by kernel_rfl) ?_
         refine sv 4 (some 40) (bits 12 31) HT_ (by kernel_rfl) rfl rfl (fun _ _ _ h => h) (by kernel_rfl) ?_
         refine sv 5 (some 41) (bits 12 63) HT_ (by kernel_rfl) rfl rfl (fun _ _ _ h => h) (by kernel_rfl) ?_
         refine sv 6 (some 42) (bits 12 127) HT_ (by kernel_rfl) rfl rfl (fun _ _ _ h => h) (by kernel_rfl) ?_
         refine sv 7 (some 43) (bits 12 255) HT_ (by kernel_rfl) rfl rfl (fun _ _ _ h => h) (by kernel_rfl) ?_
         refine sv 8 (some 44) (bits 12 511) HT_ (by kernel_rfl) rfl rfl (fun _ _ _ h => h) (by kernel_rfl) ?_
         refine sv 9 (some 45) (bits 12 1023) HT_ (by kernel_rfl) rfl rfl (fun _ _ _ h => h) (by kernel_rfl) ?_
         refine sv 10 (some 46) (bits 12 2047) HT_ (by kernel_rfl) rfl rfl (fun _ _ _ h => h) (by kernel_rfl) ?_
         refine pv 11 (some 47) (v := ?_) (bits 12 4095) HT_ (by kernel_rfl) rfl rfl (fun _ _ _ h => h) (by kernel_rfl) ?_ ?_; rotate_left; (intro w'; go_simp; with_reducible rfl)
         refine norm_ (a' := ?_) ?_ ?_
         rotate_left
         ·simp only [Act.put, za, zb, zc, i64_w, i32_w]
          rfl
         refine done_ (done_of HT_.out (by kernel_rfl)) ?_
         clear c3_0 c3_1 c3_2
         obtain ⟨c3_0, c3_1, c3_2⟩ := cs3 F3)
        all_goals try go_wp2
        all_goals (
         refine rg (n := 8) (S := fun W => Kd.C k100 W (some ad) l.length l ∧ W.heap[g3]? = some (.cells #[.int .i64 (a), .int .i64 (b), .int .i64 (c)] 100 (0, 0))) (ds := []) #[false, false, false, false, false, false, false, false] (by kernel_rfl) rfl rfl ⟨(cb HR0 B), F3.out⟩ id B (fun w602 hb B hHeld => ?_)
         refine with_tabW spec_SessionPut.tab13 spec_SessionPut.bits13 (fun HT_ HW_ => ?_)
         replace F3 := bn F3 hb
         replace Rp6 := rn Rp6 hb
         clear hb
         refine pv 0 (some 52) (v := ?_) (bits 8 1) HT_ (by kernel_rfl) rfl rfl (fun _ _ _ h => h) (by kernel_rfl) ?_ ?_; rotate_left; (intro w'; go_simp; with_reducible rfl)
         refine pv 1 (some 53) (v := ?_) (bits 8 3) HT_ (by kernel_rfl) rfl rfl (fun _ _ _ h => h) (by kernel_rfl) ?_ ?_; rotate_left; (intro w'; go_simp; with_reducible rfl)
         refine pv 2 (some 54) (v := ?_) (bits 8 7) HT_ (by kernel_rfl) rfl rfl (fun _ _ _ h => h) (by kernel_rfl) ?_ ?_; rotate_left; (intro w'; go_simp; with_reducible rfl)
         refine pv 3 (some 55) (v := ?_) (bits 8 15) HT_ (by kernel_rfl) rfl rfl (fun _ _ _ h => h) (by kernel_rfl) ?_ ?_; rotate_left; (intro w'; go_simp; with_reducible rfl)
         refine tv 4 (some 56) (v := ?_) (bits 8 31) HT_ HW_ (by kernel_rfl) rfl rfl (fun _ _ _ h => h) (by kernel_rfl) hHeld ?_ ?_; rotate_left; (intro w' hS; obtain ⟨s0, s1⟩ := hS; obtain ⟨_, hA, q0, q1, q2⟩ := at_T100 s0 (j : Int) (by omega) (by omega); cases hA; rw [Int.toNat_natCast] at q0 q1 q2; rw [hy] at q0 q1 q2; go_simp; with_reducible rfl)
         refine pv 5 (some 57) (v := ?_) (bits 8 63) HT_ (by kernel_rfl) rfl rfl (fun _ _ _ h => h) (by kernel_rfl) ?_ ?_; rotate_left; (intro w'; go_simp; with_reducible rfl)
         refine tv 6 (some 58) (v := ?_) (bits 8 127) HT_ HW_ (by kernel_rfl) rfl rfl (fun _ _ _ h => h) (by kernel_rfl) hHeld ?_ ?_; rotate_left; (intro w' hS; obtain ⟨s0, s1⟩ := hS; obtain ⟨q0, q1, q2⟩ := cs3 (Aside0.mk s1); go_simp; with_reducible rfl)
         refine pv 7 (some 59) (v := ?_) (bits 8 255) HT_ (by kernel_rfl) rfl rfl (fun _ _ _ h => h) (by kernel_rfl) ?_ ?_; rotate_left; (intro w'; go_simp; with_reducible rfl)
         refine norm_ (a' := ?_) ?_ ?_
         rotate_left
         ·simp only [Act.put, za, zb, zc, i64_w, i32_w]
          rfl
         refine done_ (done_of HT_.out (by kernel_rfl)) ?_
         clear y0 y1 y2
         obtain ⟨ad2, hA, y0, y1, y2⟩ := at_T100 (cb HR0 B) (j : Int) (by omega) (by omega)
         cases hA
         rw [Int.toNat_natCast, hy] at y0 y1 y2)
        all_goals go_wp2_with (first
         | ((with_reducible refine gate_dst (N := 65) rfl ?_); refine lt k100 100 ?hg (N := 65) ?hd ([⟨y.f0, y.f1, y.f2⟩] : List S100) [.int .i64 (y.f0), .int .i64 (y.f1), .int .i64 (y.f2)] ?hr (Reps.c3 (k100_mkM _ _ _ ⟨y.f0, y.f1, y.f2⟩) (Reps.none _ _)) (by simp) B ?_; (case hd | hg => rfl); (case hr => go_simp; first | done | rfl); intro z65 hz65 AL65 kL65 w603 hb B RL65 QL65; have NB3_L65 := nb QL65 F3; replace F3 := bn F3 hb; replace Rp6 := rn Rp6 hb; clear hb QL65)
         | ((with_reducible refine gate_builtin (b := .append) (xs := #[.tmp 60, .tmp 65]) rfl ?_); at_builtin; refine apx k100 100 rfl (.tmp 60) (.tmp 65) 32 (.agg #[.int .i64 (0), .int .i64 (0), .int .i64 (0)]) 24 rfl Try.underlying32 info100 rfl (by decide) (by omega) rfl rfl Rp6 (rc RL65) (fun x cs h => by rw [k100_open h]; exact k100_mkM _ _ _ x) (by rw [← hz65]; simp only [List.length_append, List.length_cons, List.length_nil]; omega) B ?_; intro z66 hz66 AL66 kL66 w604 hg B RL66 hat; have NB3_L66 := nba hat NB3_p6 F3; replace F3 := bgn F3 hg NB3_p6; clear hg hat; subst hz65))
        go_roundg d
        case measure => omega
        case rel => exact ⟨j + 1, z66, true, congrArg (Value.int .i64) (Int.natCast_succ _).symm, rfl, by omega, by omega, (by rw [← hz66]; simp only [List.length_append, List.length_cons, List.length_nil]; omega), B, F3, RL66, NB3_L66, ⟨by rw [← hz66]; have HS := HT.out; simp only [List.append_assoc, List.cons_append, List.nil_append, List.append_nil] at HS ⊢; exact HS⟩⟩
      | false =>
       by_cases hge : a ≤ y.f0
       ·have dg : decide (y.f0 ≥ a) = true := decide_eq_true hge
        rw [if_pos ⟨rfl, hge⟩] at HS
        by_cases he : y.f0 = a
        ·have dn : (y.f0 != a) = false := by simp [he]
         have dn2 : decide (y.f0 = a) = true := decide_eq_true he
         rw [if_pos he] at HS
         have HT := Aside0.mk HS
         clear HS
         try go_wp2
         all_goals (
          refine rg (n := 12) (S := fun W => Kd.C k100 W (some ad) l.length l ∧ W.heap[g3]? = some (.cells #[.int .i64 (a), .int .i64 (b), .int .i64 (c)] 100 (0, 0))) (ds := []) #[false, false, false, false, false, false, false, false, false, false, false, false] (by kernel_rfl) rfl rfl ⟨(cb HR0 B), F3.out⟩ id B (fun w701 hb B hHeld => ?_)
          refine with_tabW spec_SessionPut.tab10 spec_SessionPut.bits10 (fun HT_ HW_ => ?_)
          replace F3 := bn F3 hb
          replace Rp6 := rn Rp6 hb
          clear hb
          refine pv 0 (some 36) (v := ?_) (bits 12 1) HT_ (by kernel_rfl) rfl rfl (fun _ _ _ h => h) (by kernel_rfl) ?_ ?_; rotate_left; (intro w'; go_simp; with_reducible rfl)
          refine pv 1 (some 37) (v := ?_) (bits 12 3) HT_ (by kernel_rfl) rfl rfl (fun _ _ _ h => h) (by kernel_rfl) ?_ ?_; rotate_left; (intro w'; go_simp; with_reducible rfl)
          refine pv 2 (some 38) (v := ?_) (bits 12 7) HT_ (by kernel_rfl) rfl rfl (fun _ _ _ h => h) (by kernel_rfl) ?_ ?_; rotate_left; (intro w'; go_simp; with_reducible rfl)
          refine pv 3 (some 39) (v := ?_) (bits 12 15) HT_ (by kernel_rfl) rfl rfl (fun _ _ _ h => h) (by kernel_rfl) ?_ ?_; rotate_left; (intro w'; go_simp; with_reducible rfl)
          refine pv 4 (some 40) (v := ?_) (bits 12 31) HT_ (by kernel_rfl) rfl rfl (fun _ _ _ h => h) (by kernel_rfl) ?_ ?_; rotate_left; (intro w'; go_simp; with_reducible rfl)
          refine pv 5 (some 41) (v := ?_) (bits 12 63) HT_ (by kernel_rfl) rfl rfl (fun _ _ _ h => h) (by kernel_rfl) ?_ ?_; rotate_left; (intro w'; go_simp; with_reducible rfl)
          refine pv 6 (some 42) (v := ?_) (bits 12 127) HT_ (by kernel_rfl) rfl rfl (fun _ _ _ h => h) (by kernel_rfl) ?_ ?_; rotate_left; (intro w'; go_simp; with_reducible rfl)
          refine tv 7 (some 43) (v := ?_) (bits 12 255) HT_ HW_ (by kernel_rfl) rfl rfl (fun _ _ _ h => h) (by kernel_rfl) hHeld ?_ ?_; rotate_left; (intro w' hS; obtain ⟨s0, s1⟩ := hS; obtain ⟨_, hA, q0, q1, q2⟩ := at_T100 s0 (j : Int) (by omega) (by omega); cases hA; rw [Int.toNat_natCast] at q0 q1 q2; rw [hy] at q0 q1 q2; go_simp; with_reducible rfl)
          refine pv 8 (some 44) (v := ?_) (bits 12 511) HT_ (by kernel_rfl) rfl rfl (fun _ _ _ h => h) (by kernel_rfl) ?_ ?_; rotate_left; (intro w'; go_simp; with_reducible rfl)
          refine tv 9 (some 45) (v := ?_) (bits 12 1023) HT_ HW_ (by kernel_rfl) rfl rfl (fun _ _ _ h => h) (by kernel_rfl) hHeld ?_ ?_; rotate_left; (intro w' hS; obtain ⟨s0, s1⟩ := hS; obtain ⟨q0, q1, q2⟩ := cs3 (Aside0.mk s1); go_simp; with_reducible rfl)
          refine pv 10 (some 46) (v := ?_) (bits 12 2047) HT_ (by kernel_rfl) rfl rfl (fun _ _ _ h => h) (by kernel_rfl) ?_ ?_; rotate_left; (intro w'; go_simp; with_reducible rfl)
          refine pv 11 (some 47) (v := ?_) (bits 12 4095) HT_ (by kernel_rfl) rfl rfl (fun _ _ _ h => h) (by kernel_rfl) ?_ ?_; rotate_left; (intro w'; go_simp; with_reducible rfl)
          refine norm_ (a' := ?_) ?_ ?_
          rotate_left
          ·simp only [Act.put, za, zb, zc, i64_w, i32_w]
           rfl
          refine done_ (done_of HT_.out (by kernel_rfl)) ?_
          clear c3_0 c3_1 c3_2
          obtain ⟨c3_0, c3_1, c3_2⟩ := cs3 F3)
         all_goals go_wp2_with (first
          | ((with_reducible refine gate_dst (N := 50) rfl ?_); refine lt k100 100 ?hg (N := 50) ?hd ([⟨a, b, c⟩] : List S100) [.int .i64 (a), .int .i64 (b), .int .i64 (c)] ?hr (Reps.c3 (k100_mkM _ _ _ ⟨a, b, c⟩) (Reps.none _ _)) (by simp) B ?_; (case hd | hg => rfl); (case hr => go_simp; first | done | rfl); intro z50 hz50 AL50 kL50 w702 hb B RL50 QL50; have NB3_L50 := nb QL50 F3; replace F3 := bn F3 hb; replace Rp6 := rn Rp6 hb; clear c3_0 c3_1 c3_2; obtain ⟨c3_0, c3_1, c3_2⟩ := cs3 F3; clear hb QL50)
          | ((with_reducible refine gate_builtin (b := .append) (xs := #[.tmp 48, .tmp 50]) rfl ?_); at_builtin; refine apx k100 100 rfl (.tmp 48) (.tmp 50) 32 (.agg #[.int .i64 (0), .int .i64 (0), .int .i64 (0)]) 24 rfl Try.underlying32 info100 rfl (by decide) (by omega) rfl rfl Rp6 (rc RL50) (fun x cs h => by rw [k100_open h]; exact k100_mkM _ _ _ x) (by rw [← hz50]; simp only [List.length_cons, List.length_nil]; omega) B ?_; intro z51 hz51 AL51 kL51 w703 hg B RL51 hat; have NB3_L51 := nba hat NB3_p6 F3; replace F3 := bgn F3 hg NB3_p6; clear c3_0 c3_1 c3_2; obtain ⟨c3_0, c3_1, c3_2⟩ := cs3 F3; clear hg hat; subst hz50))
         all_goals (
          refine rg (n := 8) (S := fun W => Kd.C k100 W (some ad) l.length l ∧ W.heap[g3]? = some (.cells #[.int .i64 (a), .int .i64 (b), .int .i64 (c)] 100 (0, 0))) (ds := []) #[false, false, false, false, false, false, false, false] (by kernel_rfl) rfl rfl ⟨(cb HR0 B), F3.out⟩ id B (fun w704 hb B hHeld => ?_)
          refine with_tabW spec_SessionPut.tab13 spec_SessionPut.bits13 (fun HT_ HW_ => ?_)
          replace F3 := bn F3 hb
          replace RL51 := rn RL51 hb
          clear hb
          refine pv 0 (some 52) (v := ?_) (bits 8 1) HT_ (by kernel_rfl) rfl rfl (fun _ _ _ h => h) (by kernel_rfl) ?_ ?_; rotate_left; (intro w'; go_simp; with_reducible rfl)
          refine pv 1 (some 53) (v := ?_) (bits 8 3) HT_ (by kernel_rfl) rfl rfl (fun _ _ _ h => h) (by kernel_rfl) ?_ ?_; rotate_left; (intro w'; go_simp; with_reducible rfl)
          refine pv 2 (some 54) (v := ?_) (bits 8 7) HT_ (by kernel_rfl) rfl rfl (fun _ _ _ h => h) (by kernel_rfl) ?_ ?_; rotate_left; (intro w'; go_simp; with_reducible rfl)
          refine pv 3 (some 55) (v := ?_) (bits 8 15) HT_ (by kernel_rfl) rfl rfl (fun _ _ _ h => h) (by kernel_rfl) ?_ ?_; rotate_left; (intro w'; go_simp; with_reducible rfl)
          refine tv 4 (some 56) (v := ?_) (bits 8 31) HT_ HW_ (by kernel_rfl) rfl rfl (fun _ _ _ h => h) (by kernel_rfl) hHeld ?_ ?_; rotate_left; (intro w' hS; obtain ⟨s0, s1⟩ := hS; obtain ⟨_, hA, q0, q1, q2⟩ := at_T100 s0 (j : Int) (by omega) (by omega); cases hA; rw [Int.toNat_natCast] at q0 q1 q2; rw [hy] at q0 q1 q2; go_simp; with_reducible rfl)
          refine pv 5 (some 57) (v := ?_) (bits 8 63) HT_ (by kernel_rfl) rfl rfl (fun _ _ _ h => h) (by kernel_rfl) ?_ ?_; rotate_left; (intro w'; go_simp; with_reducible rfl)
          refine tv 6 (some 58) (v := ?_) (bits 8 127) HT_ HW_ (by kernel_rfl) rfl rfl (fun _ _ _ h => h) (by kernel_rfl) hHeld ?_ ?_; rotate_left; (intro w' hS; obtain ⟨s0, s1⟩ := hS; obtain ⟨q0, q1, q2⟩ := cs3 (Aside0.mk s1); go_simp; with_reducible rfl)
          refine pv 7 (some 59) (v := ?_) (bits 8 255) HT_ (by kernel_rfl) rfl rfl (fun _ _ _ h => h) (by kernel_rfl) ?_ ?_; rotate_left; (intro w'; go_simp; with_reducible rfl)
          refine norm_ (a' := ?_) ?_ ?_
          rotate_left
          ·simp only [Act.put, za, zb, zc, i64_w, i32_w]
           rfl
          refine done_ (done_of HT_.out (by kernel_rfl)) ?_
          clear y0 y1 y2
          obtain ⟨ad2, hA, y0, y1, y2⟩ := at_T100 (cb HR0 B) (j : Int) (by omega) (by omega)
          cases hA
          rw [Int.toNat_natCast, hy] at y0 y1 y2)
         all_goals try go_wp2
         go_roundg d
         case measure => omega
         case rel => exact ⟨j + 1, z51, true, congrArg (Value.int .i64) (Int.natCast_succ _).symm, rfl, by omega, by omega, (by rw [← hz51]; simp only [List.length_append, List.length_cons, List.length_nil]; omega), B, F3, RL51, NB3_L51, ⟨by rw [← hz51]; have HS := HT.out; simp only [List.append_assoc, List.cons_append, List.nil_append, List.append_nil] at HS ⊢; exact HS⟩⟩
        ·have dn : (y.f0 != a) = true := by simp [he]
         have dn2 : decide (y.f0 = a) = false := decide_eq_false he
         rw [if_neg he] at HS
         have HT := Aside0.mk HS
         clear HS
         try go_wp2
         all_goals (
          refine rg (n := 12) (S := fun W => Kd.C k100 W (some ad) l.length l ∧ W.heap[g3]? = some (.cells #[.int .i64 (a), .int .i64 (b), .int .i64 (c)] 100 (0, 0))) (ds := []) #[false, false, false, false, false, false, false, false, false, false, false, false] (by kernel_rfl) rfl rfl ⟨(cb HR0 B), F3.out⟩ id B (fun w801 hb B hHeld => ?_)
          refine with_tabW spec_SessionPut.tab10 spec_SessionPut.bits10 (fun HT_ HW_ => ?_)
          replace F3 := bn F3 hb
          replace Rp6 := rn Rp6 hb
          clear hb
          refine pv 0 (some 36) (v := ?_) (bits 12 1) HT_ (by kernel_rfl) rfl rfl (fun _ _ _ h => h) (by kernel_rfl) ?_ ?_; rotate_left; (intro w'; go_simp; with_reducible rfl)
          refine pv 1 (some 37) (v := ?_) (bits 12 3) HT_ (by kernel_rfl) rfl rfl (fun _ _ _ h => h) (by kernel_rfl) ?_ ?_; rotate_left; (intro w'; go_simp; with_reducible rfl)
          refine pv 2 (some 38) (v := ?_) (bits 12 7) HT_ (by kernel_rfl) rfl rfl (fun _ _ _ h => h) (by kernel_rfl) ?_ ?_; rotate_left; (intro w'; go_simp; with_reducible rfl)
          refine pv 3 (some 39) (v := ?_) (bits 12 15) HT_ (by kernel_rfl) rfl rfl (fun _ _ _ h => h) (by kernel_rfl) ?_ ?_; rotate_left; (intro w'; go_simp; with_reducible rfl)
          refine pv 4 (some 40) (v := ?_) (bits 12 31) HT_ (by kernel_rfl) rfl rfl (fun _ _ _ h => h) (by kernel_rfl) ?_ ?_; rotate_left; (intro w'; go_simp; with_reducible rfl)
          refine pv 5 (some 41) (v := ?_) (bits 12 63) HT_ (by kernel_rfl) rfl rfl (fun _ _ _ h => h) (by kernel_rfl) ?_ ?_; rotate_left; (intro w'; go_simp; with_reducible rfl)
          refine pv 6 (some 42) (v := ?_) (bits 12 127) HT_ (by kernel_rfl) rfl rfl (fun _ _ _ h => h) (by kernel_rfl) ?_ ?_; rotate_left; (intro w'; go_simp; with_reducible rfl)
          refine tv 7 (some 43) (v := ?_) (bits 12 255) HT_ HW_ (by kernel_rfl) rfl rfl (fun _ _ _ h => h) (by kernel_rfl) hHeld ?_ ?_; rotate_left; (intro w' hS; obtain ⟨s0, s1⟩ := hS; obtain ⟨_, hA, q0, q1, q2⟩ := at_T100 s0 (j : Int) (by omega) (by omega); cases hA; rw [Int.toNat_natCast] at q0 q1 q2; rw [hy] at q0 q1 q2; go_simp; with_reducible rfl)
          refine pv 8 (some 44) (v := ?_) (bits 12 511) HT_ (by kernel_rfl) rfl rfl (fun _ _ _ h => h) (by kernel_rfl) ?_ ?_; rotate_left; (intro w'; go_simp; with_reducible rfl)
          refine tv 9 (some 45) (v := ?_) (bits 12 1023) HT_ HW_ (by kernel_rfl) rfl rfl (fun _ _ _ h => h) (by kernel_rfl) hHeld ?_ ?_; rotate_left; (intro w' hS; obtain ⟨s0, s1⟩ := hS; obtain ⟨q0, q1, q2⟩ := cs3 (Aside0.mk s1); go_simp; with_reducible rfl)
          refine pv 10 (some 46) (v := ?_) (bits 12 2047) HT_ (by kernel_rfl) rfl rfl (fun _ _ _ h => h) (by kernel_rfl) ?_ ?_; rotate_left; (intro w'; go_simp; with_reducible rfl)
          refine pv 11 (some 47) (v := ?_) (bits 12 4095) HT_ (by kernel_rfl) rfl rfl (fun _ _ _ h => h) (by kernel_rfl) ?_ ?_; rotate_left; (intro w'; go_simp; with_reducible rfl)
          refine norm_ (a' := ?_) ?_ ?_
          rotate_left
          ·simp only [Act.put, za, zb, zc, i64_w, i32_w]
           rfl
          refine done_ (done_of HT_.out (by kernel_rfl)) ?_
          clear c3_0 c3_1 c3_2
          obtain ⟨c3_0, c3_1, c3_2⟩ := cs3 F3)
         all_goals go_wp2_with (first
          | ((with_reducible refine gate_dst (N := 50) rfl ?_); refine lt k100 100 ?hg (N := 50) ?hd ([⟨a, b, c⟩] : List S100) [.int .i64 (a), .int .i64 (b), .int .i64 (c)] ?hr (Reps.c3 (k100_mkM _ _ _ ⟨a, b, c⟩) (Reps.none _ _)) (by simp) B ?_; (case hd | hg => rfl); (case hr => go_simp; first | done | rfl); intro z50 hz50 AL50 kL50 w802 hb B RL50 QL50; have NB3_L50 := nb QL50 F3; replace F3 := bn F3 hb; replace Rp6 := rn Rp6 hb; clear c3_0 c3_1 c3_2; obtain ⟨c3_0, c3_1, c3_2⟩ := cs3 F3; clear hb QL50)
          | ((with_reducible refine gate_builtin (b := .append) (xs := #[.tmp 48, .tmp 50]) rfl ?_); at_builtin; refine apx k100 100 rfl (.tmp 48) (.tmp 50) 32 (.agg #[.int .i64 (0), .int .i64 (0), .int .i64 (0)]) 24 rfl Try.underlying32 info100 rfl (by decide) (by omega) rfl rfl Rp6 (rc RL50) (fun x cs h => by rw [k100_open h]; exact k100_mkM _ _ _ x) (by rw [← hz50]; simp only [List.length_cons, List.length_nil]; omega) B ?_; intro z51 hz51 AL51 kL51 w803 hg B RL51 hat; have NB3_L51 := nba hat NB3_p6 F3; replace F3 := bgn F3 hg NB3_p6; clear c3_0 c3_1 c3_2; obtain ⟨c3_0, c3_1, c3_2⟩ := cs3 F3; clear hg hat; subst hz50))
         all_goals (
          refine rg (n := 8) (S := fun W => Kd.C k100 W (some ad) l.length l ∧ W.heap[g3]? = some (.cells #[.int .i64 (a), .int .i64 (b), .int .i64 (c)] 100 (0, 0))) (ds := []) #[false, false, false, false, false, false, false, false] (by kernel_rfl) rfl rfl ⟨(cb HR0 B), F3.out⟩ id B (fun w804 hb B hHeld => ?_)
          refine with_tabW spec_SessionPut.tab13 spec_SessionPut.bits13 (fun HT_ HW_ => ?_)
          replace F3 := bn F3 hb
          replace RL51 := rn RL51 hb
          clear hb
          refine pv 0 (some 52) (v := ?_) (bits 8 1) HT_ (by kernel_rfl) rfl rfl (fun _ _ _ h => h) (by kernel_rfl) ?_ ?_; rotate_left; (intro w'; go_simp; with_reducible rfl)
          refine pv 1 (some 53) (v := ?_) (bits 8 3) HT_ (by kernel_rfl) rfl rfl (fun _ _ _ h => h) (by kernel_rfl) ?_ ?_; rotate_left; (intro w'; go_simp; with_reducible rfl)
          refine pv 2 (some 54) (v := ?_) (bits 8 7) HT_ (by kernel_rfl) rfl rfl (fun _ _ _ h => h) (by kernel_rfl) ?_ ?_; rotate_left; (intro w'; go_simp; with_reducible rfl)
          refine pv 3 (some 55) (v := ?_) (bits 8 15) HT_ (by kernel_rfl) rfl rfl (fun _ _ _ h => h) (by kernel_rfl) ?_ ?_; rotate_left; (intro w'; go_simp; with_reducible rfl)
          refine tv 4 (some 56) (v := ?_) (bits 8 31) HT_ HW_ (by kernel_rfl) rfl rfl (fun _ _ _ h => h) (by kernel_rfl) hHeld ?_ ?_; rotate_left; (intro w' hS; obtain ⟨s0, s1⟩ := hS; obtain ⟨_, hA, q0, q1, q2⟩ := at_T100 s0 (j : Int) (by omega) (by omega); cases hA; rw [Int.toNat_natCast] at q0 q1 q2; rw [hy] at q0 q1 q2; go_simp; with_reducible rfl)
          refine pv 5 (some 57) (v := ?_) (bits 8 63) HT_ (by kernel_rfl) rfl rfl (fun _ _ _ h => h) (by kernel_rfl) ?_ ?_; rotate_left; (intro w'; go_simp; with_reducible rfl)
          refine tv 6 (some 58) (v := ?_) (bits 8 127) HT_ HW_ (by kernel_rfl) rfl rfl (fun _ _ _ h => h) (by kernel_rfl) hHeld ?_ ?_; rotate_left; (intro w' hS; obtain ⟨s0, s1⟩ := hS; obtain ⟨q0, q1, q2⟩ := cs3 (Aside0.mk s1); go_simp; with_reducible rfl)
          refine pv 7 (some 59) (v := ?_) (bits 8 255) HT_ (by kernel_rfl) rfl rfl (fun _ _ _ h => h) (by kernel_rfl) ?_ ?_; rotate_left; (intro w'; go_simp; with_reducible rfl)
          refine norm_ (a' := ?_) ?_ ?_
          rotate_left
          ·simp only [Act.put, za, zb, zc, i64_w, i32_w]
           rfl
          refine done_ (done_of HT_.out (by kernel_rfl)) ?_
          clear y0 y1 y2
          obtain ⟨ad2, hA, y0, y1, y2⟩ := at_T100 (cb HR0 B) (j : Int) (by omega) (by omega)
          cases hA
          rw [Int.toNat_natCast, hy] at y0 y1 y2)
         all_goals go_wp2_with (first
          | ((with_reducible refine gate_dst (N := 65) rfl ?_); refine lt k100 100 ?hg (N := 65) ?hd ([⟨y.f0, y.f1, y.f2⟩] : List S100) [.int .i64 (y.f0), .int .i64 (y.f1), .int .i64 (y.f2)] ?hr (Reps.c3 (k100_mkM _ _ _ ⟨y.f0, y.f1, y.f2⟩) (Reps.none _ _)) (by simp) B ?_; (case hd | hg => rfl); (case hr => go_simp; first | done | rfl); intro z65 hz65 AL65 kL65 w805 hb B RL65 QL65; have NB3_L65 := nb QL65 F3; replace F3 := bn F3 hb; replace RL51 := rn RL51 hb; clear hb QL65)
          | ((with_reducible refine gate_builtin (b := .append) (xs := #[.tmp 60, .tmp 65]) rfl ?_); at_builtin; refine apx k100 100 rfl (.tmp 60) (.tmp 65) 32 (.agg #[.int .i64 (0), .int .i64 (0), .int .i64 (0)]) 24 rfl Try.underlying32 info100 rfl (by decide) (by omega) rfl rfl RL51 (rc RL65) (fun x cs h => by rw [k100_open h]; exact k100_mkM _ _ _ x) (by rw [← hz65, ← hz51]; simp only [List.length_append, List.length_cons, List.length_nil]; omega) B ?_; intro z66 hz66 AL66 kL66 w806 hg B RL66 hat; have NB3_L66 := nba hat NB3_L51 F3; replace F3 := bgn F3 hg NB3_L51; clear hg hat; subst hz65))
         go_roundg d
         case measure => omega
         case rel => exact ⟨j + 1, z66, true, congrArg (Value.int .i64) (Int.natCast_succ _).symm, rfl, by omega, by omega, (by rw [← hz66, ← hz51]; simp only [List.length_append, List.length_cons, List.length_nil]; omega), B, F3, RL66, NB3_L66, ⟨by rw [← hz66, ← hz51]; have HS := HT.out; simp only [List.append_assoc, List.cons_append, List.nil_append, List.append_nil] at HS ⊢; exact HS⟩⟩
       ·have dg : decide (y.f0 ≥ a) = false := decide_eq_false hge
        rw [if_neg (fun h => hge h.2)] at HS
        have he : ¬ y.f0 = a := fun h => hge (by omega)
        have dn : (y.f0 != a) = true := by simp [he]
        have dn2 : decide (y.f0 = a) = false := decide_eq_false he
        rw [if_neg he] at HS
        have HT := Aside0.mk HS
        clear HS
        try go_wp2
        all_goals (
         refine rg (n := 12) (S := fun W => Kd.C k100 W (some ad) l.length l ∧ W.heap[g3]? = some (.cells #[.int .i64 (a), .int .i64 (b), .int .i64 (c)] 100 (0, 0))) (ds := []) #[false, false, false, false, false, false, false, false, false, false, false, false] (by kernel_rfl) rfl rfl ⟨(cb HR0 B), F3.out⟩ id B (fun w901 hb B hHeld => ?_)
         refine with_tabW spec_SessionPut.tab10 spec_SessionPut.bits10 (fun HT_ HW_ => ?_)
         replace F3 := bn F3 hb
         replace Rp6 := rn Rp6 hb
         clear hb
         refine pv 0 (some 36) (v := ?_) (bits 12 1) HT_ (by kernel_rfl) rfl rfl (fun _ _ _ h => h) (by kernel_rfl) ?_ ?_; rotate_left; (intro w'; go_simp; with_reducible rfl)
         refine pv 1 (some 37) (v := ?_) (bits 12 3) HT_ (by kernel_rfl) rfl rfl (fun _ _ _ h => h) (by kernel_rfl) ?_ ?_; rotate_left; (intro w'; go_simp; with_reducible rfl)
         refine pv 2 (some 38) (v := ?_) (bits 12 7) HT_ (by kernel_rfl) rfl rfl (fun _ _ _ h => h) (by kernel_rfl) ?_ ?_; rotate_left; (intro w'; go_simp; with_reducible rfl)
         refine pv 3 (some 39) (v := ?_) (bits 12 15) HT_ (by kernel_rfl) rfl rfl (fun _ _ _ h => h) (by kernel_rfl) ?_ ?_; rotate_left; (intro w'; go_simp; with_reducible rfl)
         refine pv 4 (some 40) (v := ?_) (bits 12 31) HT_ (by kernel_rfl) rfl rfl (fun _ _ _ h => h) (by kernel_rfl) ?_ ?_; rotate_left; (intro w'; go_simp; with_reducible rfl)
         refine pv 5 (some 41) (v := ?_) (bits 12 63) HT_ (by kernel_rfl) rfl rfl (fun _ _ _ h => h) (by kernel_rfl) ?_ ?_; rotate_left; (intro w'; go_simp; with_reducible rfl)
         refine pv 6 (some 42) (v := ?_) (bits 12 127) HT_ (by kernel_rfl) rfl rfl (fun _ _ _ h => h) (by kernel_rfl) ?_ ?_; rotate_left; (intro w'; go_simp; with_reducible rfl)
         refine tv 7 (some 43) (v := ?_) (bits 12 255) HT_ HW_ (by kernel_rfl) rfl rfl (fun _ _ _ h => h) (by kernel_rfl) hHeld ?_ ?_; rotate_left; (intro w' hS; obtain ⟨s0, s1⟩ := hS; obtain ⟨_, hA, q0, q1, q2⟩ := at_T100 s0 (j : Int) (by omega) (by omega); cases hA; rw [Int.toNat_natCast] at q0 q1 q2; rw [hy] at q0 q1 q2; go_simp; with_reducible rfl)
         refine pv 8 (some 44) (v := ?_) (bits 12 511) HT_ (by kernel_rfl) rfl rfl (fun _ _ _ h => h) (by kernel_rfl) ?_ ?_; rotate_left; (intro w'; go_simp; with_reducible rfl)
         refine tv 9 (some 45) (v := ?_) (bits 12 1023) HT_ HW_ (by kernel_rfl) rfl rfl (fun _ _ _ h => h) (by kernel_rfl) hHeld ?_ ?_; rotate_left; (intro w' hS; obtain ⟨s0, s1⟩ := hS; obtain ⟨q0, q1, q2⟩ := cs3 (Aside0.mk s1); go_simp; with_reducible rfl)
         refine pv 10 (some 46) (v := ?_) (bits 12 2047) HT_ (by kernel_rfl) rfl rfl (fun _ _ _ h => h) (by kernel_rfl) ?_ ?_; rotate_left; (intro w'; go_simp; with_reducible rfl)
         refine pv 11 (some 47) (v := ?_) (bits 12 4095) HT_ (by kernel_rfl) rfl rfl (fun _ _ _ h => h) (by kernel_rfl) ?_ ?_; rotate_left; (intro w'; go_simp; with_reducible rfl)
         refine norm_ (a' := ?_) ?_ ?_
         rotate_left
         ·simp only [Act.put, za, zb, zc, i64_w, i32_w]
          rfl
         refine done_ (done_of HT_.out (by kernel_rfl)) ?_
         clear c3_0 c3_1 c3_2
         obtain ⟨c3_0, c3_1, c3_2⟩ := cs3 F3)
        all_goals try go_wp2
        all_goals (
         refine rg (n := 8) (S := fun W => Kd.C k100 W (some ad) l.length l ∧ W.heap[g3]? = some (.cells #[.int .i64 (a), .int .i64 (b), .int .i64 (c)] 100 (0, 0))) (ds := []) #[false, false, false, false, false, false, false, false] (by kernel_rfl) rfl rfl ⟨(cb HR0 B), F3.out⟩ id B (fun w902 hb B hHeld => ?_)
         refine with_tabW spec_SessionPut.tab13 spec_SessionPut.bits13 (fun HT_ HW_ => ?_)
         replace F3 := bn F3 hb
         replace Rp6 := rn Rp6 hb
         clear hb
         refine pv 0 (some 52) (v := ?_) (bits 8 1) HT_ (by kernel_rfl) rfl rfl (fun _ _ _ h => h) (by kernel_rfl) ?_ ?_; rotate_left; (intro w'; go_simp; with_reducible rfl)
         refine pv 1 (some 53) (v := ?_) (bits 8 3) HT_ (by kernel_rfl) rfl rfl (fun _ _ _ h => h) (by kernel_rfl) ?_ ?_; rotate_left; (intro w'; go_simp; with_reducible rfl)
         refine pv 2 (some 54) (v := ?_) (bits 8 7) HT_ (by kernel_rfl) rfl rfl (fun _ _ _ h => h) (by kernel_rfl) ?_ ?_; rotate_left; (intro w'; go_simp; with_reducible rfl)
         refine pv 3 (some 55) (v := ?_) (bits 8 15) HT_ (by kernel_rfl) rfl rfl (fun _ _ _ h => h) (by kernel_rfl) ?_ ?_; rotate_left; (intro w'; go_simp; with_reducible rfl)
         refine tv 4 (some 56) (v := ?_) (bits 8 31) HT_ HW_ (by kernel_rfl) rfl rfl (fun _ _ _ h => h) (by kernel_rfl) hHeld ?_ ?_; rotate_left; (intro w' hS; obtain ⟨s0, s1⟩ := hS; obtain ⟨_, hA, q0, q1, q2⟩ := at_T100 s0 (j : Int) (by omega) (by omega); cases hA; rw [Int.toNat_natCast] at q0 q1 q2; rw [hy] at q0 q1 q2; go_simp; with_reducible rfl)
         refine pv 5 (some 57) (v := ?_) (bits 8 63) HT_ (by kernel_rfl) rfl rfl (fun _ _ _ h => h) (by kernel_rfl) ?_ ?_; rotate_left; (intro w'; go_simp; with_reducible rfl)
         refine tv 6 (some 58) (v := ?_) (bits 8 127) HT_ HW_ (by kernel_rfl) rfl rfl (fun _ _ _ h => h) (by kernel_rfl) hHeld ?_ ?_; rotate_left; (intro w' hS; obtain ⟨s0, s1⟩ := hS; obtain ⟨q0, q1, q2⟩ := cs3 (Aside0.mk s1); go_simp; with_reducible rfl)
         refine pv 7 (some 59) (v := ?_) (bits 8 255) HT_ (by kernel_rfl) rfl rfl (fun _ _ _ h => h) (by kernel_rfl) ?_ ?_; rotate_left; (intro w'; go_simp; with_reducible rfl)
         refine norm_ (a' := ?_) ?_ ?_
         rotate_left
         ·simp only [Act.put, za, zb, zc, i64_w, i32_w]
          rfl
         refine done_ (done_of HT_.out (by kernel_rfl)) ?_
         clear y0 y1 y2
         obtain ⟨ad2, hA, y0, y1, y2⟩ := at_T100 (cb HR0 B) (j : Int) (by omega) (by omega)
         cases hA
         rw [Int.toNat_natCast, hy] at y0 y1 y2)
        all_goals go_wp2_with (first
         | ((with_reducible refine gate_dst (N := 65) rfl ?_); refine lt k100 100 ?hg (N := 65) ?hd ([⟨y.f0, y.f1, y.f2⟩] : List S100) [.int .i64 (y.f0), .int .i64 (y.f1), .int .i64 (y.f2)] ?hr (Reps.c3 (k100_mkM _ _ _ ⟨y.f0, y.f1, y.f2⟩) (Reps.none _ _)) (by simp) B ?_; (case hd | hg => rfl); (case hr => go_simp; first | done | rfl); intro z65 hz65 AL65 kL65 w903 hb B RL65 QL65; have NB3_L65 := nb QL65 F3; replace F3 := bn F3 hb; replace Rp6 := rn Rp6 hb; clear hb QL65)
         | ((with_reducible refine gate_builtin (b := .append) (xs := #[.tmp 60, .tmp 65]) rfl ?_); at_builtin; refine apx k100 100 rfl (.tmp 60) (.tmp 65) 32 (.agg #[.int .i64 (0), .int .i64 (0), .int .i64 (0)]) 24 rfl Try.underlying32 info100 rfl (by decide) (by omega) rfl rfl Rp6 (rc RL65) (fun x cs h => by rw [k100_open h]; exact k100_mkM _ _ _ x) (by rw [← hz65]; simp only [List.length_append, List.length_cons, List.length_nil]; omega) B ?_; intro z66 hz66 AL66 kL66 w904 hg B RL66 hat; have NB3_L66 := nba hat NB3_p6 F3; replace F3 := bgn F3 hg NB3_p6; clear hg hat; subst hz65))
        go_roundg d
        case measure => omega
        case rel => exact ⟨j + 1, z66, false, congrArg (Value.int .i64) (Int.natCast_succ _).symm, rfl, by omega, by omega, (by rw [← hz66]; simp only [List.length_append, List.length_cons, List.length_nil]; omega), B, F3, RL66, NB3_L66, ⟨by rw [← hz66]; have HS := HT.out; simp only [List.append_assoc, List.cons_append, List.nil_append, List.append_nil] at HS ⊢; exact HS⟩⟩
     ·have cj : decide ((j : Int) < (l.length : Int)) = false := decide_eq_false (by omega)
      have hr := H.out
      rw [List.drop_of_length_le (by omega)] at hr
      cases pl with
      | true =>
       rw [show putL ([] : List S100) ⟨a, b, c⟩ true = [] from rfl, List.append_nil] at hr
       subst hr
       go_wp2
       go_ret2
       exact ⟨_, rfl, Rp6.out, B.out⟩
      | false =>
       rw [show putL ([] : List S100) ⟨a, b, c⟩ false = [⟨a, b, c⟩] from rfl] at hr
       subst hr
       go_wp2_with (first
        | ((with_reducible refine gate_dst (N := 71) rfl ?_); refine lt k100 100 ?hg (N := 71) ?hd ([⟨a, b, c⟩] : List S100) [.int .i64 (a), .int .i64 (b), .int .i64 (c)] ?hr (Reps.c3 (k100_mkM _ _ _ ⟨a, b, c⟩) (Reps.none _ _)) (by simp) B ?_; (case hd | hg => rfl); (case hr => go_simp; first | done | rfl); intro z71 hz71 AL71 kL71 w1201 hb B RL71 QL71; have NB3_L71 := nb QL71 F3; replace F3 := bn F3 hb; replace Rp6 := rn Rp6 hb; clear hb QL71)
        | ((with_reducible refine gate_builtin (b := .append) (xs := #[.tmp 69, .tmp 71]) rfl ?_); at_builtin; refine apx k100 100 rfl (.tmp 69) (.tmp 71) 32 (.agg #[.int .i64 (0), .int .i64 (0), .int .i64 (0)]) 24 rfl Try.underlying32 info100 rfl (by decide) (by omega) rfl rfl Rp6 (rc RL71) (fun x cs h => by rw [k100_open h]; exact k100_mkM _ _ _ x) (by rw [← hz71]; simp only [List.length_cons, List.length_nil]; omega) B ?_; intro z72 hz72 AL72 kL72 w1202 hg B RL72 hat; have NB3_L72 := nba hat NB3_p6 F3; replace F3 := bgn F3 hg NB3_p6; clear hg hat; subst hz71))
       go_ret2
       exact ⟨_, rfl, by rw [hz72]; exact RL72.out, B.out⟩
  | false =>
   have hone : sesB [(⟨a, b, c⟩ : S100)] = false := by rw [sesOne]; exact ho
   have hM : putB l ⟨a, b, c⟩ = ([], false) := put_bad (.inr hone)
   go_enter Try.func110, Try.ntmps110
   go_wp2_with (first
    | ((with_reducible refine gate_dst (N := 3) rfl ?_); refine bx ?hg (N := 3) ?hd (cs := #[.int .i64 (a), .int .i64 (b), .int .i64 (c)]) (t := 100) ?hr B ?_; (case hd | hg => rfl); (case hr => go_simp; first | done | rfl); intro g3 w101 hb B F3 L3 E3; obtain ⟨c3_0, c3_1, c3_2⟩ := cs3 F3; clear hb E3)
    | ((with_reducible refine gate_dst (N := 9) rfl ?_); refine lt k100 100 ?hg (N := 9) ?hd ([] : List S100) [] ?hr (Reps.none _ _) (by simp) B ?_; (case hd | hg => rfl); (case hr => go_simp; first | done | rfl); intro z9 hz9 AL9 kL9 w102 hb B RL9 QL9; have NB3_L9 := nb QL9 F3; replace F3 := bn F3 hb; clear c3_0 c3_1 c3_2; obtain ⟨c3_0, c3_1, c3_2⟩ := cs3 F3; clear hb QL9; subst hz9)
    | (go_at_call 49; with_reducible refine cl (spec_SessionsValid.M _ _ l _ (cb HR0 B)) B fun w103 hb B => ?_; replace F3 := bn F3 hb; replace RL9 := rn RL9 hb; clear c3_0 c3_1 c3_2; obtain ⟨c3_0, c3_1, c3_2⟩ := cs3 F3; clear hb)
    | ((with_reducible refine gate_dst (N := 15) rfl ?_); refine ungate ?hw ?_; (case hw => first | (go_simp; done) | rfl); refine lt k100 100 ?hg (N := 15) ?hd ([⟨a, b, c⟩] : List S100) [.int .i64 (a), .int .i64 (b), .int .i64 (c)] ?hr (Reps.c3 (k100_mkM _ _ _ ⟨a, b, c⟩) (Reps.none _ _)) (by simp) B ?_; (case hd | hg => rfl); (case hr => go_simp; first | done | rfl); intro z15 hz15 AL15 kL15 w104 hb B RL15 QL15; have NB3_L15 := nb QL15 F3; replace F3 := bn F3 hb; replace RL9 := rn RL9 hb; clear hb QL15)
    | (go_at_call 49; with_reducible refine cl (clv (spec_SessionsValid.M _ _ z15 _ (rc RL15)) (congrArg Value.bool (show sesB z15 = false by rw [← hz15]; exact hone))) B fun w105 hb B => ?_; replace F3 := bn F3 hb; replace RL9 := rn RL9 hb; clear hb; clear hz15))
   go_ret2; exact ⟨_, by rw [hM]; rfl, by rw [hM]; exact RL9.out, B.out⟩
 ·replace hv := Bool.eq_false_iff.mpr hv
  have hM : putB l ⟨a, b, c⟩ = ([], false) := put_bad (.inl hv)
  have hone := hv
  go_enter Try.func110, Try.ntmps110
  go_wp2_with (first
   | ((with_reducible refine gate_dst (N := 3) rfl ?_); refine bx ?hg (N := 3) ?hd (cs := #[.int .i64 (a), .int .i64 (b), .int .i64 (c)]) (t := 100) ?hr B ?_; (case hd | hg => rfl); (case hr => go_simp; first | done | rfl); intro g3 w1 hb B F3 L3 E3; obtain ⟨c3_0, c3_1, c3_2⟩ := cs3 F3; clear hb E3)
   | ((with_reducible refine gate_dst (N := 9) rfl ?_); refine lt k100 100 ?hg (N := 9) ?hd ([] : List S100) [] ?hr (Reps.none _ _) (by simp) B ?_; (case hd | hg => rfl); (case hr => go_simp; first | done | rfl); intro z9 hz9 AL9 kL9 w2 hb B RL9 QL9; have NB3_L9 := nb QL9 F3; replace F3 := bn F3 hb; clear c3_0 c3_1 c3_2; obtain ⟨c3_0, c3_1, c3_2⟩ := cs3 F3; clear hb QL9; subst hz9)
   | (go_at_call 49; with_reducible refine cl (spec_SessionsValid.M _ _ l _ (cb HR0 B)) B fun w3 hb B => ?_; replace F3 := bn F3 hb; replace RL9 := rn RL9 hb; clear c3_0 c3_1 c3_2; obtain ⟨c3_0, c3_1, c3_2⟩ := cs3 F3; clear hb)
   | ((with_reducible refine gate_dst (N := 15) rfl ?_); refine ungate ?hw ?_; (case hw => first | (go_simp; done) | rfl); refine lt k100 100 ?hg (N := 15) ?hd ([⟨a, b, c⟩] : List S100) [.int .i64 (a), .int .i64 (b), .int .i64 (c)] ?hr (Reps.c3 (k100_mkM _ _ _ ⟨a, b, c⟩) (Reps.none _ _)) (by simp) B ?_; (case hd | hg => rfl); (case hr => go_simp; first | done | rfl); intro z15 hz15 AL15 kL15 w4 hb B RL15 QL15; have NB3_L15 := nb QL15 F3; replace F3 := bn F3 hb; replace RL9 := rn RL9 hb; clear hb QL15)
   | (go_at_call 49; with_reducible refine cl (clv (spec_SessionsValid.M _ _ z15 _ (rc RL15)) (congrArg Value.bool (show sesB z15 = false by rw [← hz15]; exact hone))) B fun w5 hb B => ?_; replace F3 := bn F3 hb; replace RL9 := rn RL9 hb; clear hb; clear hz15))
  go_ret2; exact ⟨_, by rw [hM]; rfl, by rw [hM]; exact RL9.out, B.out⟩

theorem spec_l20Session.D (n : Int) (hn : n ≤ 1000000) (w W0 : World) (g : Nat) (bs : List Int) (p : Int) (hI : IsS119 w W0 g bs p) (hB : Below w.heap.size w W0) (hc : Dw.Code bs) (h0 : 0 ≤ p) (h1 : p ≤ 1099505000000) :
  Calls Try.prog 117 #[.pointer (some ⟨g, 0, none⟩), .int .i64 n] W0 fun e w' => ∃ x y u p', e = .returned (.agg #[.int .i64 x, .int .i64 y, .int .i64 u]) ∧ (True) ∧ Left w W0 g bs p 5 p' w' := by
 have hu := Try.underlying100
 have B := Aside0.mk hB
 have HI := Aside0.mk hI
 have HC := Aside0.mk hc
 have KK := Aside0.mk (Kept.refl W0 (RB g))
 clear hB hI hc
 go_enter Try.func117, Try.ntmps117
 go_wp2_with (first
  | ((with_reducible refine gate_dst (N := 4) rfl ?_); refine bx ?hg (N := 4) ?hd (cs := #[.int .i64 (0), .int .i64 (0), .int .i64 (0)]) (t := 100) ?hr B ?_; (case hd | hg => rfl); (case hr => go_simp; first | done | rfl); intro g4 w1 hb B F4 L4 E4; have M4 := mbx E4 KK; replace HI := hib HI hb; replace KK := kkb KK hb; clear hb E4)
  | (go_at_call 99; (with_reducible refine cg1 (spec_l20Rd_odd.D n (by omega) w _ g bs p HI.out B.out HC.out (by omega) (by omega)) fun x2 p2 hx2 hp2 w2 hk B HI2 => ?_); replace F4 := bkr F4 HI (by decide) hk; replace KK := kkr KK hk; replace HI := HI2; clear hk; skip)
  | ((with_reducible refine gate_dst (N := 14) rfl ?_); refine lt k100 100 ?hg (N := 14) ?hd ([⟨-1, 1, 0⟩, ⟨4, 1, 0⟩, ⟨1, 0, 0⟩, ⟨1, 1000, 0⟩, ⟨1, 1, -3⟩, ⟨1, 1, 1000⟩] : List S100) [.int .i64 (-1), .int .i64 (1), .int .i64 (0), .int .i64 (4), .int .i64 (1), .int .i64 (0), .int .i64 (1), .int .i64 (0), .int .i64 (0), .int .i64 (1), .int .i64 (1000), .int .i64 (0), .int .i64 (1), .int .i64 (1), .int .i64 (-3), .int .i64 (1), .int .i64 (1), .int .i64 (1000)] ?hr (Reps.c3 (k100_mkM _ _ _ ⟨-1, 1, 0⟩) (Reps.c3 (k100_mkM _ _ _ ⟨4, 1, 0⟩) (Reps.c3 (k100_mkM _ _ _ ⟨1, 0, 0⟩) (Reps.c3 (k100_mkM _ _ _ ⟨1, 1000, 0⟩) (Reps.c3 (k100_mkM _ _ _ ⟨1, 1, -3⟩) (Reps.c3 (k100_mkM _ _ _ ⟨1, 1, 1000⟩) (Reps.none _ _))))))) (by simp) B ?_; (case hd | hg => rfl); (case hr => go_simp; first | done | rfl); intro z14 hz14 AL14 kL14 w51 hb B RL14 QL14; have NB4_L14 := nb QL14 F4; have MRL14 := mrf QL14 KK; replace F4 := bn F4 hb; replace HI := hib HI hb; replace KK := kkb KK hb; clear hb QL14)
  | (go_at_call 79; (with_reducible refine cg1 (spec_l20Rd_pick.D 6 w _ g bs p2 HI.out B.out HC.out (by omega) (by omega)) fun x52 p52 hx52 hp52 w52 hk B HI2 => ?_); replace F4 := bkr F4 HI (by decide) hk; replace RL14 := rkr RL14 HI (by decide) hk; replace KK := kkr KK hk; replace HI := HI2; clear hk; skip; have hi52 : x52 < (z14.length : Int) := (by rw [← hz14]; have := hx52.2.1 (by omega); simpa using this); obtain ⟨ad52, hA52, y52_0, y52_1, y52_2⟩ := at_T100 (rc RL14) x52 hx52.1 hi52; have hj52 := hx52.1; generalize rd_T100 z14 x52 = y52 at *; cases hA52; have j52 := eq_true hj52; have i52 := eq_true hi52)
  | ((with_reducible refine gate_store (t := 100) (p := 4) rfl ?_); obtain ⟨y0, y1, y2, z0, z1, z2⟩ := cz3 F4; refine sx (t := 100) (t' := 100) (p := 4) (v := ?vo53) ?hg ?ho ?hn 0 [.int .i64 (y52.f0), .int .i64 (y52.f1), .int .i64 (y52.f2)] [.int .i64 (y52.f0), .int .i64 (y52.f1), .int .i64 (y52.f2)] ?hr B F4 L4 rfl (Nat.le_of_ble_eq_true rfl) ?_; (case ho | hg | hn => rfl); (case hr => go_simp; first | done | rfl); intro w53 hk B G; replace RL14 := rkn RL14 hk NB4_L14; replace HI := his HI F4 (by decide) hk; replace KK := kks KK M4 hk; replace F4 := G; clear hk y0 z0 y1 z1 y2 z2)
  | (go_at_call 79; (with_reducible refine cg1 (spec_l20Rd_pick.D 4 w _ g bs p2 HI.out B.out HC.out (by omega) (by omega)) fun x101 p101 hx101 hp101 w101 hk B HI2 => ?_); replace F4 := bkr F4 HI (by decide) hk; replace KK := kkr KK hk; replace HI := HI2; clear hk; skip)
  | (go_at_call 79; (with_reducible refine cg1 (spec_l20Rd_pick.D 6 w _ g bs p101 HI.out B.out HC.out (by omega) (by omega)) fun x102 p102 hx102 hp102 w102 hk B HI2 => ?_); replace F4 := bkr F4 HI (by decide) hk; replace KK := kkr KK hk; replace HI := HI2; clear hk; skip)
  | (go_at_call 79; (with_reducible refine cg1 (spec_l20Rd_pick.D 9 w _ g bs p102 HI.out B.out HC.out (by omega) (by omega)) fun x103 p103 hx103 hp103 w103 hk B HI2 => ?_); replace F4 := bkr F4 HI (by decide) hk; replace KK := kkr KK hk; replace HI := HI2; clear hk; skip)
  | ((with_reducible refine gate_store (t := 100) (p := 4) rfl ?_); obtain ⟨y0, y1, y2, z0, z1, z2⟩ := cz3 F4; refine sx (t := 100) (t' := 100) (p := 4) (v := ?vo104) ?hg ?ho ?hn 0 [.int .i64 (x101), .int .i64 (1 + x102), .int .i64 (x103 + -2)] [.int .i64 (x101), .int .i64 (1 + x102), .int .i64 (x103 + -2)] ?hr B F4 L4 rfl (Nat.le_of_ble_eq_true rfl) ?_; (case ho | hg | hn => rfl); (case hr => go_simp; first | done | rfl); intro w104 hk B G; replace HI := his HI F4 (by decide) hk; replace KK := kks KK M4 hk; replace F4 := G; clear hk y0 z0 y1 z1 y2 z2))
 all_goals (refine bodyPost_ret (results_single rfl (.cell g4 100 _ (0, 0) _ rfl F4.out hu rfl (by kernel_rfl) .nil)) rfl ?_)
 all_goals exact ⟨_, _, _, _, rfl, trivial, ⟨by omega, by omega⟩, HI.out, B.out, KK.out⟩
theorem spec_l20Sessions.D (n : Int) (hn : n ≤ 1000000) (w W0 : World) (g : Nat) (bs : List Int) (p : Int) (hI : IsS119 w W0 g bs p) (hB : Below w.heap.size w W0) (hc : Dw.Code bs) (h0 : 0 ≤ p) (h1 : p ≤ 1099500000000) :
  Calls Try.prog 98 #[.pointer (some ⟨g, 0, none⟩), .int .i64 n] W0 fun e w' => ∃ v0 xs p', e = .returned (v0) ∧ (xs.length ≤ 300) ∧ Kd.R k100 100 w' w.heap.size (fun _ => True) v0 xs ∧ Fr W0 v0 ∧ Left w W0 g bs p 70 p' w' := by
 have hu := Try.underlying100
 have B := Aside0.mk hB
 have HI := Aside0.mk hI
 have HC := Aside0.mk hc
 have KK := Aside0.mk (Kept.refl W0 (RB g))
 clear hB hI hc
 go_enter Try.func98, Try.ntmps98
 go_wp2_with (first
  | ((with_reducible refine gate_dst (N := 9) rfl ?_); refine lt k100 100 ?hg (N := 9) ?hd ([] : List S100) [] ?hr (Reps.none _ _) (by simp) B ?_; (case hd | hg => rfl); (case hr => go_simp; first | done | rfl); intro z9 hz9 AL9 kL9 w1 hb B RL9 QL9; have MRL9 := mrf QL9 KK; replace HI := hib HI hb; replace KK := kkb KK hb; clear hb QL9; subst hz9)
  | (go_at_call 79; (with_reducible refine cg1 (spec_l20Rd_pick.D 5 w _ g bs p HI.out B.out HC.out (by omega) (by omega)) fun x2 p2 hx2 hp2 w2 hk B HI2 => ?_); replace RL9 := rkr RL9 HI (by decide) hk; replace KK := kkr KK hk; replace HI := HI2; clear hk; skip))
 have hx1 := hx2.1
 have hx2 := hx2.2.1 (by omega)
 obtain ⟨m0, rfl⟩ : ∃ m : Nat, x2 = (m : Int) := ⟨x2.toNat, by omega⟩
 go_loopg [5, 6] (m0 + 1) (fun kx v5 v6 wr => ∃ (m : Nat) (xs : List S100) (pp : Int), v6 = .int .i64 (m : Int) ∧ m < kx ∧ m ≤ 4 ∧ xs.length + m ≤ 4 ∧ (p ≤ pp ∧ pp + 5 * (m : Int) ≤ p + 30) ∧ Aside0 (IsS119 w wr g bs pp) ∧ Aside0 (Kept W0 wr (RB g)) ∧ Aside0 (Below w.heap.size w wr) ∧ Aside0 (Ow k100 100 wr w.heap.size v5 xs) ∧ Aside0 (Fr W0 v5))
 case atStart => exact ⟨m0, [], _, rfl, by omega, by omega, by simp only [List.length_nil]; omega, by omega, HI, KK, B, RL9, MRL9⟩
 case round =>
  clear HI KK B RL9 MRL9
  obtain ⟨m, xs, pp, rfl, hm, hm8, hxl, hpp, HI, KK, B, Rp5, MRp5⟩ := hrel
  obtain ⟨A5, k5, rfl⟩ := Kd.R_slice Rp5.out
  by_cases hm0 : 0 < m
  ·obtain ⟨d, rfl⟩ : ∃ d, gk = d + 1 := ⟨gk - 1, by omega⟩
   have cj : decide ((0 : Int) < (m : Int)) = true := decide_eq_true (by omega)
   go_wp2_with (first
    | (go_at_call 117; (with_reducible refine cg3 (spec_l20Session.D 0 (by omega) w _ g bs pp HI.out B.out HC.out (by omega) (by omega)) fun x301 y301 u301 p301 hx301 hp301 w301 hk B HI2 => ?_); replace Rp5 := rkr Rp5 HI (by decide) hk; replace KK := kkr KK hk; replace HI := HI2; clear hk; skip)
    | (go_at_call 110; with_reducible refine crz (spec_SessionPut.M _ _ xs x301 y301 u301 _ (rc Rp5) (rl Rp5)) B fun zU302 hzU302 AU302 kU302 w302 hb B RU302 QU302 => ?_; have MRU302 := mrf QU302 KK; replace Rp5 := rn Rp5 hb; replace HI := hib HI hb; replace KK := kkb KK hb; clear QU302; clear hb))
   go_roundg d
   case measure => omega
   case rel => exact ⟨m - 1, zU302, _, congrArg (Value.int .i64) (by omega), by omega, by omega, by rw [← hzU302]; have := putB_length xs ⟨x301, y301, u301⟩; omega, by omega, HI, KK, B, RU302, MRU302⟩
  ·have cj : decide ((0 : Int) < (m : Int)) = false := decide_eq_false (by omega)
   go_wp2_with (first
    | (go_at_call 99; (with_reducible refine cg1 (spec_l20Rd_odd.D n (by omega) w _ g bs pp HI.out B.out HC.out (by omega) (by omega)) fun x501 p501 hx501 hp501 w501 hk B HI2 => ?_); replace Rp5 := rkr Rp5 HI (by decide) hk; replace KK := kkr KK hk; replace HI := HI2; clear hk; skip)
    | (go_at_call 79; (with_reducible refine cg1 (spec_l20Rd_pick.D 2 w _ g bs p501 HI.out B.out HC.out (by omega) (by omega)) fun x601 p601 hx601 hp601 w601 hk B HI2 => ?_); replace Rp5 := rkr Rp5 HI (by decide) hk; replace KK := kkr KK hk; replace HI := HI2; clear hk; skip)
    | ((with_reducible refine gate_builtin (b := .append) (xs := #[.tmp 30, .tmp 31]) rfl ?_); at_builtin; refine apx k100 100 rfl (.tmp 30) (.tmp 31) 32 (.agg #[.int .i64 (0), .int .i64 (0), .int .i64 (0)]) 24 rfl Try.underlying32 info100 rfl (by decide) (by omega) rfl rfl Rp5 (rc Rp5) (fun x cs h => by rw [k100_open h]; exact k100_mkM _ _ _ x) (by omega) B ?_; intro z32 hz32 AL32 kL32 w701 hg B RL32 hat; replace HI := hig HI Rp5 (by decide) hg; have MRL32 := mra hat MRp5 KK; replace KK := kkg KK MRp5 hg; clear hg hat)
    | (go_at_call 117; (with_reducible refine cg3 (spec_l20Session.D 1 (by omega) w _ g bs p601 HI.out B.out HC.out (by omega) (by omega)) fun x801 y801 u801 p801 hx801 hp801 w801 hk B HI2 => ?_); replace Rp5 := rkr Rp5 HI (by decide) hk; replace KK := kkr KK hk; replace HI := HI2; clear hk; skip)
    | ((with_reducible refine gate_dst (N := 36) rfl ?_); refine lt k100 100 ?hg (N := 36) ?hd ([⟨x801, y801, u801⟩] : List S100) [.int .i64 (x801), .int .i64 (y801), .int .i64 (u801)] ?hr (Reps.c3 (k100_mkM _ _ _ ⟨x801, y801, u801⟩) (Reps.none _ _)) (by simp) B ?_; (case hd | hg => rfl); (case hr => go_simp; first | done | rfl); intro z36 hz36 AL36 kL36 w802 hb B RL36 QL36; have MRL36 := mrf QL36 KK; replace Rp5 := rn Rp5 hb; replace HI := hib HI hb; replace KK := kkb KK hb; clear hb QL36)
    | ((with_reducible refine gate_builtin (b := .append) (xs := #[.tmp 33, .tmp 36]) rfl ?_); at_builtin; refine apx k100 100 rfl (.tmp 33) (.tmp 36) 32 (.agg #[.int .i64 (0), .int .i64 (0), .int .i64 (0)]) 24 rfl Try.underlying32 info100 rfl (by decide) (by omega) rfl rfl Rp5 (rc RL36) (fun x cs h => by rw [k100_open h]; exact k100_mkM _ _ _ x) (by rw [← hz36]; simp only [List.length_cons, List.length_nil]; omega) B ?_; intro z37 hz37 AL37 kL37 w803 hg B RL37 hat; replace HI := hig HI Rp5 (by decide) hg; have MRL37 := mra hat MRp5 KK; replace KK := kkg KK MRp5 hg; clear hg hat))
   all_goals go_ret
   all_goals first
    | exact ⟨_, _, _, rfl, by omega, Rp5.out, MRp5.out, ⟨by omega, by omega⟩, HI.out, B.out, KK.out⟩
    | exact ⟨_, _, _, rfl, by rw [← hz32]; simp only [List.length_append]; omega, RL32.out, MRL32.out, ⟨by omega, by omega⟩, HI.out, B.out, KK.out⟩
    | exact ⟨_, _, _, rfl, by rw [← hz37, ← hz36]; simp only [List.length_append, List.length_cons, List.length_nil]; omega, RL37.out, MRL37.out, ⟨by omega, by omega⟩, HI.out, B.out, KK.out⟩

theorem spec_l20Span.D (n : Int) (hn : n ≤ 1000000) (w W0 : World) (g : Nat) (bs : List Int) (p : Int) (hI : IsS119 w W0 g bs p) (hB : Below w.heap.size w W0) (hc : Dw.Code bs) (h0 : 0 ≤ p) (h1 : p ≤ 1099505000000) :
  Calls Try.prog 77 #[.pointer (some ⟨g, 0, none⟩), .int .i64 n] W0 fun e w' => ∃ x y p', e = .returned (.agg #[.string x, .string y]) ∧ (True) ∧ Left w W0 g bs p 20 p' w' := by
 have hu := Try.underlying30
 have B := Aside0.mk hB
 have HI := Aside0.mk hI
 have HC := Aside0.mk hc
 have KK := Aside0.mk (Kept.refl W0 (RB g))
 clear hB hI hc
 go_enter Try.func77, Try.ntmps77
 go_wp2_with (first
  | ((with_reducible refine gate_dst (N := 4) rfl ?_); refine bx ?hg (N := 4) ?hd (cs := #[.string (⟨#[]⟩ : ByteArray), .string (⟨#[]⟩ : ByteArray)]) (t := 30) ?hr B ?_; (case hd | hg => rfl); (case hr => go_simp; first | done | rfl); intro g4 w1 hb B F4 L4 E4; have M4 := mbx E4 KK; replace HI := hib HI hb; replace KK := kkb KK hb; clear hb E4)
  | (go_at_call 99; (with_reducible refine cg1 (spec_l20Rd_odd.D n (by omega) w _ g bs p HI.out B.out HC.out (by omega) (by omega)) fun x2 p2 hx2 hp2 w2 hk B HI2 => ?_); replace F4 := bkr F4 HI (by decide) hk; replace KK := kkr KK hk; replace HI := HI2; clear hk; skip)
  | ((with_reducible refine gate_dst (N := 15) rfl ?_); refine lt k30 30 ?hg (N := 15) ?hd ([⟨(⟨#[98]⟩ : ByteArray), (⟨#[98]⟩ : ByteArray)⟩, ⟨(⟨#[99]⟩ : ByteArray), (⟨#[98]⟩ : ByteArray)⟩, ⟨(⟨#[]⟩ : ByteArray), (⟨#[97]⟩ : ByteArray)⟩, ⟨(⟨#[65]⟩ : ByteArray), (⟨#[]⟩ : ByteArray)⟩, ⟨(⟨#[]⟩ : ByteArray), (⟨#[97, 98, 99, 100, 101]⟩ : ByteArray)⟩] : List S30) [.string (⟨#[98]⟩ : ByteArray), .string (⟨#[98]⟩ : ByteArray), .string (⟨#[99]⟩ : ByteArray), .string (⟨#[98]⟩ : ByteArray), .string (⟨#[]⟩ : ByteArray), .string (⟨#[97]⟩ : ByteArray), .string (⟨#[65]⟩ : ByteArray), .string (⟨#[]⟩ : ByteArray), .string (⟨#[]⟩ : ByteArray), .string (⟨#[97, 98, 99, 100, 101]⟩ : ByteArray)] ?hr (Reps.c2 (k30_mkM _ _ _ ⟨(⟨#[98]⟩ : ByteArray), (⟨#[98]⟩ : ByteArray)⟩) (Reps.c2 (k30_mkM _ _ _ ⟨(⟨#[99]⟩ : ByteArray), (⟨#[98]⟩ : ByteArray)⟩) (Reps.c2 (k30_mkM _ _ _ ⟨(⟨#[]⟩ : ByteArray), (⟨#[97]⟩ : ByteArray)⟩) (Reps.c2 (k30_mkM _ _ _ ⟨(⟨#[65]⟩ : ByteArray), (⟨#[]⟩ : ByteArray)⟩) (Reps.c2 (k30_mkM _ _ _ ⟨(⟨#[]⟩ : ByteArray), (⟨#[97, 98, 99, 100, 101]⟩ : ByteArray)⟩) (Reps.none _ _)))))) (by simp) B ?_; (case hd | hg => rfl); (case hr => go_simp; first | done | rfl); intro z15 hz15 AL15 kL15 w51 hb B RL15 QL15; have NB4_L15 := nb QL15 F4; have MRL15 := mrf QL15 KK; replace F4 := bn F4 hb; replace HI := hib HI hb; replace KK := kkb KK hb; clear hb QL15)
  | (go_at_call 79; (with_reducible refine cg1 (spec_l20Rd_pick.D 5 w _ g bs p2 HI.out B.out HC.out (by omega) (by omega)) fun x52 p52 hx52 hp52 w52 hk B HI2 => ?_); replace F4 := bkr F4 HI (by decide) hk; replace RL15 := rkr RL15 HI (by decide) hk; replace KK := kkr KK hk; replace HI := HI2; clear hk; skip; have hi52 : x52 < (z15.length : Int) := (by rw [← hz15]; have := hx52.2.1 (by omega); simpa using this); obtain ⟨ad52, hA52, y52_0, y52_1⟩ := at_T30 (rc RL15) x52 hx52.1 hi52; have hj52 := hx52.1; generalize rd_T30 z15 x52 = y52 at *; cases hA52; have j52 := eq_true hj52; have i52 := eq_true hi52)
  | ((with_reducible refine gate_store (t := 30) (p := 4) rfl ?_); obtain ⟨y0, y1, z0, z1⟩ := cz2 F4; refine sx (t := 30) (t' := 30) (p := 4) (v := ?vo53) ?hg ?ho ?hn 0 [.string y52.f0, .string y52.f1] [.string y52.f0, .string y52.f1] ?hr B F4 L4 rfl (Nat.le_of_ble_eq_true rfl) ?_; (case ho | hg | hn => rfl); (case hr => go_simp; first | done | rfl); intro w53 hk B G; replace RL15 := rkn RL15 hk NB4_L15; replace HI := his HI F4 (by decide) hk; replace KK := kks KK M4 hk; replace F4 := G; clear hk y0 z0 y1 z1)
  | (go_at_call 78; (with_reducible refine cg1 (spec_l20Key.D 0 (by omega) w _ g bs p2 HI.out B.out HC.out (by omega) (by omega)) fun x101 p101 hx101 hp101 w101 hk B HI2 => ?_); replace F4 := bkr F4 HI (by decide) hk; replace KK := kkr KK hk; replace HI := HI2; clear hk; skip)
  | (go_at_call 78; (with_reducible refine cg1 (spec_l20Key.D 0 (by omega) w _ g bs p101 HI.out B.out HC.out (by omega) (by omega)) fun x102 p102 hx102 hp102 w102 hk B HI2 => ?_); replace F4 := bkr F4 HI (by decide) hk; replace KK := kkr KK hk; replace HI := HI2; clear hk; skip)
  | (go_at_call 79; (with_reducible refine cg1 (spec_l20Rd_pick.D 6 w _ g bs p102 HI.out B.out HC.out (by omega) (by omega)) fun x103 p103 hx103 hp103 w103 hk B HI2 => ?_); replace F4 := bkr F4 HI (by decide) hk; replace KK := kkr KK hk; replace HI := HI2; clear hk; skip)
  | ((with_reducible refine gate_store (t := 30) (p := 4) rfl ?_); obtain ⟨y0, y1, z0, z1⟩ := cz2 F4; refine sx (t := 30) (t' := 30) (p := 4) (v := ?vo201) ?hg ?ho ?hn 0 [.string (⟨#[]⟩ : ByteArray), .string (⟨#[]⟩ : ByteArray)] [.string (⟨#[]⟩ : ByteArray), .string (⟨#[]⟩ : ByteArray)] ?hr B F4 L4 rfl (Nat.le_of_ble_eq_true rfl) ?_; (case ho | hg | hn => rfl); (case hr => go_simp; first | done | rfl); intro w201 hk B G; replace HI := his HI F4 (by decide) hk; replace KK := kks KK M4 hk; replace F4 := G; clear hk y0 z0 y1 z1)
  | ((with_reducible refine gate_store (t := 30) (p := 4) rfl ?_); obtain ⟨y0, y1, z0, z1⟩ := cz2 F4; refine sx (t := 30) (t' := 30) (p := 4) (v := ?vo251) ?hg ?ho ?hn 0 [.string x101, .string (⟨#[]⟩ : ByteArray)] [.string x101, .string (⟨#[]⟩ : ByteArray)] ?hr B F4 L4 rfl (Nat.le_of_ble_eq_true rfl) ?_; (case ho | hg | hn => rfl); (case hr => go_simp; first | done | rfl); intro w251 hk B G; replace HI := his HI F4 (by decide) hk; replace KK := kks KK M4 hk; replace F4 := G; clear hk y0 z0 y1 z1)
  | ((with_reducible refine gate_store (t := 30) (p := 4) rfl ?_); obtain ⟨y0, y1, z0, z1⟩ := cz2 F4; refine sx (t := 30) (t' := 30) (p := 4) (v := ?vo301) ?hg ?ho ?hn 0 [.string (⟨#[]⟩ : ByteArray), .string x102] [.string (⟨#[]⟩ : ByteArray), .string x102] ?hr B F4 L4 rfl (Nat.le_of_ble_eq_true rfl) ?_; (case ho | hg | hn => rfl); (case hr => go_simp; first | done | rfl); intro w301 hk B G; replace HI := his HI F4 (by decide) hk; replace KK := kks KK M4 hk; replace F4 := G; clear hk y0 z0 y1 z1)
  | ((with_reducible refine gate_store (t := 30) (p := 4) rfl ?_); obtain ⟨y0, y1, z0, z1⟩ := cz2 F4; refine sx (t := 30) (t' := 30) (p := 4) (v := ?vo351) ?hg ?ho ?hn 0 [.string x101, .string x102] [.string x101, .string x102] ?hr B F4 L4 rfl (Nat.le_of_ble_eq_true rfl) ?_; (case ho | hg | hn => rfl); (case hr => go_simp; first | done | rfl); intro w351 hk B G; replace HI := his HI F4 (by decide) hk; replace KK := kks KK M4 hk; replace F4 := G; clear hk y0 z0 y1 z1)
  | ((with_reducible refine gate_store (t := 30) (p := 4) rfl ?_); obtain ⟨y0, y1, z0, z1⟩ := cz2 F4; refine sx (t := 30) (t' := 30) (p := 4) (v := ?vo401) ?hg ?ho ?hn 0 [.string x102, .string x101] [.string x102, .string x101] ?hr B F4 L4 rfl (Nat.le_of_ble_eq_true rfl) ?_; (case ho | hg | hn => rfl); (case hr => go_simp; first | done | rfl); intro w401 hk B G; replace HI := his HI F4 (by decide) hk; replace KK := kks KK M4 hk; replace F4 := G; clear hk y0 z0 y1 z1)
  | ((with_reducible refine gate_store (t := 30) (p := 4) rfl ?_); obtain ⟨y0, y1, z0, z1⟩ := cz2 F4; refine sx (t := 30) (t' := 30) (p := 4) (v := ?vo451) ?hg ?ho ?hn 0 [.string x101, .string (⟨#[]⟩ : ByteArray)] [.string x101, .string (⟨#[]⟩ : ByteArray)] ?hr B F4 L4 rfl (Nat.le_of_ble_eq_true rfl) ?_; (case ho | hg | hn => rfl); (case hr => go_simp; first | done | rfl); intro w451 hk B G; replace HI := his HI F4 (by decide) hk; replace KK := kks KK M4 hk; replace F4 := G; clear hk y0 z0 y1 z1))
 all_goals (refine bodyPost_ret (results_single rfl (.cell g4 30 _ (0, 0) _ rfl F4.out hu rfl (by kernel_rfl) .nil)) rfl ?_)
 all_goals exact ⟨_, _, _, rfl, trivial, ⟨by omega, by omega⟩, HI.out, B.out, KK.out⟩

/-! Pairs in order, cut at a key. -/
theorem cut_sorted {α : Type} (q : α → Bool) : ∀ l : List α, l.Pairwise (fun x y => q y = true → q x = true) → l.take (l.takeWhile q).length = l.filter q ∧ l.drop (l.takeWhile q).length = l.filter (fun x => !q x)
  | [], _ => ⟨rfl, rfl⟩
  | x :: r, h => by
    rw [List.pairwise_cons] at h
    obtain ⟨h1, h2⟩ := cut_sorted q r h.2
    cases hx : q x with
    | true => simp [List.takeWhile_cons, hx, h1, h2]
    | false =>
      have hn : ∀ y ∈ r, q y = false := fun y hy => by
        cases hq : q y with
        | false => rfl
        | true => rw [h.1 y hy hq] at hx; cases hx
      have f1 : r.filter q = [] := List.filter_eq_nil_iff.mpr fun y hy => by simp [hn y hy]
      have f2 : r.filter (fun x => !q x) = r := List.filter_eq_self.mpr fun y hy => by simp [hn y hy]
      simp [List.takeWhile_cons, hx, f1, f2]
theorem ord_lt {l : List S61} (ho : l.Pairwise (fun a b => ltB a.f0 b.f0 = true)) (c : ByteArray) : l.Pairwise (fun x y => ltB y.f0 c = true → ltB x.f0 c = true) :=
  ho.imp fun h k => ltB_trans h k
theorem take_at {l : List S61} (ho : l.Pairwise (fun a b => ltB a.f0 b.f0 = true)) (c : ByteArray) : l.take (atP l c) = l.filter (fun p => ltB p.f0 c) := (cut_sorted _ l (ord_lt ho c)).1
theorem drop_at {l : List S61} (ho : l.Pairwise (fun a b => ltB a.f0 b.f0 = true)) (c : ByteArray) : l.drop (atP l c) = l.filter (fun p => !ltB p.f0 c) := (cut_sorted _ l (ord_lt ho c)).2

/-! The model of the pairs of an interval. -/
def inM (l : List S61) (a b : ByteArray) : List S61 := if prB l && ivB a b then l.filter (fun p => insB a b p.f0) else []
theorem inM_len (l : List S61) (a b : ByteArray) : (inM l a b).length ≤ l.length := by
  unfold inM
  split
  · exact List.length_filter_le _ _
  · simp
def hiP (l : List S61) (b : ByteArray) : Nat := if b.toList = ([] : List UInt8) then l.length else atP l b
theorem hiP_le (l : List S61) (b : ByteArray) : hiP l b ≤ l.length := by
  unfold hiP
  split
  · exact Nat.le_refl _
  · exact atP_le l b
theorem at_mono {l : List S61} {a b : ByteArray} (h : ∀ x : ByteArray, ltB x a = true → ltB x b = true) : atP l a ≤ atP l b := by
  unfold atP
  induction l with
  | nil => simp
  | cons x r ih =>
    rw [List.takeWhile_cons, List.takeWhile_cons]
    cases ha : ltB x.f0 a with
    | false => simp
    | true => simp only [h _ ha, if_true, List.length_cons]; omega
theorem ivB_lt {a b : ByteArray} (h : ivB a b = true) (hb : b.toList ≠ ([] : List UInt8)) : ∀ x : ByteArray, ltB x a = true → ltB x b = true := by
  intro x hx
  unfold ivB at h
  by_cases ha : a.toList = ([] : List UInt8)
  · unfold ltB at hx
    rw [ha] at hx
    cases hx' : x.toList <;> rw [hx'] at hx <;> cases hx
  · rw [if_neg ha, if_neg hb] at h
    simp only [Bool.and_eq_true] at h
    exact ltB_trans hx h.2.2
theorem at_hi {l : List S61} {a b : ByteArray} (h : ivB a b = true) : atP l a ≤ hiP l b := by
  unfold hiP
  split
  · exact atP_le l a
  · rename_i hb; exact at_mono (ivB_lt h hb)
theorem in_slice {l : List S61} {a b : ByteArray} (hv : prB l = true) (h : ivB a b = true) : (l.take (hiP l b)).drop (atP l a) = inM l a b := by
  have ho := prB_order hv
  unfold inM
  rw [hv, h, Bool.true_and, if_pos rfl]
  unfold hiP
  by_cases hb : b.toList = ([] : List UInt8)
  · rw [if_pos hb, List.take_length, drop_at ho]
    refine List.filter_congr fun x _ => ?_
    unfold insB ltB
    rw [if_pos hb, Bool.and_true]
  · rw [if_neg hb, take_at ho]
    have hm := at_mono (l := l) (ivB_lt h hb)
    have e1 : atP (l.filter (fun p => ltB p.f0 b)) a = atP l a := by
      rw [← take_at ho b]
      unfold atP at hm ⊢
      generalize hn : (l.takeWhile fun p => ltB p.f0 b).length = n at hm
      clear hn hv h hb
      induction l generalizing n with
      | nil => simp
      | cons x r ih =>
        cases ha : ltB x.f0 a with
        | false => cases n <;> simp [List.takeWhile_cons, ha]
        | true =>
          simp only [List.takeWhile_cons, ha, if_true, List.length_cons] at hm ⊢
          obtain ⟨n, rfl⟩ : ∃ m, n = m + 1 := ⟨n - 1, by omega⟩
          simp only [List.take_succ_cons, List.takeWhile_cons, ha, if_true, List.length_cons]
          rw [ih (List.Pairwise.of_cons ho) n (by omega)]
    rw [← e1, drop_at (ho.sublist (List.filter_sublist)), List.filter_filter]
    refine List.filter_congr fun x _ => ?_
    unfold insB ltB
    rw [if_neg hb]
theorem has_ins {l : List S61} {a b : ByteArray} (hv : prB l = true) (h : ivB a b = true) {j : Nat} (hj : j < l.length) : hasB a b (rd_T61 l (j : Int)).f0 = insB a b (rd_T61 l (j : Int)).f0 := by
  unfold hasB
  rw [h, prB_key hv _ (by rw [pr_nat hj]; exact List.getElem_mem _)]
  rfl

def spec_PairScan.T7 : Bool × List (List Nat × List Nat) := (true, [([], []), ([], []), ([], []), ([1, 2], [1, 2]), ([3], [3]), ([4], [4]), ([0, 5], [0, 5])])
def spec_PairScan.B7 : List Nat := [0, 0, 0, 6, 14, 30, 63]
theorem spec_PairScan.tab7 : rtab .any (opsOf Try.f106 7) = spec_PairScan.T7 := by kernel_rfl
theorem spec_PairScan.bits7 : waitsOk spec_PairScan.T7.2 spec_PairScan.B7 = true := by kernel_rfl
theorem spec_PairScan.M (A0 : Option Addr) (c0 : Nat) (l : List S61) (a b : ByteArray) (w : World) (hr0 : Kd.C k61 w A0 l.length l) (hc0 : l.length ≤ c0) : Calls Try.prog 106 #[.slice A0 l.length c0, .agg #[.string a, .string b], .int .i64 48] w fun e w' => ∃ v0, e = .returned v0 ∧ Kd.R k61 61 w' w.heap.size (fun _ => True) v0 (inM l a b) ∧ Below w.heap.size w w' := by
 have B := Aside0.mk (Below.refl w.heap.size w)
 have hu := Try.underlying30
 have HR0 := Aside0.mk hr0
 have HC0 := Aside0.mk hc0
 have L63 := Aside0.mk hr0.2.1
 clear hr0 hc0
 obtain ⟨r, hr⟩ : ∃ r, inM l a b = r := ⟨_, rfl⟩
 rw [hr]
 have l148 : l1B 48 0 48 = true := by decide
 go_enter Try.func106, Try.ntmps106
 go_wp2_with (first
  | ((with_reducible refine gate_dst (N := 4) rfl ?_); refine bx ?hg (N := 4) ?hd (cs := #[.string a, .string b]) (t := 30) ?hr B ?_; (case hd | hg => rfl); (case hr => go_simp; first | done | rfl); intro g4 w1 hb B F4 L4 E4; obtain ⟨c4_0, c4_1⟩ := cs2 F4; clear hb E4)
  | ((with_reducible refine gate_dst (N := 9) rfl ?_); refine lt k61 61 ?hg (N := 9) ?hd ([] : List S61) [] ?hr (Reps.none _ _) (by simp) B ?_; (case hd | hg => rfl); (case hr => go_simp; first | done | rfl); intro z9 hz9 AL9 kL9 w2 hb B RL9 QL9; replace F4 := bn F4 hb; clear c4_0 c4_1; obtain ⟨c4_0, c4_1⟩ := cs2 F4; clear hb QL9)
  | (go_at_call 48; with_reducible refine cl (spec_PairsValid.M _ _ l _ (cb HR0 B)) B fun w3 hb B => ?_; replace F4 := bn F4 hb; replace RL9 := rn RL9 hb; clear c4_0 c4_1; obtain ⟨c4_0, c4_1⟩ := cs2 F4; clear hb)
  | (go_at_call 47; with_reducible refine cl (spec_IntervalValid.M a b _) B fun w4 hb B => ?_; replace F4 := bn F4 hb; replace RL9 := rn RL9 hb; clear hb)
  | (go_at_call 90; with_reducible refine cl (spec_l1In.M 48 0 48 _) B fun w5 hb B => ?_; replace F4 := bn F4 hb; replace RL9 := rn RL9 hb; clear hb))
 all_goals try (refine useEq (a := r) (b := ([] : List S61)) ?_ (fun hM => ?_); (rw [← hr]; unfold inM; grind); subst hM; subst hz9; go_ret; exact ⟨_, rfl, RL9.out, B.out⟩)
 have hv : prB l = true ∧ ivB a b = true := by grind
 have hrq : l.filter (fun p => insB a b p.f0) = r := by rw [← hr]; unfold inM; simp [hv.1, hv.2]
 subst hz9
 have h48 := prB_len hv.1
 have HV := Aside0.mk hv
 have H := Aside0.mk (show ([] : List S61) ++ (l.drop 0).filter (fun p => insB a b p.f0) = r from hrq)
 clear hr hrq hv c4_0 c4_1
 go_loopg [7, 8] (l.length + 1) (fun kx v7 v8 wr => ∃ (j : Nat) (p : List S61), v8 = .int .i64 (j : Int) ∧ j ≤ l.length ∧ l.length < j + kx ∧ p.length ≤ j ∧ Aside0 (Below w.heap.size w wr) ∧ Aside0 (wr.heap[g4]? = some (.cells #[.string a, .string b] 30 (0, 0))) ∧ Aside0 (Ow k61 61 wr w.heap.size v7 p) ∧ Aside0 (p ++ (l.drop j).filter (fun p => insB a b p.f0) = r))
 case atStart => exact ⟨0, [], rfl, by omega, by omega, by simp, B, F4, RL9, H⟩
 case round =>
  clear H B F4 RL9
  obtain ⟨j, p, rfl, hj, hk, hpl, B, F4, Rp7, H⟩ := hrel
  obtain ⟨A7, k7, rfl⟩ := Kd.R_slice Rp7.out
  obtain ⟨c4_0, c4_1⟩ := cs2 F4
  by_cases hlt : j < l.length
  ·have HS := H.out
   rw [pr_drop hlt, List.filter_cons] at HS
   have hhi := has_ins HV.out.1 HV.out.2 hlt
   clear H
   obtain ⟨d, rfl⟩ : ∃ d, gk = d + 1 := ⟨gk - 1, by omega⟩
   have cj : decide ((j : Int) < (l.length : Int)) = true := decide_eq_true (by omega)
   have cp : decide ((p.length : Int) < 48) = true := decide_eq_true (by omega)
   obtain ⟨ad, hA, y0, y1⟩ := at_T61 (cb HR0 B) (j : Int) (by omega) (by omega)
   cases hA
   rw [Int.toNat_natCast] at y0 y1
   have j1 := eq_true (show (j : Int) < (l.length : Int) by omega)
   have j2 := eq_true hlt
   generalize hy : rd_T61 l (j : Int) = y at *
   have HT := Aside0.mk HS
   have HH := Aside0.mk hhi
   clear HS hhi
   try go_wp2
   all_goals (
    refine rg (n := 7) (S := fun W => W.heap[g4]? = some (.cells #[.string a, .string b] 30 (0, 0)) ∧ Kd.C k61 W (some ad) l.length l) (ds := []) #[false, false, false, false, false, false, false] (by kernel_rfl) rfl rfl ⟨F4.out, (cb HR0 B)⟩ id B (fun w101 hb B hHeld => ?_)
    refine with_tabW spec_PairScan.tab7 spec_PairScan.bits7 (fun HT_ HW_ => ?_)
    replace F4 := bn F4 hb
    replace Rp7 := rn Rp7 hb
    clear hb
    refine tv 0 (some 36) (v := ?_) (bits 7 1) HT_ HW_ (by kernel_rfl) rfl rfl (fun _ _ _ h => h) (by kernel_rfl) hHeld ?_ ?_; rotate_left; (intro w' hS; obtain ⟨s0, s1⟩ := hS; obtain ⟨q0, q1⟩ := cs2 (Aside0.mk s0); go_simp; with_reducible rfl)
    refine pv 1 (some 37) (v := ?_) (bits 7 3) HT_ (by kernel_rfl) rfl rfl (fun _ _ _ h => h) (by kernel_rfl) ?_ ?_; rotate_left; (intro w'; go_simp; with_reducible rfl)
    refine pv 2 (some 38) (v := ?_) (bits 7 7) HT_ (by kernel_rfl) rfl rfl (fun _ _ _ h => h) (by kernel_rfl) ?_ ?_; rotate_left; (intro w'; go_simp; with_reducible rfl)
    refine pv 3 (some 39) (v := ?_) (bits 7 15) HT_ (by kernel_rfl) rfl rfl (fun _ _ _ h => h) (by kernel_rfl) ?_ ?_; rotate_left; (intro w'; go_simp; with_reducible rfl)
    refine pv 4 (some 40) (v := ?_) (bits 7 31) HT_ (by kernel_rfl) rfl rfl (fun _ _ _ h => h) (by kernel_rfl) ?_ ?_; rotate_left; (intro w'; go_simp; with_reducible rfl)
    refine tv 5 (some 41) (v := ?_) (bits 7 63) HT_ HW_ (by kernel_rfl) rfl rfl (fun _ _ _ h => h) (by kernel_rfl) hHeld ?_ ?_; rotate_left; (intro w' hS; obtain ⟨s0, s1⟩ := hS; obtain ⟨_, hA, q0, q1⟩ := at_T61 s1 (j : Int) (by omega) (by omega); cases hA; rw [Int.toNat_natCast] at q0 q1; rw [hy] at q0 q1; go_simp; with_reducible rfl)
    refine norm_ (a' := ?_) ?_ ?_
    rotate_left
    ·simp only [Act.put, za, zb, zc, i64_w, i32_w]
     rfl
    refine one_ (i := 6) (N := some 42) (bits 7 127) rfl rfl (one_of HT_.out (by kernel_rfl)) (by decide) (fun K hK => ?_)
    refine goes_ Try.func50 (by kernel_rfl) rfl #[.agg #[.string a, .string b], .string y.f0] (by rfl) rfl rfl (by (try simp only [List.map_toArray, List.map_cons, List.map_nil]); rfl) ?_
    with_reducible refine cl (spec_IntervalHas.M a b y.f0 _) B fun w102 hb B => ?_
    replace F4 := bn F4 hb
    replace Rp7 := rn Rp7 hb
    clear hb
    refine ⟨_, rfl, ?_⟩
    refine hK.out _ _ ⟨F4.out, (cb HR0 B)⟩ (fun hHeld => ?_)
    clear hK K
    refine norm_ (a' := ?_) ?_ ?_
    rotate_left
    ·show Act.put _ (some 42) _ = _
     simp only [Act.put, za, zb, zc, i64_w, i32_w]
     rfl
    refine done_ (done_of HT_.out (by kernel_rfl)) ?_
    clear y0 y1
    obtain ⟨ad2, hA, y0, y1⟩ := at_T61 (cb HR0 B) (j : Int) (by omega) (by omega)
    cases hA
    rw [Int.toNat_natCast, hy] at y0 y1)
   all_goals go_wp2_with (first
    | ((with_reducible refine gate_dst (N := 48) rfl ?_); refine lt k61 61 ?hg (N := 48) ?hd ([⟨y.f0, y.f1⟩] : List S61) [.string y.f0, .int .i64 (y.f1)] ?hr (Reps.c2 (k61_mkM _ _ _ ⟨y.f0, y.f1⟩) (Reps.none _ _)) (by simp) B ?_; (case hd | hg => rfl); (case hr => go_simp; first | done | rfl); intro z48 hz48 AL48 kL48 w103 hb B RL48 QL48; replace F4 := bn F4 hb; replace Rp7 := rn Rp7 hb; clear hb QL48)
    | ((with_reducible refine gate_builtin (b := .append) (xs := #[.tmp 43, .tmp 48]) rfl ?_); at_builtin; refine apx k61 61 rfl (.tmp 43) (.tmp 48) 31 (.agg #[.string (⟨#[]⟩ : ByteArray), .int .i64 (0)]) 24 rfl Try.underlying31 info61 rfl (by decide) (by omega) rfl rfl Rp7 (rc RL48) (fun x cs h => by rw [k61_open h]; exact k61_mkM _ _ _ x) (by rw [← hz48]; simp only [List.length_cons, List.length_nil]; omega) B ?_; intro z49 hz49 AL49 kL49 w104 hg B RL49 hat; replace F4 := bga F4 hg Rp7 (by decide); clear hg hat))
   all_goals first
    | (refine useEq (a := hasB a b y.f0) (b := true) ?_ (fun hK => ?_); (first | assumption | (simp_all; done)); have HS := HT.out; rw [← HH.out, hK, if_pos rfl] at HS; go_roundg d; (case measure => omega); (case rel => exact ⟨j + 1, z49, congrArg (Value.int .i64) (Int.natCast_succ _).symm, by omega, by omega, (by rw [← hz49, ← hz48]; simp only [List.length_append, List.length_cons, List.length_nil]; omega), B, F4, RL49, ⟨by rw [← hz49, ← hz48, List.append_assoc]; exact HS⟩⟩))
    | (refine useEq (a := hasB a b y.f0) (b := false) ?_ (fun hK => ?_); (first | assumption | (simp_all; done)); have HS := HT.out; rw [← HH.out, hK, if_neg (by simp)] at HS; go_roundg d; (case measure => omega); (case rel => exact ⟨j + 1, p, congrArg (Value.int .i64) (Int.natCast_succ _).symm, by omega, by omega, by omega, B, F4, Rp7, ⟨HS⟩⟩))
  ·have cj : decide ((j : Int) < (l.length : Int)) = false := decide_eq_false (by omega)
   have hr := H.out
   rw [List.drop_of_length_le (by omega), List.filter_nil, List.append_nil] at hr
   subst hr
   clear H
   go_wp2
   go_ret
   exact ⟨_, rfl, Rp7.out, B.out⟩
theorem spec_PairsIn.M (A0 : Option Addr) (c0 : Nat) (l : List S61) (a b : ByteArray) (w : World) (hr0 : Kd.C k61 w A0 l.length l) (hc0 : l.length ≤ c0) : Calls Try.prog 74 #[.slice A0 l.length c0, .agg #[.string a, .string b]] w fun e w' => ∃ v0, e = .returned v0 ∧ Kd.R k61 61 w' w.heap.size (fun _ => True) v0 (inM l a b) ∧ Below w.heap.size w w' := by
 have B := Aside0.mk (Below.refl w.heap.size w)
 have hu := Try.underlying30
 have HR0 := Aside0.mk hr0
 have HC0 := Aside0.mk hc0
 have L63 := Aside0.mk hr0.2.1
 clear hr0 hc0
 go_enter Try.func74, Try.ntmps74
 go_wp2_with (first
  | ((with_reducible refine gate_dst (N := 3) rfl ?_); refine bx ?hg (N := 3) ?hd (cs := #[.string a, .string b]) (t := 30) ?hr B ?_; (case hd | hg => rfl); (case hr => go_simp; first | done | rfl); intro g3 w1 hb B F3 L3 E3; obtain ⟨c3_0, c3_1⟩ := cs2 F3; clear hb E3)
  | (go_at_call 106; with_reducible refine cr (spec_PairScan.M _ _ l a b _ (cb HR0 B) HC0.out) B fun AI2 kI2 w2 hb B RI2 QI2 => ?_; clear QI2; clear hb))
 go_ret
 exact ⟨_, rfl, RI2.out, B.out⟩

/-! Operations of a region that draws its order, one by one: a box, a literal, a row put behind a row. -/
section
variable {P : Program} {w W : World} {ops' : Array Oper} {o : Oper} {a : Act} {QE : Exit → Act → World → Prop} {Kc : Act → World → Prop}
theorem below_al (W : World) (ob : Obj) : Below W.heap.size W (W.alloc ob) := below_alloc (Below.refl _ _) ob
theorem al_blk (W : World) (ob : Obj) : (W.alloc ob).heap[W.heap.size]? = some ob := by unfold World.alloc; exact Array.getElem?_push_size
theorem bxs {N : Tmp} {cs : Array Value} {t : TypeId} (hw : Region.wanted o (yielded ops' a.tmps) = true) (hd : o.dst = some N) (hrun : (execOp a.eval o).run P W = .ok (.value (.pointer (some ⟨W.heap.size, 0, none⟩))) (W.alloc (.cells cs t (0, 0))))
    (B : Aside0 (Below w.heap.size w W))
    (h : ∀ g w1, Below W.heap.size W w1 → Aside0 (Below w.heap.size w w1) → Aside0 (w1.heap[g]? = some (.cells cs t (0, 0))) → Aside0 (w.heap.size ≤ g) → Aside0 (g = W.heap.size) → Kc (a.put (some N) (.pointer (some ⟨g, 0, none⟩))) w1) :
    if Region.wanted o (yielded ops' a.tmps) = true then Oper.wp P o a W Kc QE else Kc (a.put (some N) undef) W :=
  value_ hw hd hrun (h _ _ (below_al W _) ⟨below_step B.out (below_al W _)⟩ ⟨al_blk W _⟩ ⟨below_size B.out⟩ ⟨rfl⟩)
variable {α β : Type} {b : Nat} {xs : List α}
theorem lts (d : Kd α) (e : Nat) (hw : Region.wanted o (yielded ops' a.tmps) = true) {N : Tmp} (hd : o.dst = some N) (xs : List α) (inner : List Value) (hrun : (execOp a.eval o).run P W = .ok (.value (.slice (some ⟨W.heap.size, 0, none⟩) xs.length xs.length)) (W.alloc (.cells inner.toArray e)))
    (hp : Reps (d.M W W.heap.size (fun _ => True)) d.sz xs inner) (hm : xs.length ≤ 9223372036854775807) (B : Aside0 (Below w.heap.size w W))
    (h : ∀ zs, xs = zs → ∀ A kk w1, Below W.heap.size W w1 → Aside0 (Below w.heap.size w w1) → Aside0 (Ow d e w1 w.heap.size (.slice A zs.length kk) zs) → Aside0 (Fr W (.slice A zs.length kk)) → Kc (a.put (some N) (.slice A zs.length kk)) w1) :
    if Region.wanted o (yielded ops' a.tmps) = true then Oper.wp P o a W Kc QE else Kc (a.put (some N) undef) W := by
  rw [← hd]
  refine Kd.R_lit_step d (w0 := W) W.heap.size e hw hd hrun hp (fun _ h => h) trivial (Below.refl _ _) (Nat.le_refl _) hm fun v1 w1 hR hb hg hnew => ?_
  obtain ⟨A, kk, rfl⟩ := Kd.R_slice hR
  rw [hd]
  exact h xs rfl A kk w1 hb ⟨below_step B.out hb⟩ ⟨Kd.R_lower hR (below_size B.out)⟩ ⟨fun k hk => Kd.R_base hR k hk⟩
theorem aps (d : Kd α) (e : Nat) (hw : Region.wanted o (yielded ops' a.tmps) = true) {N : Tmp} (hd : o.dst = some N) (s x : Operand) (t : TypeId) (z : Value) (bytes : Nat) (ho : o.op = .call { callee := .builtin .append, args := #[s, x], argTypes := #[t, t] })
    (ht : P.underlying t = some (.slice e)) (hinfo : (P.info? e).map (fun i => (i.zero, i.size, i.bytes)) = some (some z, d.sz, bytes)) (hz : z.cells.size = d.sz) (hs0 : 0 < d.sz) (hb0 : 0 < bytes)
    {v : Value} {ys : List α} {A : Option Addr} {m c : Nat} (hs : a.eval s = v) (hx : a.eval x = .slice A m c) (R : Aside0 (Ow d e W w.heap.size v xs)) (C : d.C W A m ys) (hKM : ∀ x cs, d.K W x cs → d.M W w.heap.size (fun _ => False) x cs)
    (hl : (xs.length + m) * bytes ≤ 140737488355328) (B : Aside0 (Below w.heap.size w W))
    (h : ∀ zs, xs ++ ys = zs → ∀ A' kk w1, W.grownBy w1 v.ownBlock → Aside0 (Below w.heap.size w w1) → Aside0 (Ow d e w1 w.heap.size (.slice A' zs.length kk) zs) → Aside0 ((Value.slice A' zs.length kk).ownBlock = v.ownBlock ∨ ∃ b, (Value.slice A' zs.length kk).ownBlock = some b ∧ W.heap.size ≤ b) → Kc (a.put (some N) (.slice A' zs.length kk)) w1) :
    if Region.wanted o (yielded ops' a.tmps) = true then Oper.wp P o a W Kc QE else Kc (a.put (some N) undef) W := by
  rw [← hd]
  refine Kd.R_append_rows_step d (w0 := w) w.heap.size hw s x t e z bytes ho ht hinfo hz hs0 hb0 v xs ys A m c (fun _ => True) (fun _ => False) hs hx R.out C hKM (fun _ h => h.elim) (fun _ _ => trivial) B.out (below_size B.out) hl fun v1 w1 hR hb hg hat => ?_
  obtain ⟨A', kk, rfl⟩ := Kd.R_slice hR
  rw [hd]
  exact h _ rfl A' kk w1 hg ⟨hb⟩ ⟨hR⟩ ⟨hat⟩
end

def spec_l20State.T4 : Bool × List (List Nat × List Nat) := (true, [([], []), ([], []), ([1], [1]), ([], []), ([2, 3, 2], [2, 3]), ([], []), ([5, 4], [5]), ([0, 4, 6], [0, 4, 6]), ([], []), ([8, 7, 6, 0, 1, 2, 3, 4, 5, 6, 7, 8], [7, 8])])
def spec_l20State.B4 : List Nat := [0, 0, 2, 0, 14, 0, 62, 127, 0, 511]
theorem spec_l20State.tab4 : rtab .any (opsOf Try.f62 4) = spec_l20State.T4 := by kernel_rfl
theorem spec_l20State.bits4 : waitsOk spec_l20State.T4.2 spec_l20State.B4 = true := by kernel_rfl
theorem spec_l20State.D (n : Int) (hn : n ≤ 1000000) (w W0 : World) (g : Nat) (bs : List Int) (p : Int) (hI : IsS119 w W0 g bs p) (hB : Below w.heap.size w W0) (hc : Dw.Code bs) (h0 : 0 ≤ p) (h1 : p ≤ 1099498000000) :
  Calls Try.prog 62 #[.pointer (some ⟨g, 0, none⟩), .int .i64 n] W0 fun e w' => ∃ a b v0 v1 t c xs ys p', e = .returned (.agg #[.string a, .string b, v0, v1, .bool t, .string c]) ∧ (xs.length ≤ 300 ∧ ys.length ≤ 300) ∧ (Kd.R k61 61 w' w.heap.size (fun _ => True) v0 xs ∧ Fr W0 v0) ∧ (Kd.R k100 100 w' w.heap.size (fun _ => True) v1 ys ∧ Fr W0 v1) ∧ Left w W0 g bs p 1000 p' w' := by
 have hu := Try.underlying34
 have hu2 := Try.underlying30
 have B := Aside0.mk hB
 have HI := Aside0.mk hI
 have HC := Aside0.mk hc
 have KK := Aside0.mk (Kept.refl W0 (RB g))
 clear hB hI hc
 go_enter Try.func62, Try.ntmps62
 go_upto_if 14 with (first
  | ((with_reducible refine gate_dst (N := 4) rfl ?_); refine bx ?hg (N := 4) ?hd (cs := #[.string (⟨#[]⟩ : ByteArray), .string (⟨#[]⟩ : ByteArray), .slice none 0 0, .slice none 0 0, .bool false, .string (⟨#[]⟩ : ByteArray)]) (t := 34) ?hr B ?_; (case hd | hg => rfl); (case hr => go_simp; first | done | rfl); intro g4 w1 hb B F4 L4 E4; have M4 := mbx E4 KK; replace HI := hib HI hb; replace KK := kkb KK hb; clear hb E4)
  | (go_at_call 77; (with_reducible refine cg2 (spec_l20Span.D 0 (by omega) w _ g bs p HI.out B.out HC.out (by omega) (by omega)) fun x2 y2 p2 hx2 hp2 w2 hk B HI2 => ?_); replace F4 := bkr F4 HI (by decide) hk; replace KK := kkr KK hk; replace HI := HI2; clear hk; skip)
  | ((with_reducible refine gate_dst (N := 5) rfl ?_); refine bx ?hg (N := 5) ?hd (cs := #[.string (⟨#[]⟩ : ByteArray), .string (⟨#[]⟩ : ByteArray)]) (t := 30) ?hr B ?_; (case hd | hg => rfl); (case hr => go_simp; first | done | rfl); intro g5 w3 hb B F5 L5 E5; have N4_5 := ne1 E5 F4; have M5 := mbx E5 KK; replace F4 := bn F4 hb; replace HI := hib HI hb; replace KK := kkb KK hb; clear hb E5)
  | ((with_reducible refine gate_store (t := 30) (p := 5) rfl ?_); obtain ⟨y0, y1, z0, z1⟩ := cz2 F5; refine sx (t := 30) (t' := 30) (p := 5) (v := ?vo4) ?hg ?ho ?hn 0 [.string x2, .string y2] [.string x2, .string y2] ?hr B F5 L5 rfl (Nat.le_of_ble_eq_true rfl) ?_; (case ho | hg | hn => rfl); (case hr => go_simp; first | done | rfl); intro w4 hk B G; replace F4 := bk F4 hk N4_5.out; replace HI := his HI F5 (by decide) hk; replace KK := kks KK M5 hk; replace F5 := G; clear hk y0 z0 y1 z1)
  | (go_at_call 79; (with_reducible refine cg1 (spec_l20Rd_pick.D 2 w _ g bs p2 HI.out B.out HC.out (by omega) (by omega)) fun x5 p5 hx5 hp5 w5 hk B HI2 => ?_); replace F4 := bkr F4 HI (by decide) hk; replace F5 := bkr F5 HI (by decide) hk; replace KK := kkr KK hk; replace HI := HI2; clear hk; skip))
 go_cut [5] (fun v5 wc => ∃ (va vb : ByteArray), v5 = .pointer (some ⟨g5, 0, none⟩) ∧ Aside0 (wc.heap[g5]? = some (.cells #[.string va, .string vb] 30 (0, 0))) ∧ Aside0 (wc.heap[g4]? = some (.cells #[.string (⟨#[]⟩ : ByteArray), .string (⟨#[]⟩ : ByteArray), .slice none 0 0, .slice none 0 0, .bool false, .string (⟨#[]⟩ : ByteArray)] 34 (0, 0))) ∧ Aside0 (IsS119 w wc g bs p5) ∧ Aside0 (Kept W0 wc (RB g)) ∧ Aside0 (Below w.heap.size w wc))
 case first =>
  go_wp2_with (first
   | ((with_reducible refine gate_store (t := 30) (p := 5) rfl ?_); obtain ⟨y0, y1, z0, z1⟩ := cz2 F5; refine sx (t := 30) (t' := 30) (p := 5) (v := ?vo51) ?hg ?ho ?hn 0 [.string (⟨#[]⟩ : ByteArray), .string (⟨#[]⟩ : ByteArray)] [.string (⟨#[]⟩ : ByteArray), .string (⟨#[]⟩ : ByteArray)] ?hr B F5 L5 rfl (Nat.le_of_ble_eq_true rfl) ?_; (case ho | hg | hn => rfl); (case hr => go_simp; first | done | rfl); intro w51 hk B G; replace F4 := bk F4 hk N4_5.out; replace HI := his HI F5 (by decide) hk; replace KK := kks KK M5 hk; replace F5 := G; clear hk y0 z0 y1 z1))
  all_goals (go_meet; (case rel => exact ⟨_, _, rfl, F5, F4, HI, KK, B⟩))
 case rest =>
  clear B HI KK F4 F5
  obtain ⟨va, vb, rfl, F5, F4, HI, KK, B⟩ := hcut
  obtain ⟨c4_0, c4_1, c4_2, c4_3, c4_4, c4_5⟩ := cs6 F4
  obtain ⟨c5_0, c5_1⟩ := cs2 F5
  try go_wp2
  all_goals (
   refine rg (n := 10) (S := fun W => W.heap[g5]? = some (.cells #[.string va, .string vb] 30 (0, 0))) (ds := []) #[false, false, false, false, false, false, false, false, false, false] (by kernel_rfl) rfl rfl F5.out id B (fun w101 hb B hHeld => ?_)
   refine with_tabW spec_l20State.tab4 spec_l20State.bits4 (fun HT_ HW_ => ?_)
   replace F4 := bn F4 hb
   replace F5 := bn F5 hb
   replace HI := hib HI hb
   replace KK := kkb KK hb
   clear hb
   refine join_ 1 (bits 10 511) (σ := Option Addr × Nat × List S61 × Option Addr × Nat × List S61 × Option Addr × Nat × List S100 × Nat × Int) (fun (ADs18, kDs18, zDs18, AIs20, kIs20, zIs20, ADs22, kDs22, zDs22, g6, ps22) => [(16, .agg #[.string va, .string vb]), (17, .pointer (some ⟨g, 0, none⟩)), (18, .slice ADs18 zDs18.length kDs18), (19, .agg #[.string va, .string vb]), (20, .slice AIs20 zIs20.length kIs20), (21, .pointer (some ⟨g, 0, none⟩)), (22, .slice ADs22 zDs22.length kDs22), (23, .agg #[.string va, .string vb, .slice AIs20 zIs20.length kIs20, .slice ADs22 zDs22.length kDs22, .bool false, .string (⟨#[]⟩ : ByteArray)]), (6, .pointer (some ⟨g6, 0, none⟩))]) (fun (ADs18, kDs18, zDs18, AIs20, kIs20, zIs20, ADs22, kDs22, zDs22, g6, ps22) W => Aside0 (Below w.heap.size w W) ∧ Aside0 (W.heap[g4]? = some (.cells #[.string (⟨#[]⟩ : ByteArray), .string (⟨#[]⟩ : ByteArray), .slice none 0 0, .slice none 0 0, .bool false, .string (⟨#[]⟩ : ByteArray)] 34 (0, 0))) ∧ Aside0 (W.heap[g5]? = some (.cells #[.string va, .string vb] 30 (0, 0))) ∧ Aside0 (W.heap[g6]? = some (.cells #[.string (⟨#[]⟩ : ByteArray), .string (⟨#[]⟩ : ByteArray), .slice none 0 0, .slice none 0 0, .bool false, .string (⟨#[]⟩ : ByteArray)] 34 (0, 0))) ∧ Aside0 (w.heap.size ≤ g6) ∧ Aside0 (g4 ≠ g6) ∧ Aside0 (g5 ≠ g6) ∧ Aside0 (Ow k61 61 W w.heap.size (.slice AIs20 zIs20.length kIs20) zIs20) ∧ Aside0 (Ow k100 100 W w.heap.size (.slice ADs22 zDs22.length kDs22) zDs22) ∧ Aside0 (∀ k_, (.slice ADs22 zDs22.length kDs22 : Value).ownBlock = some k_ → (.slice AIs20 zIs20.length kIs20 : Value).ownBlock = some k_ → False) ∧ Aside0 (IsS119 w W g bs ps22) ∧ Aside0 (Kept W0 W (RB g)) ∧ Aside0 (W0.heap.size ≤ g6) ∧ Aside0 (Fr W0 (.slice AIs20 zIs20.length kIs20)) ∧ Aside0 (Fr W0 (.slice ADs22 zDs22.length kDs22)) ∧ (p5 ≤ ps22 ∧ ps22 ≤ p5 + 160) ∧ zIs20.length ≤ 300 ∧ zDs22.length ≤ 300) ?_ (fun J => ?_)
   rotate_left
   ·refine tv 0 (some 16) (v := ?_) (bits 10 1) HT_ HW_ (by kernel_rfl) rfl rfl (fun _ _ _ h => h) (by kernel_rfl) hHeld ?_ ?_; rotate_left; (intro w' hS; have s0 := hS; obtain ⟨q0, q1⟩ := cs2 (Aside0.mk s0); go_simp; with_reducible rfl)
    refine pv 1 (some 17) (v := ?_) (bits 10 3) HT_ (by kernel_rfl) rfl rfl (fun _ _ _ h => h) (by kernel_rfl) ?_ ?_; rotate_left; (intro w'; go_simp; with_reducible rfl)
    refine tv 3 (some 19) (v := ?_) (bits 10 11) HT_ HW_ (by kernel_rfl) rfl rfl (fun _ _ _ h => h) (by kernel_rfl) hHeld ?_ ?_; rotate_left; (intro w' hS; have s0 := hS; obtain ⟨q0, q1⟩ := cs2 (Aside0.mk s0); go_simp; with_reducible rfl)
    refine pv 5 (some 21) (v := ?_) (bits 10 43) HT_ (by kernel_rfl) rfl rfl (fun _ _ _ h => h) (by kernel_rfl) ?_ ?_; rotate_left; (intro w'; go_simp; with_reducible rfl)
    refine norm_ (a' := ?_) ?_ ?_
    rotate_left
    ·simp only [Act.put, za, zb, zc, i64_w, i32_w]
     rfl
    refine two_ (i := 2) (j := 8) (Ni := some 18) (Nj := some 6) (bits 10 47) (bits 10 299) rfl rfl rfl rfl (two_of HT_.out (by kernel_rfl)) (by decide) (by decide) (fun K hK => ?_) (fun K hK => ?_)
    ·refine goes_ Try.func97 (by kernel_rfl) rfl #[.pointer (some ⟨g, 0, none⟩), .int .i64 (0)] (by rfl) rfl rfl (by (try simp only [List.map_toArray, List.map_cons, List.map_nil]); rfl) ?_
     (with_reducible refine cgr (spec_l20Pairs.D 0 (by omega) w _ g bs p5 HI.out B.out HC.out (by omega) (by omega)) fun zDs18 ADs18 kDs18 ps18 hxs18 hps18 w102 hk B HI2 RDs18 QDs18 => ?_)
     have MRDs18 := mrf QDs18 KK
     replace F4 := bkr F4 HI (by decide) hk
     replace F5 := bkr F5 HI (by decide) hk
     replace KK := kkr KK hk
     replace HI := HI2
     clear hk QDs18
     refine ⟨_, rfl, ?_⟩
     refine hK.out _ _ F5.out (fun hHeld => ?_)
     clear hK K
     refine norm_ (a' := ?_) ?_ ?_
     rotate_left
     ·show Act.put _ (some 18) _ = _
      simp only [Act.put, za, zb, zc, i64_w, i32_w]
      rfl
     refine two_ (i := 4) (j := 8) (Ni := some 20) (Nj := some 6) (bits 10 63) (bits 10 303) rfl rfl rfl rfl (two_of HT_.out (by kernel_rfl)) (by decide) (by decide) (fun K hK => ?_) (fun K hK => ?_)
     ·refine goes_ Try.func74 (by kernel_rfl) rfl #[.slice ADs18 zDs18.length kDs18, .agg #[.string va, .string vb]] (by rfl) rfl rfl (by (try simp only [List.map_toArray, List.map_cons, List.map_nil]); rfl) ?_
      with_reducible refine crz (spec_PairsIn.M _ _ zDs18 va vb _ (rc RDs18) (rl RDs18)) B fun zIs20 hzIs20 AIs20 kIs20 w103 hb B RIs20 QIs20 => ?_
      have MRIs20 := mrf QIs20 KK
      replace F4 := bn F4 hb
      replace F5 := bn F5 hb
      replace HI := hib HI hb
      replace KK := kkb KK hb
      clear hb
      refine ⟨_, rfl, ?_⟩
      refine hK.out _ _ F5.out (fun hHeld => ?_)
      clear hK K
      refine norm_ (a' := ?_) ?_ ?_
      rotate_left
      ·show Act.put _ (some 20) _ = _
       simp only [Act.put, za, zb, zc, i64_w, i32_w]
       rfl
      clear QIs20
      refine two_ (i := 6) (j := 8) (Ni := some 22) (Nj := some 6) (bits 10 127) (bits 10 319) rfl rfl rfl rfl (two_of HT_.out (by kernel_rfl)) (by decide) (by decide) (fun K hK => ?_) (fun K hK => ?_)
      ·refine goes_ Try.func98 (by kernel_rfl) rfl #[.pointer (some ⟨g, 0, none⟩), .int .i64 (0)] (by rfl) rfl rfl (by (try simp only [List.map_toArray, List.map_cons, List.map_nil]); rfl) ?_
       (with_reducible refine cgr (spec_l20Sessions.D 0 (by omega) w _ g bs ps18 HI.out B.out HC.out (by omega) (by omega)) fun zDs22 ADs22 kDs22 ps22 hxs22 hps22 w104 hk B HI2 RDs22 QDs22 => ?_)
       have DIs20_Ds22 := fr QDs22 RIs20
       have MRDs22 := mrf QDs22 KK
       replace F4 := bkr F4 HI (by decide) hk
       replace F5 := bkr F5 HI (by decide) hk
       replace RIs20 := rkr RIs20 HI (by decide) hk
       replace KK := kkr KK hk
       replace HI := HI2
       clear hk QDs22
       refine ⟨_, rfl, ?_⟩
       refine hK.out _ _ F5.out (fun hHeld => ?_)
       clear hK K
       refine norm_ (a' := ?_) ?_ ?_
       rotate_left
       ·show Act.put _ (some 22) _ = _
        simp only [Act.put, za, zb, zc, i64_w, i32_w]
        rfl
       refine pv 7 (some 23) (v := ?_) (bits 10 255) HT_ (by kernel_rfl) rfl rfl (fun _ _ _ h => h) (by kernel_rfl) ?_ ?_; rotate_left; (intro w'; go_simp; with_reducible rfl)
       refine norm_ (a' := ?_) ?_ ?_
       rotate_left
       ·simp only [Act.put, za, zb, zc, i64_w, i32_w]
        rfl
       refine one_ (i := 8) (N := some 6) (bits 10 511) rfl rfl (one_of HT_.out (by kernel_rfl)) (by decide) (fun K hK => ?_)
       refine bxs (cs := #[.string (⟨#[]⟩ : ByteArray), .string (⟨#[]⟩ : ByteArray), .slice none 0 0, .slice none 0 0, .bool false, .string (⟨#[]⟩ : ByteArray)]) (t := 34) (by rfl) rfl ?hr B (fun g6 w105 hb B F6 L6 E6 => ?_)
       (case hr => go_simp; first | done | rfl)
       have N4_6 := ne1 E6 F4
       have N5_6 := ne1 E6 F5
       have M6 := mbx E6 KK
       replace F4 := bn F4 hb
       replace F5 := bn F5 hb
       replace RIs20 := rn RIs20 hb
       replace RDs22 := rn RDs22 hb
       replace HI := hib HI hb
       replace KK := kkb KK hb
       clear hb E6
       refine hK.out _ _ F5.out (fun hHeld => ?_)
       clear hK K
       refine norm_ (a' := ?_) ?_ ?_
       rotate_left
       ·show Act.put _ (some 6) _ = _
        simp only [Act.put, za, zb, zc, i64_w, i32_w]
        rfl
       refine norm_ (a' := _) ?_ (J ⟨ADs18, kDs18, zDs18, AIs20, kIs20, zIs20, ADs22, kDs22, zDs22, g6, ps22⟩ _ ⟨B, F4, F5, F6, L6, N4_6, N5_6, RIs20, RDs22, DIs20_Ds22, HI, KK, M6, MRIs20, MRDs22, (by omega), (by rw [← hzIs20]; exact Nat.le_trans (inM_len _ _ _) hxs18), hxs22⟩)
       simp only [putAll, Act.put, za, zb, zc]
       try rfl
      ·refine bxs (cs := #[.string (⟨#[]⟩ : ByteArray), .string (⟨#[]⟩ : ByteArray), .slice none 0 0, .slice none 0 0, .bool false, .string (⟨#[]⟩ : ByteArray)]) (t := 34) (by rfl) rfl ?hr B (fun g6 w104 hb B F6 L6 E6 => ?_)
       (case hr => go_simp; first | done | rfl)
       have N4_6 := ne1 E6 F4
       have N5_6 := ne1 E6 F5
       have M6 := mbx E6 KK
       replace F4 := bn F4 hb
       replace F5 := bn F5 hb
       replace RIs20 := rn RIs20 hb
       replace HI := hib HI hb
       replace KK := kkb KK hb
       clear hb E6
       refine hK.out _ _ F5.out (fun hHeld => ?_)
       clear hK K
       refine norm_ (a' := ?_) ?_ ?_
       rotate_left
       ·show Act.put _ (some 6) _ = _
        simp only [Act.put, za, zb, zc, i64_w, i32_w]
        rfl
       refine one_ (i := 6) (N := some 22) (bits 10 383) rfl rfl (one_of HT_.out (by kernel_rfl)) (by decide) (fun K hK => ?_)
       refine goes_ Try.func98 (by kernel_rfl) rfl #[.pointer (some ⟨g, 0, none⟩), .int .i64 (0)] (by rfl) rfl rfl (by (try simp only [List.map_toArray, List.map_cons, List.map_nil]); rfl) ?_
       (with_reducible refine cgr (spec_l20Sessions.D 0 (by omega) w _ g bs ps18 HI.out B.out HC.out (by omega) (by omega)) fun zDs22 ADs22 kDs22 ps22 hxs22 hps22 w105 hk B HI2 RDs22 QDs22 => ?_)
       have DIs20_Ds22 := fr QDs22 RIs20
       have MRDs22 := mrf QDs22 KK
       replace F4 := bkr F4 HI (by decide) hk
       replace F5 := bkr F5 HI (by decide) hk
       replace F6 := bkr F6 HI (by decide) hk
       replace RIs20 := rkr RIs20 HI (by decide) hk
       replace KK := kkr KK hk
       replace HI := HI2
       clear hk QDs22
       refine ⟨_, rfl, ?_⟩
       refine hK.out _ _ F5.out (fun hHeld => ?_)
       clear hK K
       refine norm_ (a' := ?_) ?_ ?_
       rotate_left
       ·show Act.put _ (some 22) _ = _
        simp only [Act.put, za, zb, zc, i64_w, i32_w]
        rfl
       refine pv 7 (some 23) (v := ?_) (bits 10 511) HT_ (by kernel_rfl) rfl rfl (fun _ _ _ h => h) (by kernel_rfl) ?_ ?_; rotate_left; (intro w'; go_simp; with_reducible rfl)
       refine norm_ (a' := ?_) ?_ ?_
       rotate_left
       ·simp only [Act.put, za, zb, zc, i64_w, i32_w]
        rfl
       refine norm_ (a' := _) ?_ (J ⟨ADs18, kDs18, zDs18, AIs20, kIs20, zIs20, ADs22, kDs22, zDs22, g6, ps22⟩ _ ⟨B, F4, F5, F6, L6, N4_6, N5_6, RIs20, RDs22, DIs20_Ds22, HI, KK, M6, MRIs20, MRDs22, (by omega), (by rw [← hzIs20]; exact Nat.le_trans (inM_len _ _ _) hxs18), hxs22⟩)
       simp only [putAll, Act.put, za, zb, zc]
       try rfl
     ·refine bxs (cs := #[.string (⟨#[]⟩ : ByteArray), .string (⟨#[]⟩ : ByteArray), .slice none 0 0, .slice none 0 0, .bool false, .string (⟨#[]⟩ : ByteArray)]) (t := 34) (by rfl) rfl ?hr B (fun g6 w103 hb B F6 L6 E6 => ?_)
      (case hr => go_simp; first | done | rfl)
      have N4_6 := ne1 E6 F4
      have N5_6 := ne1 E6 F5
      have M6 := mbx E6 KK
      replace F4 := bn F4 hb
      replace F5 := bn F5 hb
      replace RDs18 := rn RDs18 hb
      replace HI := hib HI hb
      replace KK := kkb KK hb
      clear hb E6
      refine hK.out _ _ F5.out (fun hHeld => ?_)
      clear hK K
      refine norm_ (a' := ?_) ?_ ?_
      rotate_left
      ·show Act.put _ (some 6) _ = _
       simp only [Act.put, za, zb, zc, i64_w, i32_w]
       rfl
      refine one_ (i := 4) (N := some 20) (bits 10 319) rfl rfl (one_of HT_.out (by kernel_rfl)) (by decide) (fun K hK => ?_)
      refine goes_ Try.func74 (by kernel_rfl) rfl #[.slice ADs18 zDs18.length kDs18, .agg #[.string va, .string vb]] (by rfl) rfl rfl (by (try simp only [List.map_toArray, List.map_cons, List.map_nil]); rfl) ?_
      with_reducible refine crz (spec_PairsIn.M _ _ zDs18 va vb _ (rc RDs18) (rl RDs18)) B fun zIs20 hzIs20 AIs20 kIs20 w104 hb B RIs20 QIs20 => ?_
      have MRIs20 := mrf QIs20 KK
      replace F4 := bn F4 hb
      replace F5 := bn F5 hb
      replace F6 := bn F6 hb
      replace HI := hib HI hb
      replace KK := kkb KK hb
      clear hb
      refine ⟨_, rfl, ?_⟩
      refine hK.out _ _ F5.out (fun hHeld => ?_)
      clear hK K
      refine norm_ (a' := ?_) ?_ ?_
      rotate_left
      ·show Act.put _ (some 20) _ = _
       simp only [Act.put, za, zb, zc, i64_w, i32_w]
       rfl
      clear QIs20
      refine one_ (i := 6) (N := some 22) (bits 10 383) rfl rfl (one_of HT_.out (by kernel_rfl)) (by decide) (fun K hK => ?_)
      refine goes_ Try.func98 (by kernel_rfl) rfl #[.pointer (some ⟨g, 0, none⟩), .int .i64 (0)] (by rfl) rfl rfl (by (try simp only [List.map_toArray, List.map_cons, List.map_nil]); rfl) ?_
      (with_reducible refine cgr (spec_l20Sessions.D 0 (by omega) w _ g bs ps18 HI.out B.out HC.out (by omega) (by omega)) fun zDs22 ADs22 kDs22 ps22 hxs22 hps22 w105 hk B HI2 RDs22 QDs22 => ?_)
      have DIs20_Ds22 := fr QDs22 RIs20
      have MRDs22 := mrf QDs22 KK
      replace F4 := bkr F4 HI (by decide) hk
      replace F5 := bkr F5 HI (by decide) hk
      replace F6 := bkr F6 HI (by decide) hk
      replace RIs20 := rkr RIs20 HI (by decide) hk
      replace KK := kkr KK hk
      replace HI := HI2
      clear hk QDs22
      refine ⟨_, rfl, ?_⟩
      refine hK.out _ _ F5.out (fun hHeld => ?_)
      clear hK K
      refine norm_ (a' := ?_) ?_ ?_
      rotate_left
      ·show Act.put _ (some 22) _ = _
       simp only [Act.put, za, zb, zc, i64_w, i32_w]
       rfl
      refine pv 7 (some 23) (v := ?_) (bits 10 511) HT_ (by kernel_rfl) rfl rfl (fun _ _ _ h => h) (by kernel_rfl) ?_ ?_; rotate_left; (intro w'; go_simp; with_reducible rfl)
      refine norm_ (a' := ?_) ?_ ?_
      rotate_left
      ·simp only [Act.put, za, zb, zc, i64_w, i32_w]
       rfl
      refine norm_ (a' := _) ?_ (J ⟨ADs18, kDs18, zDs18, AIs20, kIs20, zIs20, ADs22, kDs22, zDs22, g6, ps22⟩ _ ⟨B, F4, F5, F6, L6, N4_6, N5_6, RIs20, RDs22, DIs20_Ds22, HI, KK, M6, MRIs20, MRDs22, (by omega), (by rw [← hzIs20]; exact Nat.le_trans (inM_len _ _ _) hxs18), hxs22⟩)
      simp only [putAll, Act.put, za, zb, zc]
      try rfl
    ·refine bxs (cs := #[.string (⟨#[]⟩ : ByteArray), .string (⟨#[]⟩ : ByteArray), .slice none 0 0, .slice none 0 0, .bool false, .string (⟨#[]⟩ : ByteArray)]) (t := 34) (by rfl) rfl ?hr B (fun g6 w102 hb B F6 L6 E6 => ?_)
     (case hr => go_simp; first | done | rfl)
     have N4_6 := ne1 E6 F4
     have N5_6 := ne1 E6 F5
     have M6 := mbx E6 KK
     replace F4 := bn F4 hb
     replace F5 := bn F5 hb
     replace HI := hib HI hb
     replace KK := kkb KK hb
     clear hb E6
     refine hK.out _ _ F5.out (fun hHeld => ?_)
     clear hK K
     refine norm_ (a' := ?_) ?_ ?_
     rotate_left
     ·show Act.put _ (some 6) _ = _
      simp only [Act.put, za, zb, zc, i64_w, i32_w]
      rfl
     refine one_ (i := 2) (N := some 18) (bits 10 303) rfl rfl (one_of HT_.out (by kernel_rfl)) (by decide) (fun K hK => ?_)
     refine goes_ Try.func97 (by kernel_rfl) rfl #[.pointer (some ⟨g, 0, none⟩), .int .i64 (0)] (by rfl) rfl rfl (by (try simp only [List.map_toArray, List.map_cons, List.map_nil]); rfl) ?_
     (with_reducible refine cgr (spec_l20Pairs.D 0 (by omega) w _ g bs p5 HI.out B.out HC.out (by omega) (by omega)) fun zDs18 ADs18 kDs18 ps18 hxs18 hps18 w103 hk B HI2 RDs18 QDs18 => ?_)
     have MRDs18 := mrf QDs18 KK
     replace F4 := bkr F4 HI (by decide) hk
     replace F5 := bkr F5 HI (by decide) hk
     replace F6 := bkr F6 HI (by decide) hk
     replace KK := kkr KK hk
     replace HI := HI2
     clear hk QDs18
     refine ⟨_, rfl, ?_⟩
     refine hK.out _ _ F5.out (fun hHeld => ?_)
     clear hK K
     refine norm_ (a' := ?_) ?_ ?_
     rotate_left
     ·show Act.put _ (some 18) _ = _
      simp only [Act.put, za, zb, zc, i64_w, i32_w]
      rfl
     refine one_ (i := 4) (N := some 20) (bits 10 319) rfl rfl (one_of HT_.out (by kernel_rfl)) (by decide) (fun K hK => ?_)
     refine goes_ Try.func74 (by kernel_rfl) rfl #[.slice ADs18 zDs18.length kDs18, .agg #[.string va, .string vb]] (by rfl) rfl rfl (by (try simp only [List.map_toArray, List.map_cons, List.map_nil]); rfl) ?_
     with_reducible refine crz (spec_PairsIn.M _ _ zDs18 va vb _ (rc RDs18) (rl RDs18)) B fun zIs20 hzIs20 AIs20 kIs20 w104 hb B RIs20 QIs20 => ?_
     have MRIs20 := mrf QIs20 KK
     replace F4 := bn F4 hb
     replace F5 := bn F5 hb
     replace F6 := bn F6 hb
     replace HI := hib HI hb
     replace KK := kkb KK hb
     clear hb
     refine ⟨_, rfl, ?_⟩
     refine hK.out _ _ F5.out (fun hHeld => ?_)
     clear hK K
     refine norm_ (a' := ?_) ?_ ?_
     rotate_left
     ·show Act.put _ (some 20) _ = _
      simp only [Act.put, za, zb, zc, i64_w, i32_w]
      rfl
     clear QIs20
     refine one_ (i := 6) (N := some 22) (bits 10 383) rfl rfl (one_of HT_.out (by kernel_rfl)) (by decide) (fun K hK => ?_)
     refine goes_ Try.func98 (by kernel_rfl) rfl #[.pointer (some ⟨g, 0, none⟩), .int .i64 (0)] (by rfl) rfl rfl (by (try simp only [List.map_toArray, List.map_cons, List.map_nil]); rfl) ?_
     (with_reducible refine cgr (spec_l20Sessions.D 0 (by omega) w _ g bs ps18 HI.out B.out HC.out (by omega) (by omega)) fun zDs22 ADs22 kDs22 ps22 hxs22 hps22 w105 hk B HI2 RDs22 QDs22 => ?_)
     have DIs20_Ds22 := fr QDs22 RIs20
     have MRDs22 := mrf QDs22 KK
     replace F4 := bkr F4 HI (by decide) hk
     replace F5 := bkr F5 HI (by decide) hk
     replace F6 := bkr F6 HI (by decide) hk
     replace RIs20 := rkr RIs20 HI (by decide) hk
     replace KK := kkr KK hk
     replace HI := HI2
     clear hk QDs22
     refine ⟨_, rfl, ?_⟩
     refine hK.out _ _ F5.out (fun hHeld => ?_)
     clear hK K
     refine norm_ (a' := ?_) ?_ ?_
     rotate_left
     ·show Act.put _ (some 22) _ = _
      simp only [Act.put, za, zb, zc, i64_w, i32_w]
      rfl
     refine pv 7 (some 23) (v := ?_) (bits 10 511) HT_ (by kernel_rfl) rfl rfl (fun _ _ _ h => h) (by kernel_rfl) ?_ ?_; rotate_left; (intro w'; go_simp; with_reducible rfl)
     refine norm_ (a' := ?_) ?_ ?_
     rotate_left
     ·simp only [Act.put, za, zb, zc, i64_w, i32_w]
      rfl
     refine norm_ (a' := _) ?_ (J ⟨ADs18, kDs18, zDs18, AIs20, kIs20, zIs20, ADs22, kDs22, zDs22, g6, ps22⟩ _ ⟨B, F4, F5, F6, L6, N4_6, N5_6, RIs20, RDs22, DIs20_Ds22, HI, KK, M6, MRIs20, MRDs22, (by omega), (by rw [← hzIs20]; exact Nat.le_trans (inM_len _ _ _) hxs18), hxs22⟩)
     simp only [putAll, Act.put, za, zb, zc]
     try rfl
   rintro ⟨ADs18, kDs18, zDs18, AIs20, kIs20, zIs20, ADs22, kDs22, zDs22, g6, ps22⟩ w106 ⟨B, F4, F5, F6, L6, N4_6, N5_6, RIs20, RDs22, DIs20_Ds22, HI, KK, M6, MRIs20, MRDs22, hpj4, hlIs20, hlDs22⟩
   refine norm_ (a' := ?_) ?_ ?_
   rotate_left
   ·simp only [putAll, Act.put, za, zb, zc]
    rfl
   refine one_ (i := 9) (N := none) (bits 10 1023) rfl rfl (one_of HT_.out (by kernel_rfl)) (by decide) (fun K hK => ?_)
   obtain ⟨y0, y1, y2, y3, y4, y5, z0, z1, z2, z3, z4, z5⟩ := cz6 F6
   refine sxs (g := g6) 0 [.string va, .string vb, .slice AIs20 zIs20.length kIs20, .slice ADs22 zDs22.length kDs22, .bool false, .string (⟨#[]⟩ : ByteArray)] [.string va, .string vb, .slice AIs20 zIs20.length kIs20, .slice ADs22 zDs22.length kDs22, .bool false, .string (⟨#[]⟩ : ByteArray)] (by rfl) rfl ?hr B F6 L6 rfl (Nat.le_of_ble_eq_true rfl) (fun w107 hk B G => ?_)
   (case hr => go_simp; first | done | rfl)
   replace F4 := bk F4 hk N4_6.out
   replace F5 := bk F5 hk N5_6.out
   replace RIs20 := rk RIs20 F6 (by decide) hk
   replace RDs22 := rk RDs22 F6 (by decide) hk
   replace HI := his HI F6 (by decide) hk
   replace KK := kks KK M6 hk
   replace F6 := G
   clear hk y0 z0 y1 z1 y2 z2 y3 z3 y4 z4 y5 z5
   refine hK.out _ _ F5.out (fun hHeld => ?_)
   clear hK K
   refine done_ (done_of HT_.out (by kernel_rfl)) ?_
   clear c5_0 c5_1
   obtain ⟨c5_0, c5_1⟩ := cs2 F5
   obtain ⟨c6_0, c6_1, c6_2, c6_3, c6_4, c6_5⟩ := cs6 F6)
  go_upto_if 26 with (first
   | (go_at_call 79; (with_reducible refine cg1 (spec_l20Rd_pick.D 5 w _ g bs ps22 HI.out B.out HC.out (by omega) (by omega)) fun x151 p151 hx151 hp151 w151 hk B HI2 => ?_); replace F4 := bkr F4 HI (by decide) hk; replace F5 := bkr F5 HI (by decide) hk; replace F6 := bkr F6 HI (by decide) hk; replace RIs20 := rkr RIs20 HI (by decide) hk; replace RDs22 := rkr RDs22 HI (by decide) hk; replace KK := kkr KK hk; replace HI := HI2; clear hk; clear c5_0 c5_1; obtain ⟨c5_0, c5_1⟩ := cs2 F5; clear c6_0 c6_1 c6_2 c6_3 c6_4 c6_5; obtain ⟨c6_0, c6_1, c6_2, c6_3, c6_4, c6_5⟩ := cs6 F6; skip))
  go_cut [6] (fun v6 wc => ∃ (tb : Bool) (ct : ByteArray) (pp : Int), v6 = .pointer (some ⟨g6, 0, none⟩) ∧ (p ≤ pp ∧ pp ≤ p + 300) ∧ Aside0 (wc.heap[g6]? = some (.cells #[.string va, .string vb, .slice AIs20 zIs20.length kIs20, .slice ADs22 zDs22.length kDs22, .bool tb, .string ct] 34 (0, 0))) ∧ Aside0 (wc.heap[g4]? = some (.cells #[.string (⟨#[]⟩ : ByteArray), .string (⟨#[]⟩ : ByteArray), .slice none 0 0, .slice none 0 0, .bool false, .string (⟨#[]⟩ : ByteArray)] 34 (0, 0))) ∧ Aside0 (Ow k61 61 wc w.heap.size (.slice AIs20 zIs20.length kIs20) zIs20) ∧ Aside0 (Ow k100 100 wc w.heap.size (.slice ADs22 zDs22.length kDs22) zDs22) ∧ Aside0 (IsS119 w wc g bs pp) ∧ Aside0 (Kept W0 wc (RB g)) ∧ Aside0 (Below w.heap.size w wc))
  case first =>
   go_wp2_with (first
    | ((with_reducible refine gate_store (t := 4) (p := 27) rfl ?_); obtain ⟨y0, y1, y2, y3, y4, y5, z0, z1, z2, z3, z4, z5⟩ := cz6 F6; refine sx (t := 34) (t' := 4) (p := 27) (v := ?vo201) ?hg ?ho ?hn 4 [.bool true] [.string va, .string vb, .slice AIs20 zIs20.length kIs20, .slice ADs22 zDs22.length kDs22, .bool true, .string (⟨#[]⟩ : ByteArray)] ?hr B F6 L6 rfl (Nat.le_of_ble_eq_true rfl) ?_; (case ho | hg | hn => rfl); (case hr => go_simp; first | done | rfl); intro w201 hk B G; replace F4 := bk F4 hk N4_6.out; replace F5 := bk F5 hk N5_6.out; replace RIs20 := rk RIs20 F6 (by decide) hk; replace RDs22 := rk RDs22 F6 (by decide) hk; replace HI := his HI F6 (by decide) hk; replace KK := kks KK M6 hk; replace F6 := G; clear c5_0 c5_1; obtain ⟨c5_0, c5_1⟩ := cs2 F5; clear c6_0 c6_1 c6_2 c6_3 c6_4 c6_5; obtain ⟨c6_0, c6_1, c6_2, c6_3, c6_4, c6_5⟩ := cs6 F6; clear hk y0 z0 y1 z1 y2 z2 y3 z3 y4 z4 y5 z5)
    | (go_at_call 51; with_reducible refine cl (spec_IntervalCut.M va vb (⟨#[99]⟩ : ByteArray) _) B fun w202 hb B => ?_; replace F4 := bn F4 hb; replace F5 := bn F5 hb; replace F6 := bn F6 hb; replace RIs20 := rn RIs20 hb; replace RDs22 := rn RDs22 hb; replace HI := hib HI hb; replace KK := kkb KK hb; clear c6_0 c6_1 c6_2 c6_3 c6_4 c6_5; obtain ⟨c6_0, c6_1, c6_2, c6_3, c6_4, c6_5⟩ := cs6 F6; clear hb)
    | ((with_reducible refine gate_dst (N := 7) rfl ?_); refine bx ?hg (N := 7) ?hd (cs := #[.string (⟨#[]⟩ : ByteArray), .string (⟨#[]⟩ : ByteArray)]) (t := 30) ?hr B ?_; (case hd | hg => rfl); (case hr => go_simp; first | done | rfl); intro g7 w203 hb B F7 L7 E7; have N4_7 := ne1 E7 F4; have N5_7 := ne1 E7 F5; have N6_7 := ne1 E7 F6; have M7 := mbx E7 KK; replace F4 := bn F4 hb; replace F5 := bn F5 hb; replace F6 := bn F6 hb; replace RIs20 := rn RIs20 hb; replace RDs22 := rn RDs22 hb; replace HI := hib HI hb; replace KK := kkb KK hb; clear c6_0 c6_1 c6_2 c6_3 c6_4 c6_5; obtain ⟨c6_0, c6_1, c6_2, c6_3, c6_4, c6_5⟩ := cs6 F6; clear hb E7)
    | ((with_reducible refine gate_dst (N := 8) rfl ?_); refine bx ?hg (N := 8) ?hd (cs := #[.string (⟨#[]⟩ : ByteArray), .string (⟨#[]⟩ : ByteArray)]) (t := 30) ?hr B ?_; (case hd | hg => rfl); (case hr => go_simp; first | done | rfl); intro g8 w204 hb B F8 L8 E8; have N4_8 := ne1 E8 F4; have N5_8 := ne1 E8 F5; have N6_8 := ne1 E8 F6; have N7_8 := ne1 E8 F7; have M8 := mbx E8 KK; replace F4 := bn F4 hb; replace F5 := bn F5 hb; replace F6 := bn F6 hb; replace F7 := bn F7 hb; replace RIs20 := rn RIs20 hb; replace RDs22 := rn RDs22 hb; replace HI := hib HI hb; replace KK := kkb KK hb; clear c6_0 c6_1 c6_2 c6_3 c6_4 c6_5; obtain ⟨c6_0, c6_1, c6_2, c6_3, c6_4, c6_5⟩ := cs6 F6; clear hb E8)
    | ((with_reducible refine gate_store (t := 30) (p := 7) rfl ?_); obtain ⟨y0, y1, z0, z1⟩ := cz2 F7; refine sx (t := 30) (t' := 30) (p := 7) (v := ?vo205) ?hg ?ho ?hn 0 [.string (cutV va vb (⟨#[99]⟩ : ByteArray)).1, .string (cutV va vb (⟨#[99]⟩ : ByteArray)).2.1] [.string (cutV va vb (⟨#[99]⟩ : ByteArray)).1, .string (cutV va vb (⟨#[99]⟩ : ByteArray)).2.1] ?hr B F7 L7 rfl (Nat.le_of_ble_eq_true rfl) ?_; (case ho | hg | hn => rfl); (case hr => go_simp; first | done | rfl); intro w205 hk B G; replace F4 := bk F4 hk N4_7.out; replace F5 := bk F5 hk N5_7.out; replace F6 := bk F6 hk N6_7.out; replace F8 := bk F8 hk N7_8.out.symm; replace RIs20 := rk RIs20 F7 (by decide) hk; replace RDs22 := rk RDs22 F7 (by decide) hk; replace HI := his HI F7 (by decide) hk; replace KK := kks KK M7 hk; replace F7 := G; clear c6_0 c6_1 c6_2 c6_3 c6_4 c6_5; obtain ⟨c6_0, c6_1, c6_2, c6_3, c6_4, c6_5⟩ := cs6 F6; clear hk y0 z0 y1 z1)
    | ((with_reducible refine gate_store (t := 30) (p := 8) rfl ?_); obtain ⟨y0, y1, z0, z1⟩ := cz2 F8; refine sx (t := 30) (t' := 30) (p := 8) (v := ?vo206) ?hg ?ho ?hn 0 [.string (cutV va vb (⟨#[99]⟩ : ByteArray)).2.2.1, .string (cutV va vb (⟨#[99]⟩ : ByteArray)).2.2.2.1] [.string (cutV va vb (⟨#[99]⟩ : ByteArray)).2.2.1, .string (cutV va vb (⟨#[99]⟩ : ByteArray)).2.2.2.1] ?hr B F8 L8 rfl (Nat.le_of_ble_eq_true rfl) ?_; (case ho | hg | hn => rfl); (case hr => go_simp; first | done | rfl); intro w206 hk B G; replace F4 := bk F4 hk N4_8.out; replace F5 := bk F5 hk N5_8.out; replace F6 := bk F6 hk N6_8.out; replace RIs20 := rk RIs20 F8 (by decide) hk; replace RDs22 := rk RDs22 F8 (by decide) hk; replace HI := his HI F8 (by decide) hk; replace KK := kks KK M8 hk; replace F8 := G; clear c6_0 c6_1 c6_2 c6_3 c6_4 c6_5; obtain ⟨c6_0, c6_1, c6_2, c6_3, c6_4, c6_5⟩ := cs6 F6; clear hk y0 z0 y1 z1)
    | (go_at_call 79; (with_reducible refine cg1 (spec_l20Rd_pick.D 2 w _ g bs p151 HI.out B.out HC.out (by omega) (by omega)) fun x207 p207 hx207 hp207 w207 hk B HI2 => ?_); replace F4 := bkr F4 HI (by decide) hk; replace F5 := bkr F5 HI (by decide) hk; replace F6 := bkr F6 HI (by decide) hk; replace RIs20 := rkr RIs20 HI (by decide) hk; replace RDs22 := rkr RDs22 HI (by decide) hk; replace KK := kkr KK hk; replace HI := HI2; clear hk; clear c6_0 c6_1 c6_2 c6_3 c6_4 c6_5; obtain ⟨c6_0, c6_1, c6_2, c6_3, c6_4, c6_5⟩ := cs6 F6; skip)
    | ((with_reducible refine gate_store (t := 9) (p := 40) rfl ?_); obtain ⟨y0, y1, y2, y3, y4, y5, z0, z1, z2, z3, z4, z5⟩ := cz6 F6; refine sx (t := 34) (t' := 9) (p := 40) (v := ?vo208) ?hg ?ho ?hn 5 [.string (⟨#[99]⟩ : ByteArray)] [.string va, .string vb, .slice AIs20 zIs20.length kIs20, .slice ADs22 zDs22.length kDs22, .bool true, .string (⟨#[99]⟩ : ByteArray)] ?hr B F6 L6 rfl (Nat.le_of_ble_eq_true rfl) ?_; (case ho | hg | hn => rfl); (case hr => go_simp; first | done | rfl); intro w208 hk B G; replace F4 := bk F4 hk N4_6.out; replace F5 := bk F5 hk N5_6.out; replace RIs20 := rk RIs20 F6 (by decide) hk; replace RDs22 := rk RDs22 F6 (by decide) hk; replace HI := his HI F6 (by decide) hk; replace KK := kks KK M6 hk; replace F6 := G; clear c6_0 c6_1 c6_2 c6_3 c6_4 c6_5; obtain ⟨c6_0, c6_1, c6_2, c6_3, c6_4, c6_5⟩ := cs6 F6; clear hk y0 z0 y1 z1 y2 z2 y3 z3 y4 z4 y5 z5))
   all_goals (go_meet; (case rel => exact ⟨_, _, _, rfl, by omega, F6, F4, RIs20, RDs22, HI, KK, B⟩))
  case rest =>
   clear B HI KK F4 F5 F6 RIs20 RDs22
   obtain ⟨tb, ct, pp, rfl, hpp, F6, F4, RIs20, RDs22, HI, KK, B⟩ := hcut
   obtain ⟨c4_0, c4_1, c4_2, c4_3, c4_4, c4_5⟩ := cs6 F4
   obtain ⟨c6_0, c6_1, c6_2, c6_3, c6_4, c6_5⟩ := cs6 F6
   go_upto_if 43 with (first
    | (go_at_call 99; (with_reducible refine cg1 (spec_l20Rd_odd.D n (by omega) w _ g bs pp HI.out B.out HC.out (by omega) (by omega)) fun x301 p301 hx301 hp301 w301 hk B HI2 => ?_); replace F4 := bkr F4 HI (by decide) hk; replace F6 := bkr F6 HI (by decide) hk; replace RIs20 := rkr RIs20 HI (by decide) hk; replace RDs22 := rkr RDs22 HI (by decide) hk; replace KK := kkr KK hk; replace HI := HI2; clear hk; clear c6_0 c6_1 c6_2 c6_3 c6_4 c6_5; obtain ⟨c6_0, c6_1, c6_2, c6_3, c6_4, c6_5⟩ := cs6 F6; skip))
   go_cut [6] (fun v6 wc => ∃ (x0 x1 : ByteArray) (v2 v3 : Value) (x4 : Bool) (x5 : ByteArray) (xs : List S61) (ys : List S100) (pq : Int), v6 = .pointer (some ⟨g6, 0, none⟩) ∧ (p ≤ pq ∧ pq ≤ p + 900) ∧ (xs.length ≤ 300 ∧ ys.length ≤ 300) ∧ Aside0 (wc.heap[g6]? = some (.cells #[.string x0, .string x1, v2, v3, .bool x4, .string x5] 34 (0, 0))) ∧ Aside0 (wc.heap[g4]? = some (.cells #[.string (⟨#[]⟩ : ByteArray), .string (⟨#[]⟩ : ByteArray), .slice none 0 0, .slice none 0 0, .bool false, .string (⟨#[]⟩ : ByteArray)] 34 (0, 0))) ∧ (Aside0 (Ow k61 61 wc w.heap.size (v2) xs) ∧ Aside0 (Fr W0 v2)) ∧ (Aside0 (Ow k100 100 wc w.heap.size (v3) ys) ∧ Aside0 (Fr W0 v3)) ∧ Aside0 (IsS119 w wc g bs pq) ∧ Aside0 (Kept W0 wc (RB g)) ∧ Aside0 (Below w.heap.size w wc))
   case first =>
    go_wp2_with (first
     | (go_at_call 79; (with_reducible refine cg1 (spec_l20Rd_pick.D 5 w _ g bs p301 HI.out B.out HC.out (by omega) (by omega)) fun x351 p351 hx351 hp351 w351 hk B HI2 => ?_); replace F4 := bkr F4 HI (by decide) hk; replace F6 := bkr F6 HI (by decide) hk; replace RIs20 := rkr RIs20 HI (by decide) hk; replace RDs22 := rkr RDs22 HI (by decide) hk; replace KK := kkr KK hk; replace HI := HI2; clear hk; clear c6_0 c6_1 c6_2 c6_3 c6_4 c6_5; obtain ⟨c6_0, c6_1, c6_2, c6_3, c6_4, c6_5⟩ := cs6 F6; skip)
     | (go_at_call 77; (with_reducible refine cg2 (spec_l20Span.D 1 (by omega) w _ g bs p351 HI.out B.out HC.out (by omega) (by omega)) fun x401 y401 p401 hx401 hp401 w401 hk B HI2 => ?_); replace F4 := bkr F4 HI (by decide) hk; replace F6 := bkr F6 HI (by decide) hk; replace RIs20 := rkr RIs20 HI (by decide) hk; replace RDs22 := rkr RDs22 HI (by decide) hk; replace KK := kkr KK hk; replace HI := HI2; clear hk; clear c6_0 c6_1 c6_2 c6_3 c6_4 c6_5; obtain ⟨c6_0, c6_1, c6_2, c6_3, c6_4, c6_5⟩ := cs6 F6; skip)
     | ((with_reducible refine gate_store (t := 30) (p := 55) rfl ?_); obtain ⟨y0, y1, y2, y3, y4, y5, z0, z1, z2, z3, z4, z5⟩ := cz6 F6; refine sx (t := 34) (t' := 30) (p := 55) (v := ?vo402) ?hg ?ho ?hn 0 [.string x401, .string y401] [.string x401, .string y401, .slice AIs20 zIs20.length kIs20, .slice ADs22 zDs22.length kDs22, .bool tb, .string ct] ?hr B F6 L6 rfl (Nat.le_of_ble_eq_true rfl) ?_; (case ho | hg | hn => rfl); (case hr => go_simp; first | done | rfl); intro w402 hk B G; replace F4 := bk F4 hk N4_6.out; replace RIs20 := rk RIs20 F6 (by decide) hk; replace RDs22 := rk RDs22 F6 (by decide) hk; replace HI := his HI F6 (by decide) hk; replace KK := kks KK M6 hk; replace F6 := G; clear c6_0 c6_1 c6_2 c6_3 c6_4 c6_5; obtain ⟨c6_0, c6_1, c6_2, c6_3, c6_4, c6_5⟩ := cs6 F6; clear hk y0 z0 y1 z1 y2 z2 y3 z3 y4 z4 y5 z5)
     | (go_at_call 97; (with_reducible refine cgr (spec_l20Pairs.D 1 (by omega) w _ g bs p351 HI.out B.out HC.out (by omega) (by omega)) fun zD451 AD451 kD451 p451 hx451 hp451 w451 hk B HI2 RD451 QD451 => ?_); have DIs20_D451 := fr QD451 RIs20; have DDs22_D451 := fr QD451 RDs22; have MRD451 := mrf QD451 KK; replace F4 := bkr F4 HI (by decide) hk; replace F6 := bkr F6 HI (by decide) hk; replace RIs20 := rkr RIs20 HI (by decide) hk; replace RDs22 := rkr RDs22 HI (by decide) hk; replace KK := kkr KK hk; replace HI := HI2; clear hk QD451; clear c6_0 c6_1 c6_2 c6_3 c6_4 c6_5; obtain ⟨c6_0, c6_1, c6_2, c6_3, c6_4, c6_5⟩ := cs6 F6; skip)
     | ((with_reducible refine gate_store (t := 31) (p := 60) rfl ?_); obtain ⟨y0, y1, y2, y3, y4, y5, z0, z1, z2, z3, z4, z5⟩ := cz6 F6; refine sx (t := 34) (t' := 31) (p := 60) (v := ?vo452) ?hg ?ho ?hn 2 [.slice AD451 zD451.length kD451] [.string va, .string vb, .slice AD451 zD451.length kD451, .slice ADs22 zDs22.length kDs22, .bool tb, .string ct] ?hr B F6 L6 rfl (Nat.le_of_ble_eq_true rfl) ?_; (case ho | hg | hn => rfl); (case hr => go_simp; first | done | rfl); intro w452 hk B G; replace F4 := bk F4 hk N4_6.out; replace RIs20 := rk RIs20 F6 (by decide) hk; replace RDs22 := rk RDs22 F6 (by decide) hk; replace RD451 := rk RD451 F6 (by decide) hk; replace HI := his HI F6 (by decide) hk; replace KK := kks KK M6 hk; replace F6 := G; clear c6_0 c6_1 c6_2 c6_3 c6_4 c6_5; obtain ⟨c6_0, c6_1, c6_2, c6_3, c6_4, c6_5⟩ := cs6 F6; clear hk y0 z0 y1 z1 y2 z2 y3 z3 y4 z4 y5 z5)
     | (go_at_call 98; (with_reducible refine cgr (spec_l20Sessions.D 1 (by omega) w _ g bs p351 HI.out B.out HC.out (by omega) (by omega)) fun zD501 AD501 kD501 p501 hx501 hp501 w501 hk B HI2 RD501 QD501 => ?_); have DIs20_D501 := fr QD501 RIs20; have DDs22_D501 := fr QD501 RDs22; have MRD501 := mrf QD501 KK; replace F4 := bkr F4 HI (by decide) hk; replace F6 := bkr F6 HI (by decide) hk; replace RIs20 := rkr RIs20 HI (by decide) hk; replace RDs22 := rkr RDs22 HI (by decide) hk; replace KK := kkr KK hk; replace HI := HI2; clear hk QD501; clear c6_0 c6_1 c6_2 c6_3 c6_4 c6_5; obtain ⟨c6_0, c6_1, c6_2, c6_3, c6_4, c6_5⟩ := cs6 F6; skip)
     | ((with_reducible refine gate_store (t := 32) (p := 65) rfl ?_); obtain ⟨y0, y1, y2, y3, y4, y5, z0, z1, z2, z3, z4, z5⟩ := cz6 F6; refine sx (t := 34) (t' := 32) (p := 65) (v := ?vo502) ?hg ?ho ?hn 3 [.slice AD501 zD501.length kD501] [.string va, .string vb, .slice AIs20 zIs20.length kIs20, .slice AD501 zD501.length kD501, .bool tb, .string ct] ?hr B F6 L6 rfl (Nat.le_of_ble_eq_true rfl) ?_; (case ho | hg | hn => rfl); (case hr => go_simp; first | done | rfl); intro w502 hk B G; replace F4 := bk F4 hk N4_6.out; replace RIs20 := rk RIs20 F6 (by decide) hk; replace RDs22 := rk RDs22 F6 (by decide) hk; replace RD501 := rk RD501 F6 (by decide) hk; replace HI := his HI F6 (by decide) hk; replace KK := kks KK M6 hk; replace F6 := G; clear c6_0 c6_1 c6_2 c6_3 c6_4 c6_5; obtain ⟨c6_0, c6_1, c6_2, c6_3, c6_4, c6_5⟩ := cs6 F6; clear hk y0 z0 y1 z1 y2 z2 y3 z3 y4 z4 y5 z5)
     | ((with_reducible refine gate_store (t := 9) (p := 68) rfl ?_); obtain ⟨y0, y1, y2, y3, y4, y5, z0, z1, z2, z3, z4, z5⟩ := cz6 F6; refine sx (t := 34) (t' := 9) (p := 68) (v := ?vo551) ?hg ?ho ?hn 5 [.string (⟨#[98]⟩ : ByteArray)] [.string va, .string vb, .slice AIs20 zIs20.length kIs20, .slice ADs22 zDs22.length kDs22, .bool tb, .string (⟨#[98]⟩ : ByteArray)] ?hr B F6 L6 rfl (Nat.le_of_ble_eq_true rfl) ?_; (case ho | hg | hn => rfl); (case hr => go_simp; first | done | rfl); intro w551 hk B G; replace F4 := bk F4 hk N4_6.out; replace RIs20 := rk RIs20 F6 (by decide) hk; replace RDs22 := rk RDs22 F6 (by decide) hk; replace HI := his HI F6 (by decide) hk; replace KK := kks KK M6 hk; replace F6 := G; clear c6_0 c6_1 c6_2 c6_3 c6_4 c6_5; obtain ⟨c6_0, c6_1, c6_2, c6_3, c6_4, c6_5⟩ := cs6 F6; clear hk y0 z0 y1 z1 y2 z2 y3 z3 y4 z4 y5 z5)
     | ((with_reducible refine gate_store (t := 4) (p := 69) rfl ?_); obtain ⟨y0, y1, y2, y3, y4, y5, z0, z1, z2, z3, z4, z5⟩ := cz6 F6; refine sx (t := 34) (t' := 4) (p := 69) (v := ?vo552) ?hg ?ho ?hn 4 [.bool false] [.string va, .string vb, .slice AIs20 zIs20.length kIs20, .slice ADs22 zDs22.length kDs22, .bool false, .string (⟨#[98]⟩ : ByteArray)] ?hr B F6 L6 rfl (Nat.le_of_ble_eq_true rfl) ?_; (case ho | hg | hn => rfl); (case hr => go_simp; first | done | rfl); intro w552 hk B G; replace F4 := bk F4 hk N4_6.out; replace RIs20 := rk RIs20 F6 (by decide) hk; replace RDs22 := rk RDs22 F6 (by decide) hk; replace HI := his HI F6 (by decide) hk; replace KK := kks KK M6 hk; replace F6 := G; clear c6_0 c6_1 c6_2 c6_3 c6_4 c6_5; obtain ⟨c6_0, c6_1, c6_2, c6_3, c6_4, c6_5⟩ := cs6 F6; clear hk y0 z0 y1 z1 y2 z2 y3 z3 y4 z4 y5 z5)
     | ((with_reducible refine gate_store (t := 30) (p := 47) rfl ?_); obtain ⟨y0, y1, y2, y3, y4, y5, z0, z1, z2, z3, z4, z5⟩ := cz6 F6; refine sx (t := 34) (t' := 30) (p := 47) (v := ?vo601) ?hg ?ho ?hn 0 [.string (⟨#[109]⟩ : ByteArray), .string (⟨#[110]⟩ : ByteArray)] [.string (⟨#[109]⟩ : ByteArray), .string (⟨#[110]⟩ : ByteArray), .slice AIs20 zIs20.length kIs20, .slice ADs22 zDs22.length kDs22, .bool tb, .string ct] ?hr B F6 L6 rfl (Nat.le_of_ble_eq_true rfl) ?_; (case ho | hg | hn => rfl); (case hr => go_simp; first | done | rfl); intro w601 hk B G; replace F4 := bk F4 hk N4_6.out; replace RIs20 := rk RIs20 F6 (by decide) hk; replace RDs22 := rk RDs22 F6 (by decide) hk; replace HI := his HI F6 (by decide) hk; replace KK := kks KK M6 hk; replace F6 := G; clear c6_0 c6_1 c6_2 c6_3 c6_4 c6_5; obtain ⟨c6_0, c6_1, c6_2, c6_3, c6_4, c6_5⟩ := cs6 F6; clear hk y0 z0 y1 z1 y2 z2 y3 z3 y4 z4 y5 z5)
     | ((with_reducible refine gate_dst (N := 49) rfl ?_); refine lt k61 61 ?hg (N := 49) ?hd ([⟨(⟨#[110]⟩ : ByteArray), 1⟩] : List S61) [.string (⟨#[110]⟩ : ByteArray), .int .i64 (1)] ?hr (Reps.c2 (k61_mkM _ _ _ ⟨(⟨#[110]⟩ : ByteArray), 1⟩) (Reps.none _ _)) (by simp) B ?_; (case hd | hg => rfl); (case hr => go_simp; first | done | rfl); intro z49 hz49 AL49 kL49 w602 hb B RL49 QL49; have DIs20_L49 := fr QL49 RIs20; have DDs22_L49 := fr QL49 RDs22; have MRL49 := mrf QL49 KK; replace F4 := bn F4 hb; replace F6 := bn F6 hb; replace RIs20 := rn RIs20 hb; replace RDs22 := rn RDs22 hb; replace HI := hib HI hb; replace KK := kkb KK hb; clear c6_0 c6_1 c6_2 c6_3 c6_4 c6_5; obtain ⟨c6_0, c6_1, c6_2, c6_3, c6_4, c6_5⟩ := cs6 F6; clear hb QL49)
     | ((with_reducible refine gate_store (t := 31) (p := 50) rfl ?_); obtain ⟨y0, y1, y2, y3, y4, y5, z0, z1, z2, z3, z4, z5⟩ := cz6 F6; refine sx (t := 34) (t' := 31) (p := 50) (v := ?vo603) ?hg ?ho ?hn 2 [.slice AL49 z49.length kL49] [.string (⟨#[109]⟩ : ByteArray), .string (⟨#[110]⟩ : ByteArray), .slice AL49 z49.length kL49, .slice ADs22 zDs22.length kDs22, .bool tb, .string ct] ?hr B F6 L6 rfl (Nat.le_of_ble_eq_true rfl) ?_; (case ho | hg | hn => rfl); (case hr => go_simp; first | done | rfl); intro w603 hk B G; replace F4 := bk F4 hk N4_6.out; replace RIs20 := rk RIs20 F6 (by decide) hk; replace RDs22 := rk RDs22 F6 (by decide) hk; replace RL49 := rk RL49 F6 (by decide) hk; replace HI := his HI F6 (by decide) hk; replace KK := kks KK M6 hk; replace F6 := G; clear c6_0 c6_1 c6_2 c6_3 c6_4 c6_5; obtain ⟨c6_0, c6_1, c6_2, c6_3, c6_4, c6_5⟩ := cs6 F6; clear hk y0 z0 y1 z1 y2 z2 y3 z3 y4 z4 y5 z5))
    all_goals (go_meet; (case rel => first
     | exact ⟨_, _, _, _, _, _, _, _, _, rfl, by omega, ⟨hlIs20, hlDs22⟩, F6, F4, ⟨RIs20, MRIs20⟩, ⟨RDs22, MRDs22⟩, HI, KK, B⟩
     | exact ⟨_, _, _, _, _, _, _, _, _, rfl, by omega, ⟨hx451, hlDs22⟩, F6, F4, ⟨RD451, MRD451⟩, ⟨RDs22, MRDs22⟩, HI, KK, B⟩
     | exact ⟨_, _, _, _, _, _, _, _, _, rfl, by omega, ⟨hlIs20, hx501⟩, F6, F4, ⟨RIs20, MRIs20⟩, ⟨RD501, MRD501⟩, HI, KK, B⟩
     | exact ⟨_, _, _, _, _, _, _, _, _, rfl, by omega, ⟨(by rw [← hz49]; simp), hlDs22⟩, F6, F4, ⟨RL49, MRL49⟩, ⟨RDs22, MRDs22⟩, HI, KK, B⟩))
   case rest =>
    clear B HI KK F4 F6
    obtain ⟨x0, x1, v2, v3, x4, x5, xs, ys, pq, rfl, hpq, ⟨hl1, hl2⟩, F6, F4, ⟨RX, MRX⟩, ⟨RY, MRY⟩, HI, KK, B⟩ := hcut
    obtain ⟨AX, kX, rfl⟩ := Kd.R_slice RX.out
    obtain ⟨AY, kY, rfl⟩ := Kd.R_slice RY.out
    obtain ⟨c6_0, c6_1, c6_2, c6_3, c6_4, c6_5⟩ := cs6 F6
    go_wp2_with (first
     | ((with_reducible refine gate_store (t := 34) (p := 4) rfl ?_); obtain ⟨y0, y1, y2, y3, y4, y5, z0, z1, z2, z3, z4, z5⟩ := cz6 F4; refine sx (t := 34) (t' := 34) (p := 4) (v := ?vo701) ?hg ?ho ?hn 0 [.string x0, .string x1, .slice AX xs.length kX, .slice AY ys.length kY, .bool x4, .string x5] [.string x0, .string x1, .slice AX xs.length kX, .slice AY ys.length kY, .bool x4, .string x5] ?hr B F4 L4 rfl (Nat.le_of_ble_eq_true rfl) ?_; (case ho | hg | hn => rfl); (case hr => go_simp; first | done | rfl); intro w701 hk B G; replace F6 := bk F6 hk N4_6.out.symm; replace RX := rk RX F4 (by decide) hk; replace RY := rk RY F4 (by decide) hk; replace HI := his HI F4 (by decide) hk; replace KK := kks KK M4 hk; replace F4 := G; clear hk y0 z0 y1 z1 y2 z2 y3 z3 y4 z4 y5 z5))
    try (refine bodyPost_ret (results_single rfl (.cell g4 34 _ (0, 0) _ rfl F4.out hu rfl (by kernel_rfl) .nil)) rfl ?_)
    exact ⟨_, _, _, _, _, _, _, _, _, rfl, ⟨hl1, hl2⟩, ⟨RX.out, MRX.out⟩, ⟨RY.out, MRY.out⟩, ⟨by omega, by omega⟩, HI.out, B.out, KK.out⟩

theorem spec_DrawStateValid.D (A0 : Option Addr) (c0 : Nat) (l : List Int) (w : World) (hr0 : Kd.C (Kd.int .u8) w A0 l.length l) (hc0 : l.length ≤ c0) (hs : ∀ x ∈ l, (Lit.int .u8 x).wf = true) : Calls Try.prog 16 #[.slice A0 l.length c0] w fun e w' => ∃ a b v0 v1 t c xs ys, e = .returned (.agg #[.string a, .string b, v0, v1, .bool t, .string c]) ∧ (xs.length ≤ 300 ∧ ys.length ≤ 300) ∧ Kd.R k61 61 w' w.heap.size (fun _ => True) v0 xs ∧ Kd.R k100 100 w' w.heap.size (fun _ => True) v1 ys ∧ Below w.heap.size w w' := by
 obtain ⟨bs, hc, ho⟩ := Dw.spec_open l hs
 have B := Aside0.mk (Below.refl w.heap.size w)
 have HR0 := Aside0.mk hr0
 have HC0 := Aside0.mk hc0
 have HC := Aside0.mk hc
 have HO := Aside0.mk ho
 clear hr0 hc0 hs hc ho
 have hu := Try.underlying34
 have hu2 := Try.underlying30
 go_enter Try.func16, Try.ntmps16
 go_wp2_with (first
  | ((with_reducible refine gate_dst (N := 2) rfl ?_); refine bx ?hg (N := 2) ?hd (cs := #[.string (⟨#[]⟩ : ByteArray), .string (⟨#[]⟩ : ByteArray), .slice none 0 0, .slice none 0 0, .bool false, .string (⟨#[]⟩ : ByteArray)]) (t := 34) ?hr B ?_; (case hd | hg => rfl); (case hr => go_simp; first | done | rfl); intro g2 w1 hb B F2 L2 E2; clear hb E2)
  | (go_at_call 63; (with_reducible refine copen (spec_l20Open.calls _ _ l bs 0 w _ B.out HR0.out HC0.out HO.out) fun g w2 hb B HI => ?_); replace F2 := bn F2 hb; clear hb)
  | (go_at_call 62; (with_reducible refine cgs (spec_l20State.D 2 (by omega) w _ g bs 0 HI.out B.out HC.out (by omega) (by omega)) fun a3 b3 t3 c3 zP3 zS3 AP3 kP3 AS3 kS3 p3 hx3 hp3 w3 hk B HI2 RP3 QP3 RS3 QS3 => ?_); have DP3_S3 := Aside0.mk (dty RP3 RS3 (by decide)); replace F2 := bkr F2 HI (by decide) hk; replace HI := HI2; clear hk QP3 QS3; skip)
  | ((with_reducible refine gate_store (t := 34) (p := 2) rfl ?_); obtain ⟨y0, y1, y2, y3, y4, y5, z0, z1, z2, z3, z4, z5⟩ := cz6 F2; refine sx (t := 34) (t' := 34) (p := 2) (v := ?vo4) ?hg ?ho ?hn 0 [.string a3, .string b3, .slice AP3 zP3.length kP3, .slice AS3 zS3.length kS3, .bool t3, .string c3] [.string a3, .string b3, .slice AP3 zP3.length kP3, .slice AS3 zS3.length kS3, .bool t3, .string c3] ?hr B F2 L2 rfl (Nat.le_of_ble_eq_true rfl) ?_; (case ho | hg | hn => rfl); (case hr => go_simp; first | done | rfl); intro w4 hk B G; replace RP3 := rk RP3 F2 (by decide) hk; replace RS3 := rk RS3 F2 (by decide) hk; replace HI := his HI F2 (by decide) hk; replace F2 := G; clear hk y0 z0 y1 z1 y2 z2 y3 z3 y4 z4 y5 z5))
 all_goals (try (refine bodyPost_ret (results_single rfl (.cell g2 34 _ (0, 0) _ rfl F2.out hu rfl (by kernel_rfl) .nil)) rfl ?_))
 all_goals exact ⟨_, _, _, _, _, _, _, _, rfl, ⟨hx3.1, hx3.2⟩, RP3.out, RS3.out, B.out⟩

theorem toL98 : (⟨#[98]⟩ : ByteArray).toList = [98] := by decide +kernel
theorem st_half (a b : ByteArray) (ps : List S61) (ss : List S100) : stB a b ps ss false ⟨#[98]⟩ = false := by
 unfold stB
 rw [show tailB a b false ⟨#[98]⟩ = false from by unfold tailB; rw [if_neg (by rw [toL98]; simp)]; rfl]
 simp
theorem st_bare {a b : ByteArray} {ps : List S61} {ss : List S100} {t : Bool} {c : ByteArray} (h : stB a b ps ss t c = true) : stB a b [] [] t c = true := by
 unfold stB at h ⊢
 simp only [Bool.and_eq_true] at h
 rw [h.1, h.2.2.2.2, show prB [] = true from by decide, show sesB [] = true from by decide]
 rfl
theorem impl_StateValid.Z (a b : ByteArray) (t : Bool) (c : ByteArray) (w : World) : Calls Try.prog 14 #[.agg #[.string a, .string b, .slice none 0 0, .slice none 0 0, .bool t, .string c]] w fun e w' => e = .returned (.bool (stB a b [] [] t c)) ∧ Below w.heap.size w w' :=
 impl_StateValid.M a b none 0 [] none 0 [] t c w (nilC _ _) (nilC _ _)
theorem laws_FnStateValid.M (A0 : Option Addr) (c0 : Nat) (l : List Int) (w : World) (hr0 : Kd.C (Kd.int .u8) w A0 l.length l) (hc0 : l.length ≤ c0) (hs : ∀ x ∈ l, (Lit.int .u8 x).wf = true) : Calls Try.prog 4 #[.slice A0 l.length c0] w fun e w' => e = .returned (.bool true) ∧ Below w.heap.size w w' := by
 have B := Aside0.mk (Below.refl w.heap.size w)
 have HR0 := Aside0.mk hr0
 have HC0 := Aside0.mk hc0
 clear hr0 hc0
 have hu := Try.underlying34
 have hu2 := Try.underlying30
 have HSL := Aside0.mk hs
 clear hs
 go_enter Try.func4, Try.ntmps4
 go_wp2_with (first
  | (go_at_call 16; (with_reducible refine cdst (spec_DrawStateValid.D A0 c0 l w HR0.out HC0.out HSL.out) B fun a b t c ps ss AP kP AS kS w0 hq hb B RP RS => ?_); clear hb; refine Stop.out ?_))
 ·go_ret
  exact ⟨rfl, B.out⟩
 refine ⟨?_⟩
 have hh := st_half a b ps ss
 cases hj : stB a b ps ss t c with
 | false =>
  go_wp2_with (first
   | ((with_reducible refine gate_dst (N := 3) rfl ?_); refine bx ?hg (N := 3) ?hd (cs := #[.string (⟨#[]⟩ : ByteArray), .string (⟨#[]⟩ : ByteArray), .slice none 0 0, .slice none 0 0, .bool false, .string (⟨#[]⟩ : ByteArray)]) (t := 34) ?hr B ?_; (case hd | hg => rfl); (case hr => go_simp; first | done | rfl); intro g3 w1 hb B F3 L3 E3; replace RP := rn RP hb; replace RS := rn RS hb; obtain ⟨c3_0, c3_1, c3_2, c3_3, c3_4, c3_5⟩ := cs6 F3; clear hb E3)
   | ((with_reducible refine gate_store (t := 34) (p := 3) rfl ?_); obtain ⟨y0, y1, y2, y3, y4, y5, z0, z1, z2, z3, z4, z5⟩ := cz6 F3; refine sx (t := 34) (t' := 34) (p := 3) (v := ?vo2) ?hg ?ho ?hn 0 [.string a, .string b, .slice AP ps.length kP, .slice AS ss.length kS, .bool t, .string c] [.string a, .string b, .slice AP ps.length kP, .slice AS ss.length kS, .bool t, .string c] ?hr B F3 L3 rfl (Nat.le_of_ble_eq_true rfl) ?_; (case ho | hg | hn => rfl); (case hr => go_simp; first | done | rfl); intro w2 hk B G; replace RP := rk RP F3 (by decide) hk; replace RS := rk RS F3 (by decide) hk; replace F3 := G; clear c3_0 c3_1 c3_2 c3_3 c3_4 c3_5; obtain ⟨c3_0, c3_1, c3_2, c3_3, c3_4, c3_5⟩ := cs6 F3; clear hk y0 z0 y1 z1 y2 z2 y3 z3 y4 z4 y5 z5)
   | (go_at_call 14; with_reducible refine cl (impl_StateValid.M a b _ _ ps _ _ ss t c w2 (rc RP) (rc RS)) B fun w3 hb B => ?_; replace F3 := bn F3 hb; replace RP := rn RP hb; replace RS := rn RS hb; clear c3_0 c3_1 c3_2 c3_3 c3_4 c3_5; obtain ⟨c3_0, c3_1, c3_2, c3_3, c3_4, c3_5⟩ := cs6 F3; clear hb)
   | (go_at_call 12; with_reducible refine cl (spec_StateValid.M a b _ _ ps _ _ ss t c w3 (rc RP) (rc RS)) B fun w4 hb B => ?_; replace F3 := bn F3 hb; replace RP := rn RP hb; replace RS := rn RS hb; clear c3_0 c3_1 c3_2 c3_3 c3_4 c3_5; obtain ⟨c3_0, c3_1, c3_2, c3_3, c3_4, c3_5⟩ := cs6 F3; clear hb)
   | ((with_reducible refine gate_dst (N := 5) rfl ?_); refine bx ?hg (N := 5) ?hd (cs := #[.string (⟨#[]⟩ : ByteArray), .string (⟨#[]⟩ : ByteArray), .slice none 0 0, .slice none 0 0, .bool false, .string (⟨#[]⟩ : ByteArray)]) (t := 34) ?hr B ?_; (case hd | hg => rfl); (case hr => go_simp; first | done | rfl); intro g5 w5 hb B F5 L5 E5; have N3_5 := ne1 E5 F3; replace F3 := bn F3 hb; replace RP := rn RP hb; replace RS := rn RS hb; clear c3_0 c3_1 c3_2 c3_3 c3_4 c3_5; obtain ⟨c3_0, c3_1, c3_2, c3_3, c3_4, c3_5⟩ := cs6 F3; obtain ⟨c5_0, c5_1, c5_2, c5_3, c5_4, c5_5⟩ := cs6 F5; clear hb E5)
   | ((with_reducible refine gate_store (t := 34) (p := 5) rfl ?_); obtain ⟨y0, y1, y2, y3, y4, y5, z0, z1, z2, z3, z4, z5⟩ := cz6 F5; refine sx (t := 34) (t' := 34) (p := 5) (v := ?vo6) ?hg ?ho ?hn 0 [.string a, .string b, .slice AP ps.length kP, .slice AS ss.length kS, .bool t, .string c] [.string a, .string b, .slice AP ps.length kP, .slice AS ss.length kS, .bool t, .string c] ?hr B F5 L5 rfl (Nat.le_of_ble_eq_true rfl) ?_; (case ho | hg | hn => rfl); (case hr => go_simp; first | done | rfl); intro w6 hk B G; replace F3 := bk F3 hk N3_5.out; replace RP := rk RP F5 (by decide) hk; replace RS := rk RS F5 (by decide) hk; replace F5 := G; clear c3_0 c3_1 c3_2 c3_3 c3_4 c3_5; obtain ⟨c3_0, c3_1, c3_2, c3_3, c3_4, c3_5⟩ := cs6 F3; clear c5_0 c5_1 c5_2 c5_3 c5_4 c5_5; obtain ⟨c5_0, c5_1, c5_2, c5_3, c5_4, c5_5⟩ := cs6 F5; clear hk y0 z0 y1 z1 y2 z2 y3 z3 y4 z4 y5 z5)
   | ((with_reducible refine gate_store (t := 4) (p := 19) rfl ?_); obtain ⟨y0, y1, y2, y3, y4, y5, z0, z1, z2, z3, z4, z5⟩ := cz6 F5; refine sx (t := 34) (t' := 4) (p := 19) (v := ?vo7) ?hg ?ho ?hn 4 [.bool false] [.string a, .string b, .slice AP ps.length kP, .slice AS ss.length kS, .bool false, .string c] ?hr B F5 L5 rfl (Nat.le_of_ble_eq_true rfl) ?_; (case ho | hg | hn => rfl); (case hr => go_simp; first | done | rfl); intro w7 hk B G; replace F3 := bk F3 hk N3_5.out; replace RP := rk RP F5 (by decide) hk; replace RS := rk RS F5 (by decide) hk; replace F5 := G; clear c3_0 c3_1 c3_2 c3_3 c3_4 c3_5; obtain ⟨c3_0, c3_1, c3_2, c3_3, c3_4, c3_5⟩ := cs6 F3; clear c5_0 c5_1 c5_2 c5_3 c5_4 c5_5; obtain ⟨c5_0, c5_1, c5_2, c5_3, c5_4, c5_5⟩ := cs6 F5; clear hk y0 z0 y1 z1 y2 z2 y3 z3 y4 z4 y5 z5)
   | ((with_reducible refine gate_store (t := 9) (p := 20) rfl ?_); obtain ⟨y0, y1, y2, y3, y4, y5, z0, z1, z2, z3, z4, z5⟩ := cz6 F5; refine sx (t := 34) (t' := 9) (p := 20) (v := ?vo8) ?hg ?ho ?hn 5 [.string (⟨#[98]⟩ : ByteArray)] [.string a, .string b, .slice AP ps.length kP, .slice AS ss.length kS, .bool false, .string (⟨#[98]⟩ : ByteArray)] ?hr B F5 L5 rfl (Nat.le_of_ble_eq_true rfl) ?_; (case ho | hg | hn => rfl); (case hr => go_simp; first | done | rfl); intro w8 hk B G; replace F3 := bk F3 hk N3_5.out; replace RP := rk RP F5 (by decide) hk; replace RS := rk RS F5 (by decide) hk; replace F5 := G; clear c3_0 c3_1 c3_2 c3_3 c3_4 c3_5; obtain ⟨c3_0, c3_1, c3_2, c3_3, c3_4, c3_5⟩ := cs6 F3; clear c5_0 c5_1 c5_2 c5_3 c5_4 c5_5; obtain ⟨c5_0, c5_1, c5_2, c5_3, c5_4, c5_5⟩ := cs6 F5; clear hk y0 z0 y1 z1 y2 z2 y3 z3 y4 z4 y5 z5)
   | ((with_reducible refine gate_dst (N := 6) rfl ?_); refine bx ?hg (N := 6) ?hd (cs := #[.string (⟨#[]⟩ : ByteArray), .string (⟨#[]⟩ : ByteArray), .slice none 0 0, .slice none 0 0, .bool false, .string (⟨#[]⟩ : ByteArray)]) (t := 34) ?hr B ?_; (case hd | hg => rfl); (case hr => go_simp; first | done | rfl); intro g6 w9 hb B F6 L6 E6; have N5_6 := ne1 E6 F5; replace F5 := bn F5 hb; replace RP := rn RP hb; replace RS := rn RS hb; clear c5_0 c5_1 c5_2 c5_3 c5_4 c5_5; obtain ⟨c5_0, c5_1, c5_2, c5_3, c5_4, c5_5⟩ := cs6 F5; obtain ⟨c6_0, c6_1, c6_2, c6_3, c6_4, c6_5⟩ := cs6 F6; clear hb E6)
   | ((with_reducible refine gate_store (t := 34) (p := 6) rfl ?_); obtain ⟨y0, y1, y2, y3, y4, y5, z0, z1, z2, z3, z4, z5⟩ := cz6 F6; refine sx (t := 34) (t' := 34) (p := 6) (v := ?vo10) ?hg ?ho ?hn 0 [.string a, .string b, .slice none 0 0, .slice none 0 0, .bool t, .string c] [.string a, .string b, .slice none 0 0, .slice none 0 0, .bool t, .string c] ?hr B F6 L6 rfl (Nat.le_of_ble_eq_true rfl) ?_; (case ho | hg | hn => rfl); (case hr => go_simp; first | done | rfl); intro w10 hk B G; replace F5 := bk F5 hk N5_6.out; replace RP := rk RP F6 (by decide) hk; replace RS := rk RS F6 (by decide) hk; replace F6 := G; clear c5_0 c5_1 c5_2 c5_3 c5_4 c5_5; obtain ⟨c5_0, c5_1, c5_2, c5_3, c5_4, c5_5⟩ := cs6 F5; clear c6_0 c6_1 c6_2 c6_3 c6_4 c6_5; obtain ⟨c6_0, c6_1, c6_2, c6_3, c6_4, c6_5⟩ := cs6 F6; clear hk y0 z0 y1 z1 y2 z2 y3 z3 y4 z4 y5 z5)
   | (go_at_call 14; with_reducible refine cl (impl_StateValid.M a b _ _ ps _ _ ss false (⟨#[98]⟩ : ByteArray) w10 (rc RP) (rc RS)) B fun w11 hb B => ?_; replace F6 := bn F6 hb; clear c6_0 c6_1 c6_2 c6_3 c6_4 c6_5; obtain ⟨c6_0, c6_1, c6_2, c6_3, c6_4, c6_5⟩ := cs6 F6; clear hb)
   | (go_at_call 14; with_reducible refine cl (impl_StateValid.Z a b t c w11) B fun w12 hb B => ?_; clear hb)
   | (go_at_call 17; with_reducible refine cl (laws_alive.M _) B fun w13 hb B => ?_; clear hb))
  all_goals go_ret
  all_goals exact ⟨by simp_all, B.out⟩
 | true =>
  have he := st_bare hj
  go_wp2_with (first
   | ((with_reducible refine gate_dst (N := 3) rfl ?_); refine bx ?hg (N := 3) ?hd (cs := #[.string (⟨#[]⟩ : ByteArray), .string (⟨#[]⟩ : ByteArray), .slice none 0 0, .slice none 0 0, .bool false, .string (⟨#[]⟩ : ByteArray)]) (t := 34) ?hr B ?_; (case hd | hg => rfl); (case hr => go_simp; first | done | rfl); intro g3 w1001 hb B F3 L3 E3; replace RP := rn RP hb; replace RS := rn RS hb; obtain ⟨c3_0, c3_1, c3_2, c3_3, c3_4, c3_5⟩ := cs6 F3; clear hb E3)
   | ((with_reducible refine gate_store (t := 34) (p := 3) rfl ?_); obtain ⟨y0, y1, y2, y3, y4, y5, z0, z1, z2, z3, z4, z5⟩ := cz6 F3; refine sx (t := 34) (t' := 34) (p := 3) (v := ?vo1002) ?hg ?ho ?hn 0 [.string a, .string b, .slice AP ps.length kP, .slice AS ss.length kS, .bool t, .string c] [.string a, .string b, .slice AP ps.length kP, .slice AS ss.length kS, .bool t, .string c] ?hr B F3 L3 rfl (Nat.le_of_ble_eq_true rfl) ?_; (case ho | hg | hn => rfl); (case hr => go_simp; first | done | rfl); intro w1002 hk B G; replace RP := rk RP F3 (by decide) hk; replace RS := rk RS F3 (by decide) hk; replace F3 := G; clear c3_0 c3_1 c3_2 c3_3 c3_4 c3_5; obtain ⟨c3_0, c3_1, c3_2, c3_3, c3_4, c3_5⟩ := cs6 F3; clear hk y0 z0 y1 z1 y2 z2 y3 z3 y4 z4 y5 z5)
   | (go_at_call 14; with_reducible refine cl (impl_StateValid.M a b _ _ ps _ _ ss t c w1002 (rc RP) (rc RS)) B fun w1003 hb B => ?_; replace F3 := bn F3 hb; replace RP := rn RP hb; replace RS := rn RS hb; clear c3_0 c3_1 c3_2 c3_3 c3_4 c3_5; obtain ⟨c3_0, c3_1, c3_2, c3_3, c3_4, c3_5⟩ := cs6 F3; clear hb)
   | (go_at_call 12; with_reducible refine cl (spec_StateValid.M a b _ _ ps _ _ ss t c w1003 (rc RP) (rc RS)) B fun w1004 hb B => ?_; replace F3 := bn F3 hb; replace RP := rn RP hb; replace RS := rn RS hb; clear c3_0 c3_1 c3_2 c3_3 c3_4 c3_5; obtain ⟨c3_0, c3_1, c3_2, c3_3, c3_4, c3_5⟩ := cs6 F3; clear hb)
   | ((with_reducible refine gate_dst (N := 5) rfl ?_); refine bx ?hg (N := 5) ?hd (cs := #[.string (⟨#[]⟩ : ByteArray), .string (⟨#[]⟩ : ByteArray), .slice none 0 0, .slice none 0 0, .bool false, .string (⟨#[]⟩ : ByteArray)]) (t := 34) ?hr B ?_; (case hd | hg => rfl); (case hr => go_simp; first | done | rfl); intro g5 w1005 hb B F5 L5 E5; have N3_5 := ne1 E5 F3; replace F3 := bn F3 hb; replace RP := rn RP hb; replace RS := rn RS hb; clear c3_0 c3_1 c3_2 c3_3 c3_4 c3_5; obtain ⟨c3_0, c3_1, c3_2, c3_3, c3_4, c3_5⟩ := cs6 F3; obtain ⟨c5_0, c5_1, c5_2, c5_3, c5_4, c5_5⟩ := cs6 F5; clear hb E5)
   | ((with_reducible refine gate_store (t := 34) (p := 5) rfl ?_); obtain ⟨y0, y1, y2, y3, y4, y5, z0, z1, z2, z3, z4, z5⟩ := cz6 F5; refine sx (t := 34) (t' := 34) (p := 5) (v := ?vo1006) ?hg ?ho ?hn 0 [.string a, .string b, .slice AP ps.length kP, .slice AS ss.length kS, .bool t, .string c] [.string a, .string b, .slice AP ps.length kP, .slice AS ss.length kS, .bool t, .string c] ?hr B F5 L5 rfl (Nat.le_of_ble_eq_true rfl) ?_; (case ho | hg | hn => rfl); (case hr => go_simp; first | done | rfl); intro w1006 hk B G; replace F3 := bk F3 hk N3_5.out; replace RP := rk RP F5 (by decide) hk; replace RS := rk RS F5 (by decide) hk; replace F5 := G; clear c3_0 c3_1 c3_2 c3_3 c3_4 c3_5; obtain ⟨c3_0, c3_1, c3_2, c3_3, c3_4, c3_5⟩ := cs6 F3; clear c5_0 c5_1 c5_2 c5_3 c5_4 c5_5; obtain ⟨c5_0, c5_1, c5_2, c5_3, c5_4, c5_5⟩ := cs6 F5; clear hk y0 z0 y1 z1 y2 z2 y3 z3 y4 z4 y5 z5)
   | ((with_reducible refine gate_store (t := 4) (p := 19) rfl ?_); obtain ⟨y0, y1, y2, y3, y4, y5, z0, z1, z2, z3, z4, z5⟩ := cz6 F5; refine sx (t := 34) (t' := 4) (p := 19) (v := ?vo1007) ?hg ?ho ?hn 4 [.bool false] [.string a, .string b, .slice AP ps.length kP, .slice AS ss.length kS, .bool false, .string c] ?hr B F5 L5 rfl (Nat.le_of_ble_eq_true rfl) ?_; (case ho | hg | hn => rfl); (case hr => go_simp; first | done | rfl); intro w1007 hk B G; replace F3 := bk F3 hk N3_5.out; replace RP := rk RP F5 (by decide) hk; replace RS := rk RS F5 (by decide) hk; replace F5 := G; clear c3_0 c3_1 c3_2 c3_3 c3_4 c3_5; obtain ⟨c3_0, c3_1, c3_2, c3_3, c3_4, c3_5⟩ := cs6 F3; clear c5_0 c5_1 c5_2 c5_3 c5_4 c5_5; obtain ⟨c5_0, c5_1, c5_2, c5_3, c5_4, c5_5⟩ := cs6 F5; clear hk y0 z0 y1 z1 y2 z2 y3 z3 y4 z4 y5 z5)
   | ((with_reducible refine gate_store (t := 9) (p := 20) rfl ?_); obtain ⟨y0, y1, y2, y3, y4, y5, z0, z1, z2, z3, z4, z5⟩ := cz6 F5; refine sx (t := 34) (t' := 9) (p := 20) (v := ?vo1008) ?hg ?ho ?hn 5 [.string (⟨#[98]⟩ : ByteArray)] [.string a, .string b, .slice AP ps.length kP, .slice AS ss.length kS, .bool false, .string (⟨#[98]⟩ : ByteArray)] ?hr B F5 L5 rfl (Nat.le_of_ble_eq_true rfl) ?_; (case ho | hg | hn => rfl); (case hr => go_simp; first | done | rfl); intro w1008 hk B G; replace F3 := bk F3 hk N3_5.out; replace RP := rk RP F5 (by decide) hk; replace RS := rk RS F5 (by decide) hk; replace F5 := G; clear c3_0 c3_1 c3_2 c3_3 c3_4 c3_5; obtain ⟨c3_0, c3_1, c3_2, c3_3, c3_4, c3_5⟩ := cs6 F3; clear c5_0 c5_1 c5_2 c5_3 c5_4 c5_5; obtain ⟨c5_0, c5_1, c5_2, c5_3, c5_4, c5_5⟩ := cs6 F5; clear hk y0 z0 y1 z1 y2 z2 y3 z3 y4 z4 y5 z5)
   | ((with_reducible refine gate_dst (N := 6) rfl ?_); refine bx ?hg (N := 6) ?hd (cs := #[.string (⟨#[]⟩ : ByteArray), .string (⟨#[]⟩ : ByteArray), .slice none 0 0, .slice none 0 0, .bool false, .string (⟨#[]⟩ : ByteArray)]) (t := 34) ?hr B ?_; (case hd | hg => rfl); (case hr => go_simp; first | done | rfl); intro g6 w1009 hb B F6 L6 E6; have N5_6 := ne1 E6 F5; replace F5 := bn F5 hb; replace RP := rn RP hb; replace RS := rn RS hb; clear c5_0 c5_1 c5_2 c5_3 c5_4 c5_5; obtain ⟨c5_0, c5_1, c5_2, c5_3, c5_4, c5_5⟩ := cs6 F5; obtain ⟨c6_0, c6_1, c6_2, c6_3, c6_4, c6_5⟩ := cs6 F6; clear hb E6)
   | ((with_reducible refine gate_store (t := 34) (p := 6) rfl ?_); obtain ⟨y0, y1, y2, y3, y4, y5, z0, z1, z2, z3, z4, z5⟩ := cz6 F6; refine sx (t := 34) (t' := 34) (p := 6) (v := ?vo1010) ?hg ?ho ?hn 0 [.string a, .string b, .slice none 0 0, .slice none 0 0, .bool t, .string c] [.string a, .string b, .slice none 0 0, .slice none 0 0, .bool t, .string c] ?hr B F6 L6 rfl (Nat.le_of_ble_eq_true rfl) ?_; (case ho | hg | hn => rfl); (case hr => go_simp; first | done | rfl); intro w1010 hk B G; replace F5 := bk F5 hk N5_6.out; replace RP := rk RP F6 (by decide) hk; replace RS := rk RS F6 (by decide) hk; replace F6 := G; clear c5_0 c5_1 c5_2 c5_3 c5_4 c5_5; obtain ⟨c5_0, c5_1, c5_2, c5_3, c5_4, c5_5⟩ := cs6 F5; clear c6_0 c6_1 c6_2 c6_3 c6_4 c6_5; obtain ⟨c6_0, c6_1, c6_2, c6_3, c6_4, c6_5⟩ := cs6 F6; clear hk y0 z0 y1 z1 y2 z2 y3 z3 y4 z4 y5 z5)
   | (go_at_call 14; with_reducible refine cl (impl_StateValid.M a b _ _ ps _ _ ss false (⟨#[98]⟩ : ByteArray) w1010 (rc RP) (rc RS)) B fun w1011 hb B => ?_; replace F6 := bn F6 hb; clear c6_0 c6_1 c6_2 c6_3 c6_4 c6_5; obtain ⟨c6_0, c6_1, c6_2, c6_3, c6_4, c6_5⟩ := cs6 F6; clear hb)
   | (go_at_call 14; with_reducible refine cl (impl_StateValid.Z a b t c w1011) B fun w1012 hb B => ?_; clear hb)
   | (go_at_call 17; with_reducible refine cl (laws_alive.M _) B fun w1013 hb B => ?_; clear hb))
  all_goals go_ret
  all_goals exact ⟨by simp_all, B.out⟩
def laws_FnStateValid.f (k : Nat) (l : List Int) : Option Bool := if ∀ x ∈ l, (Lit.int .u8 x).wf = true then some true else none
theorem laws_FnStateValid.calls (k : Nat) (A0 : Option Addr) (c0 : Nat) (l : List Int) (r : Bool) (w : World) (hr0 : Kd.C (Kd.int .u8) w A0 l.length l) (hc0 : l.length ≤ c0) (h : laws_FnStateValid.f k l = some r) : Calls Try.prog 4 #[.slice A0 l.length c0] w fun e w' => e = .returned (.bool r) ∧ Below w.heap.size w w' := by
 unfold laws_FnStateValid.f at h
 split at h
 ·rename_i hc
  obtain rfl := Option.some.inj h
  exact laws_FnStateValid.M A0 c0 l w hr0 hc0 hc
 ·cases h

end Go.Proofs.Ytenfiihcdhnamaa.PFnStateValid
