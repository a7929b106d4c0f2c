/- Walks over models, part 1: ssput ssjoin scut sstate sjl ssjoinst copyS replS isput isjoin icut istate isjoinst sjr c2r same rdr drawn. -/
import Derived.Test.YtenfiihcdhnamaaPFnStateJoinx0
import Derived.Deep.RegionHeld3
import Derived.Lib.Strings
import Derived.Laws.BytesArg
import Derived.Test.YtenfiihcdhnamaaPFnStateJoinx19
import Derived.Test.YtenfiihcdhnamaaPFnStateJoinx27
import Derived.Test.YtenfiihcdhnamaaPFnStateJoinx18
import Derived.Test.YtenfiihcdhnamaaPFnStateJoinx56
import Derived.Test.YtenfiihcdhnamaaPFnStateJoinx57
import Derived.Test.YtenfiihcdhnamaaPFnStateJoinx53
import Derived.Test.YtenfiihcdhnamaaPFnStateJoinx63
import Derived.Test.YtenfiihcdhnamaaPFnStateJoinx62
import Derived.Test.YtenfiihcdhnamaaMFnStateJoin0
namespace Go.Proofs.Ytenfiihcdhnamaa.PFnStateJoin
open Go.RowKit Go.Proofs.YtenfiihcdhnamaaW.PrintWords Go.Proofs.YtenfiihcdhnamaaW.PrintLast Go.Proofs.YtenfiihcdhnamaaW.PrintMore
set_option linter.unusedVariables false
set_option linter.unusedSimpArgs false
set_option maxHeartbeats 4000000
set_option maxRecDepth 100000
attribute [local go_sem] leq_str geq_str gtr_str
theorem putL_cons (x : S100) (q : List S100) (s : S100) (b : Bool) : putL (x :: q) s b = if b = false ∧ s.f0 ≤ x.f0 then s :: ((if x.f0 = s.f0 then [] else [x]) ++ putL q s true) else (if x.f0 = s.f0 then [] else [x]) ++ putL q s b := rfl
def spec_SessionPut.T4 : Bool × List (List Nat × List Nat) := (true, [([], []), ([], []), ([1], [1]), ([0, 2], [0, 2]), ([], []), ([4], [4]), ([3, 5], [3, 5])])
def spec_SessionPut.B4 : List Nat := [0, 0, 2, 7, 0, 16, 63]
theorem spec_SessionPut.tab4 : rtab .any (opsOf Try.f110 4) = spec_SessionPut.T4 := by kernel_rfl
theorem spec_SessionPut.bits4 : waitsOk spec_SessionPut.T4.2 spec_SessionPut.B4 = true := by kernel_rfl
def spec_SessionPut.T10 : Bool × List (List Nat × List Nat) := (true, [([], []), ([0], [0]), ([1], [1]), ([2], [2]), ([2], [2]), ([3, 4, 2], [2, 3, 4]), ([5, 2], [2, 5]), ([6, 2], [2, 6]), ([2], [2]), ([8, 2], [2, 8]), ([7, 9, 2], [2, 7, 9]), ([2, 10], [2, 10])])
def spec_SessionPut.B10 : List Nat := [0, 1, 3, 7, 7, 31, 63, 127, 7, 263, 1023, 2047]
theorem spec_SessionPut.tab10 : rtab .any (opsOf Try.f110 10) = spec_SessionPut.T10 := by kernel_rfl
theorem spec_SessionPut.bits10 : waitsOk spec_SessionPut.T10.2 spec_SessionPut.B10 = true := by kernel_rfl
def spec_SessionPut.T13 : Bool × List (List Nat × List Nat) := (true, [([], []), ([], []), ([0, 1], [0, 1]), ([2], [2]), ([3], [3]), ([], []), ([5], [5]), ([4, 6], [4, 6])])
def spec_SessionPut.B13 : List Nat := [0, 0, 3, 7, 15, 0, 32, 127]
theorem spec_SessionPut.tab13 : rtab .any (opsOf Try.f110 13) = spec_SessionPut.T13 := by kernel_rfl
theorem spec_SessionPut.bits13 : waitsOk spec_SessionPut.T13.2 spec_SessionPut.B13 = true := by kernel_rfl
theorem spec_SessionPut.M (A0 : Option Addr) (c0 : Nat) (l : List S100) (a b c : Int) (w : World) (hr0 : Kd.C k100 w A0 l.length l) (hc0 : l.length ≤ c0) : Calls Try.prog 110 #[.slice A0 l.length c0, .agg #[.int .i64 a, .int .i64 b, .int .i64 c]] w fun e w' => ∃ v0, e = .returned (.tuple #[v0, .bool (putB l ⟨a, b, c⟩).2]) ∧ Kd.R k100 100 w' w.heap.size (fun _ => True) v0 (putB l ⟨a, b, c⟩).1 ∧ Below w.heap.size w w' := by
 have B := Aside0.mk (Below.refl w.heap.size w)
 have hu := Try.underlying100
 have HR0 := Aside0.mk hr0
 have HC0 := Aside0.mk hc0
 have L63 := Aside0.mk hr0.2.1
 clear hr0 hc0
 by_cases hv : sesB l = true
 ·have h4 := sesB_len hv
  cases ho : okS (⟨a, b, c⟩ : S100) with
  | true =>
   have hone : sesB [(⟨a, b, c⟩ : S100)] = true := by rw [sesOne]; exact ho
   by_cases hq : b ≤ seqB l a
   ·have hM : putB l ⟨a, b, c⟩ = (l, false) := by unfold putB; rw [if_pos ⟨hv, hone⟩]; exact if_pos hq
    have dq : decide (seqB l a ≥ b) = true := decide_eq_true hq
    go_enter Try.func110, Try.ntmps110
    go_wp2_with (first
     | ((with_reducible refine gate_dst (N := 3) rfl ?_); refine bx ?hg (N := 3) ?hd (cs := #[.int .i64 (a), .int .i64 (b), .int .i64 (c)]) (t := 100) ?hr B ?_; (case hd => rfl); (case hg => rfl); (case hr => first | (go_simp; done) | (go_simp; rfl)); intro g3 w201 hb B F3 L3 E3; obtain ⟨c3_0, c3_1, c3_2⟩ := cs3 F3; clear hb E3)
     | ((with_reducible refine gate_dst (N := 9) rfl ?_); refine lt k100 100 ?hg (N := 9) ?hd ([] : List S100) [] ?hr (Reps.none _ _) (by simp) B ?_; (case hd => rfl); (case hg => rfl); (case hr => first | (go_simp; done) | (go_simp; rfl)); intro z9 hz9 AL9 kL9 w202 hb B RL9 QL9; have NB3_L9 := nb QL9 F3; replace F3 := bn F3 hb; clear c3_0 c3_1 c3_2; obtain ⟨c3_0, c3_1, c3_2⟩ := cs3 F3; clear hb QL9; subst hz9)
     | (go_at_call 49; with_reducible refine cl (spec_SessionsValid.M _ _ l _ (cb HR0 B)) B fun w203 hb B => ?_; replace F3 := bn F3 hb; replace RL9 := rn RL9 hb; clear c3_0 c3_1 c3_2; obtain ⟨c3_0, c3_1, c3_2⟩ := cs3 F3; clear hb)
     | ((with_reducible refine gate_dst (N := 15) rfl ?_); refine ungate ?hw ?_; (case hw => first | (go_simp; done) | rfl); refine lt k100 100 ?hg (N := 15) ?hd ([⟨a, b, c⟩] : List S100) [.int .i64 (a), .int .i64 (b), .int .i64 (c)] ?hr (Reps.c3 (k100_mkM _ _ _ ⟨a, b, c⟩) (Reps.none _ _)) (by simp) B ?_; (case hd => rfl); (case hg => rfl); (case hr => first | (go_simp; done) | (go_simp; rfl)); intro z15 hz15 AL15 kL15 w204 hb B RL15 QL15; have NB3_L15 := nb QL15 F3; replace F3 := bn F3 hb; replace RL9 := rn RL9 hb; clear c3_0 c3_1 c3_2; obtain ⟨c3_0, c3_1, c3_2⟩ := cs3 F3; clear hb QL15)
     | (go_at_call 49; with_reducible refine cl (clv (spec_SessionsValid.M _ _ z15 _ (rc RL15)) (congrArg Value.bool (show sesB z15 = true by rw [← hz15]; exact hone))) B fun w205 hb B => ?_; replace F3 := bn F3 hb; replace RL9 := rn RL9 hb; clear c3_0 c3_1 c3_2; obtain ⟨c3_0, c3_1, c3_2⟩ := cs3 F3; clear hb; clear hz15))
    all_goals (
     refine rg (n := 7) (S := fun W => W.heap[g3]? = some (.cells #[.int .i64 (a), .int .i64 (b), .int .i64 (c)] 100 (0, 0))) (ds := []) #[false, false, false, false, false, false, false] (by kernel_rfl) rfl rfl F3.out id B (fun w206 hb B hHeld => ?_)
     refine with_tabW spec_SessionPut.tab4 spec_SessionPut.bits4 (fun HT_ HW_ => ?_)
     replace F3 := bn F3 hb
     replace RL9 := rn RL9 hb
     clear hb
     refine pu (i := 0) (N := some 20) (v := ?_) (bits 7 1) rfl rfl (any_of HT_.out (by kernel_rfl)) (fun _ _ _ h => h) (by kernel_rfl) ?_ ?_; rotate_left; (intro w'; go_simp; with_reducible rfl)
     refine pu (i := 1) (N := some 21) (v := ?_) (bits 7 3) rfl rfl (any_of HT_.out (by kernel_rfl)) (fun _ _ _ h => h) (by kernel_rfl) ?_ ?_; rotate_left; (intro w'; go_simp; with_reducible rfl)
     refine ta (i := 2) (N := some 22) (v := ?_) (bits 7 7) rfl rfl (take_ofW HT_.out HW_.out (by kernel_rfl)) (fun _ _ _ h => h) (by kernel_rfl) hHeld ?_ ?_; rotate_left; (intro w' hS; have s0 := hS; obtain ⟨q0, q1, q2⟩ := cs3 (Aside0.mk s0); go_simp; with_reducible rfl)
     refine pu (i := 4) (N := some 24) (v := ?_) (bits 7 23) rfl rfl (any_of HT_.out (by kernel_rfl)) (fun _ _ _ h => h) (by kernel_rfl) ?_ ?_; rotate_left; (intro w'; go_simp; with_reducible rfl)
     refine ta (i := 5) (N := some 25) (v := ?_) (bits 7 55) rfl rfl (take_ofW HT_.out HW_.out (by kernel_rfl)) (fun _ _ _ h => h) (by kernel_rfl) hHeld ?_ ?_; rotate_left; (intro w' hS; have s0 := hS; obtain ⟨q0, q1, q2⟩ := cs3 (Aside0.mk s0); go_simp; with_reducible rfl)
     refine norm_ (a' := ?_) ?_ ?_
     rotate_left
     ·simp only [Act.put, List.setIfInBounds_toArray, List.set_cons_zero, List.set_cons_succ, i64_w, i32_w]
      rfl
     refine one_ (i := 3) (N := some 23) (bits 7 63) rfl rfl (one_of HT_.out (by kernel_rfl)) (by decide) (fun K hK => ?_)
     refine goes_ Try.func121 (by kernel_rfl) rfl #[.slice A0 l.length c0, .int .i64 (a)] (by rfl) rfl rfl (by (try simp only [List.map_toArray, List.map_cons, List.map_nil]); rfl) ?_
     with_reducible refine cl (spec_SessionSeq.M _ _ l a _ (cb HR0 B) HC0.out) B fun w207 hb B => ?_
     replace F3 := bn F3 hb
     replace RL9 := rn RL9 hb
     clear hb
     refine ⟨_, rfl, ?_⟩
     refine hK.out _ _ F3.out (fun hHeld => ?_)
     clear hK K
     refine norm_ (a' := ?_) ?_ ?_
     rotate_left
     ·show Act.put _ (some 23) _ = _
      simp only [Act.put, List.setIfInBounds_toArray, List.set_cons_zero, List.set_cons_succ, i64_w, i32_w]
      rfl
     refine pu (i := 6) (N := some 26) (v := ?_) (bits 7 127) rfl rfl (any_of HT_.out (by kernel_rfl)) (fun _ _ _ h => h) (by kernel_rfl) ?_ ?_; rotate_left; (intro w'; go_simp; with_reducible rfl)
     refine norm_ (a' := ?_) ?_ ?_
     rotate_left
     ·simp only [Act.put, List.setIfInBounds_toArray, List.set_cons_zero, List.set_cons_succ, i64_w, i32_w]
      rfl
     refine done_ (done_of HT_.out (by kernel_rfl)) ?_)
    all_goals go_wp2_with (first
     | ((with_reducible refine gate_builtin (b := .append) (xs := #[.tmp 27, .tmp 28]) rfl ?_); at_builtin; refine apx k100 100 rfl (.tmp 27) (.tmp 28) 32 (.agg #[.int .i64 (0), .int .i64 (0), .int .i64 (0)]) 24 rfl Try.underlying32 info100 rfl (by decide) (by omega) rfl rfl RL9 (cb HR0 B) (fun x cs h => by rw [k100_open h]; exact k100_mkM _ _ _ x) (by first | omega | (simp only [List.length_nil]; omega)) B ?_; intro z29 hz29 AL29 kL29 w208 hg B RL29 hat; have NB3_L29 := nba hat NB3_L9 F3; replace F3 := bgn F3 hg NB3_L9; clear hg hat))
    have hZ : z29 = l := (by rw [← hz29, List.nil_append])
    clear hz29
    subst hZ
    go_ret2
    exact ⟨_, by rw [hM]; rfl, by rw [hM]; exact RL29.out, B.out⟩
   ·have hM : putB l ⟨a, b, c⟩ = (putL l ⟨a, b, c⟩ false, true) := by unfold putB; rw [if_pos ⟨hv, hone⟩]; exact if_neg hq
    have dq : decide (seqB l a ≥ b) = false := decide_eq_false hq
    rw [hM]
    clear hM
    obtain ⟨r, hr⟩ : ∃ r, putL l (⟨a, b, c⟩ : S100) false = r := ⟨_, rfl⟩
    rw [hr]
    have H := Aside0.mk (show [] ++ putL (l.drop 0) (⟨a, b, c⟩ : S100) false = r from hr)
    clear hr
    go_enter Try.func110, Try.ntmps110
    go_wp2_with (first
     | ((with_reducible refine gate_dst (N := 3) rfl ?_); refine bx ?hg (N := 3) ?hd (cs := #[.int .i64 (a), .int .i64 (b), .int .i64 (c)]) (t := 100) ?hr B ?_; (case hd => rfl); (case hg => rfl); (case hr => first | (go_simp; done) | (go_simp; rfl)); intro g3 w301 hb B F3 L3 E3; obtain ⟨c3_0, c3_1, c3_2⟩ := cs3 F3; clear hb E3)
     | ((with_reducible refine gate_dst (N := 9) rfl ?_); refine lt k100 100 ?hg (N := 9) ?hd ([] : List S100) [] ?hr (Reps.none _ _) (by simp) B ?_; (case hd => rfl); (case hg => rfl); (case hr => first | (go_simp; done) | (go_simp; rfl)); intro z9 hz9 AL9 kL9 w302 hb B RL9 QL9; have NB3_L9 := nb QL9 F3; replace F3 := bn F3 hb; clear c3_0 c3_1 c3_2; obtain ⟨c3_0, c3_1, c3_2⟩ := cs3 F3; clear hb QL9; subst hz9)
     | (go_at_call 49; with_reducible refine cl (spec_SessionsValid.M _ _ l _ (cb HR0 B)) B fun w303 hb B => ?_; replace F3 := bn F3 hb; replace RL9 := rn RL9 hb; clear c3_0 c3_1 c3_2; obtain ⟨c3_0, c3_1, c3_2⟩ := cs3 F3; clear hb)
     | ((with_reducible refine gate_dst (N := 15) rfl ?_); refine ungate ?hw ?_; (case hw => first | (go_simp; done) | rfl); refine lt k100 100 ?hg (N := 15) ?hd ([⟨a, b, c⟩] : List S100) [.int .i64 (a), .int .i64 (b), .int .i64 (c)] ?hr (Reps.c3 (k100_mkM _ _ _ ⟨a, b, c⟩) (Reps.none _ _)) (by simp) B ?_; (case hd => rfl); (case hg => rfl); (case hr => first | (go_simp; done) | (go_simp; rfl)); intro z15 hz15 AL15 kL15 w304 hb B RL15 QL15; have NB3_L15 := nb QL15 F3; replace F3 := bn F3 hb; replace RL9 := rn RL9 hb; clear c3_0 c3_1 c3_2; obtain ⟨c3_0, c3_1, c3_2⟩ := cs3 F3; clear hb QL15)
     | (go_at_call 49; with_reducible refine cl (clv (spec_SessionsValid.M _ _ z15 _ (rc RL15)) (congrArg Value.bool (show sesB z15 = true by rw [← hz15]; exact hone))) B fun w305 hb B => ?_; replace F3 := bn F3 hb; replace RL9 := rn RL9 hb; clear c3_0 c3_1 c3_2; obtain ⟨c3_0, c3_1, c3_2⟩ := cs3 F3; clear hb; clear hz15))
    all_goals (
     refine rg (n := 7) (S := fun W => W.heap[g3]? = some (.cells #[.int .i64 (a), .int .i64 (b), .int .i64 (c)] 100 (0, 0))) (ds := []) #[false, false, false, false, false, false, false] (by kernel_rfl) rfl rfl F3.out id B (fun w306 hb B hHeld => ?_)
     refine with_tabW spec_SessionPut.tab4 spec_SessionPut.bits4 (fun HT_ HW_ => ?_)
     replace F3 := bn F3 hb
     replace RL9 := rn RL9 hb
     clear hb
     refine pu (i := 0) (N := some 20) (v := ?_) (bits 7 1) rfl rfl (any_of HT_.out (by kernel_rfl)) (fun _ _ _ h => h) (by kernel_rfl) ?_ ?_; rotate_left; (intro w'; go_simp; with_reducible rfl)
     refine pu (i := 1) (N := some 21) (v := ?_) (bits 7 3) rfl rfl (any_of HT_.out (by kernel_rfl)) (fun _ _ _ h => h) (by kernel_rfl) ?_ ?_; rotate_left; (intro w'; go_simp; with_reducible rfl)
     refine ta (i := 2) (N := some 22) (v := ?_) (bits 7 7) rfl rfl (take_ofW HT_.out HW_.out (by kernel_rfl)) (fun _ _ _ h => h) (by kernel_rfl) hHeld ?_ ?_; rotate_left; (intro w' hS; have s0 := hS; obtain ⟨q0, q1, q2⟩ := cs3 (Aside0.mk s0); go_simp; with_reducible rfl)
     refine pu (i := 4) (N := some 24) (v := ?_) (bits 7 23) rfl rfl (any_of HT_.out (by kernel_rfl)) (fun _ _ _ h => h) (by kernel_rfl) ?_ ?_; rotate_left; (intro w'; go_simp; with_reducible rfl)
     refine ta (i := 5) (N := some 25) (v := ?_) (bits 7 55) rfl rfl (take_ofW HT_.out HW_.out (by kernel_rfl)) (fun _ _ _ h => h) (by kernel_rfl) hHeld ?_ ?_; rotate_left; (intro w' hS; have s0 := hS; obtain ⟨q0, q1, q2⟩ := cs3 (Aside0.mk s0); go_simp; with_reducible rfl)
     refine norm_ (a' := ?_) ?_ ?_
     rotate_left
     ·simp only [Act.put, List.setIfInBounds_toArray, List.set_cons_zero, List.set_cons_succ, i64_w, i32_w]
      rfl
     refine one_ (i := 3) (N := some 23) (bits 7 63) rfl rfl (one_of HT_.out (by kernel_rfl)) (by decide) (fun K hK => ?_)
     refine goes_ Try.func121 (by kernel_rfl) rfl #[.slice A0 l.length c0, .int .i64 (a)] (by rfl) rfl rfl (by (try simp only [List.map_toArray, List.map_cons, List.map_nil]); rfl) ?_
     with_reducible refine cl (spec_SessionSeq.M _ _ l a _ (cb HR0 B) HC0.out) B fun w307 hb B => ?_
     replace F3 := bn F3 hb
     replace RL9 := rn RL9 hb
     clear hb
     refine ⟨_, rfl, ?_⟩
     refine hK.out _ _ F3.out (fun hHeld => ?_)
     clear hK K
     refine norm_ (a' := ?_) ?_ ?_
     rotate_left
     ·show Act.put _ (some 23) _ = _
      simp only [Act.put, List.setIfInBounds_toArray, List.set_cons_zero, List.set_cons_succ, i64_w, i32_w]
      rfl
     refine pu (i := 6) (N := some 26) (v := ?_) (bits 7 127) rfl rfl (any_of HT_.out (by kernel_rfl)) (fun _ _ _ h => h) (by kernel_rfl) ?_ ?_; rotate_left; (intro w'; go_simp; with_reducible rfl)
     refine norm_ (a' := ?_) ?_ ?_
     rotate_left
     ·simp only [Act.put, List.setIfInBounds_toArray, List.set_cons_zero, List.set_cons_succ, i64_w, i32_w]
      rfl
     refine done_ (done_of HT_.out (by kernel_rfl)) ?_)
    all_goals try go_wp2
    clear dq hq hone ho hv
    (try clear c3_0 c3_1 c3_2)
    go_loopg [6, 7, 8] (l.length + 1) (fun kx v6 v7 v8 wr => ∃ (j : Nat) (p : List S100) (pl : Bool), v8 = .int .i64 (j : Int) ∧ v7 = .bool pl ∧ j ≤ l.length ∧ l.length < j + kx ∧ p.length ≤ 2 * j ∧ Aside0 (Below w.heap.size w wr) ∧ Aside0 (wr.heap[g3]? = some (.cells #[.int .i64 (a), .int .i64 (b), .int .i64 (c)] 100 (0, 0))) ∧ Aside0 (Ow k100 100 wr w.heap.size v6 p) ∧ Aside0 (∀ k_, v6.ownBlock = some k_ → k_ ≠ g3) ∧ Aside0 (p ++ putL (l.drop j) ⟨a, b, c⟩ pl = r))
    case atStart => exact ⟨0, [], false, rfl, rfl, by omega, by omega, by simp, B, F3, RL9, NB3_L9, H⟩
    case round =>
     clear H B F3 RL9 NB3_L9
     obtain ⟨j, p, pl, rfl, rfl, hj, hk, hpl, B, F3, Rp6, NB3_p6, H⟩ := hrel
     obtain ⟨A6, k6, rfl⟩ := Kd.R_slice Rp6.out
     obtain ⟨c3_0, c3_1, c3_2⟩ := cs3 F3
     by_cases hlt : j < l.length
     ·have HS := H.out
      rw [ses_drop hlt, putL_cons] at HS
      clear H
      obtain ⟨d, rfl⟩ : ∃ d, gk = d + 1 := ⟨gk - 1, by omega⟩
      have cj : decide ((j : Int) < (l.length : Int)) = true := decide_eq_true (by omega)
      obtain ⟨ad, hA, y0, y1, y2⟩ := at_T100 (cb HR0 B) (j : Int) (by omega) (by omega)
      cases hA
      rw [Int.toNat_natCast] at y0 y1 y2
      have j1 := eq_true (show (j : Int) < (l.length : Int) by omega)
      have j2 := eq_true hlt
      generalize hy : rd_T100 l (j : Int) = y at *
      cases pl with
      | true =>
       rw [if_neg (by simp)] at HS
       by_cases he : y.f0 = a
       ·have dn : (y.f0 != a) = false := by simp [he]
        have dn2 : decide (y.f0 = a) = true := decide_eq_true he
        rw [if_pos he] at HS
        have HT := Aside0.mk HS
        clear HS
        try go_wp2
        all_goals (
         refine rg (n := 12) (S := fun W => Kd.C k100 W (some ad) l.length l ∧ W.heap[g3]? = some (.cells #[.int .i64 (a), .int .i64 (b), .int .i64 (c)] 100 (0, 0))) (ds := []) #[false, false, false, false, false, false, false, false, false, false, false, false] (by kernel_rfl) rfl rfl ⟨(cb HR0 B), F3.out⟩ id B (fun w501 hb B hHeld => ?_)
         refine with_tabW spec_SessionPut.tab10 spec_SessionPut.bits10 (fun HT_ HW_ => ?_)
         replace F3 := bn F3 hb
         replace Rp6 := rn Rp6 hb
         clear hb
         refine pu (i := 0) (N := some 36) (v := ?_) (bits 12 1) rfl rfl (any_of HT_.out (by kernel_rfl)) (fun _ _ _ h => h) (by kernel_rfl) ?_ ?_; rotate_left; (intro w'; go_simp; with_reducible rfl)
         refine pu (i := 1) (N := some 37) (v := ?_) (bits 12 3) rfl rfl (any_of HT_.out (by kernel_rfl)) (fun _ _ _ h => h) (by kernel_rfl) ?_ ?_; rotate_left; (intro w'; go_simp; with_reducible rfl)
         refine pu (i := 2) (N := some 38) (v := ?_) (bits 12 7) rfl rfl (any_of HT_.out (by kernel_rfl)) (fun _ _ _ h => h) (by kernel_rfl) ?_ ?_; rotate_left; (intro w'; go_simp; with_reducible rfl)
         refine sk (i := 3) (N := some 39) (bits 12 15) rfl rfl (any_of HT_.out (by kernel_rfl)) (fun _ _ _ h => h) (by kernel_rfl) ?_
         refine sk (i := 4) (N := some 40) (bits 12 31) rfl rfl (any_of HT_.out (by kernel_rfl)) (fun _ _ _ h => h) (by kernel_rfl) ?_
         refine sk (i := 5) (N := some 41) (bits 12 63) rfl rfl (any_of HT_.out (by kernel_rfl)) (fun _ _ _ h => h) (by kernel_rfl) ?_
         refine sk (i := 6) (N := some 42) (bits 12 127) rfl rfl (any_of HT_.out (by kernel_rfl)) (fun _ _ _ h => h) (by kernel_rfl) ?_
         refine sk (i := 7) (N := some 43) (bits 12 255) rfl rfl (any_of HT_.out (by kernel_rfl)) (fun _ _ _ h => h) (by kernel_rfl) ?_
         refine sk (i := 8) (N := some 44) (bits 12 511) rfl rfl (any_of HT_.out (by kernel_rfl)) (fun _ _ _ h => h) (by kernel_rfl) ?_
         refine sk (i := 9) (N := some 45) (bits 12 1023) rfl rfl (any_of HT_.out (by kernel_rfl)) (fun _ _ _ h => h) (by kernel_rfl) ?_
         refine sk (i := 10) (N := some 46) (bits 12 2047) rfl rfl (any_of HT_.out (by kernel_rfl)) (fun _ _ _ h => h) (by kernel_rfl) ?_
         refine pu (i := 11) (N := some 47) (v := ?_) (bits 12 4095) rfl rfl (any_of HT_.out (by kernel_rfl)) (fun _ _ _ h => h) (by kernel_rfl) ?_ ?_; rotate_left; (intro w'; go_simp; with_reducible rfl)
         refine norm_ (a' := ?_) ?_ ?_
         rotate_left
         ·simp only [Act.put, List.setIfInBounds_toArray, List.set_cons_zero, List.set_cons_succ, i64_w, i32_w]
          rfl
         refine done_ (done_of HT_.out (by kernel_rfl)) ?_
         clear c3_0 c3_1 c3_2
         obtain ⟨c3_0, c3_1, c3_2⟩ := cs3 F3)
        all_goals try go_wp2
        all_goals (
         refine rg (n := 8) (S := fun W => Kd.C k100 W (some ad) l.length l ∧ W.heap[g3]? = some (.cells #[.int .i64 (a), .int .i64 (b), .int .i64 (c)] 100 (0, 0))) (ds := []) #[false, false, false, false, false, false, false, false] (by kernel_rfl) rfl rfl ⟨(cb HR0 B), F3.out⟩ id B (fun w502 hb B hHeld => ?_)
         refine with_tabW spec_SessionPut.tab13 spec_SessionPut.bits13 (fun HT_ HW_ => ?_)
         replace F3 := bn F3 hb
         replace Rp6 := rn Rp6 hb
         clear hb
         refine pu (i := 0) (N := some 52) (v := ?_) (bits 8 1) rfl rfl (any_of HT_.out (by kernel_rfl)) (fun _ _ _ h => h) (by kernel_rfl) ?_ ?_; rotate_left; (intro w'; go_simp; with_reducible rfl)
         refine pu (i := 1) (N := some 53) (v := ?_) (bits 8 3) rfl rfl (any_of HT_.out (by kernel_rfl)) (fun _ _ _ h => h) (by kernel_rfl) ?_ ?_; rotate_left; (intro w'; go_simp; with_reducible rfl)
         refine pu (i := 2) (N := some 54) (v := ?_) (bits 8 7) rfl rfl (any_of HT_.out (by kernel_rfl)) (fun _ _ _ h => h) (by kernel_rfl) ?_ ?_; rotate_left; (intro w'; go_simp; with_reducible rfl)
         refine pu (i := 3) (N := some 55) (v := ?_) (bits 8 15) rfl rfl (any_of HT_.out (by kernel_rfl)) (fun _ _ _ h => h) (by kernel_rfl) ?_ ?_; rotate_left; (intro w'; go_simp; with_reducible rfl)
         refine ta (i := 4) (N := some 56) (v := ?_) (bits 8 31) rfl rfl (take_ofW HT_.out HW_.out (by kernel_rfl)) (fun _ _ _ h => h) (by kernel_rfl) hHeld ?_ ?_; rotate_left; (intro w' hS; obtain ⟨s0, s1⟩ := hS; obtain ⟨_, hA, q0, q1, q2⟩ := at_T100 s0 (j : Int) (by omega) (by omega); cases hA; rw [Int.toNat_natCast] at q0 q1 q2; rw [hy] at q0 q1 q2; go_simp; with_reducible rfl)
         refine pu (i := 5) (N := some 57) (v := ?_) (bits 8 63) rfl rfl (any_of HT_.out (by kernel_rfl)) (fun _ _ _ h => h) (by kernel_rfl) ?_ ?_; rotate_left; (intro w'; go_simp; with_reducible rfl)
         refine ta (i := 6) (N := some 58) (v := ?_) (bits 8 127) rfl rfl (take_ofW HT_.out HW_.out (by kernel_rfl)) (fun _ _ _ h => h) (by kernel_rfl) hHeld ?_ ?_; rotate_left; (intro w' hS; obtain ⟨s0, s1⟩ := hS; obtain ⟨q0, q1, q2⟩ := cs3 (Aside0.mk s1); go_simp; with_reducible rfl)
         refine pu (i := 7) (N := some 59) (v := ?_) (bits 8 255) rfl rfl (any_of HT_.out (by kernel_rfl)) (fun _ _ _ h => h) (by kernel_rfl) ?_ ?_; rotate_left; (intro w'; go_simp; with_reducible rfl)
         refine norm_ (a' := ?_) ?_ ?_
         rotate_left
         ·simp only [Act.put, List.setIfInBounds_toArray, List.set_cons_zero, List.set_cons_succ, i64_w, i32_w]
          rfl
         refine done_ (done_of HT_.out (by kernel_rfl)) ?_
         clear y0 y1 y2
         obtain ⟨ad2, hA, y0, y1, y2⟩ := at_T100 (cb HR0 B) (j : Int) (by omega) (by omega)
         cases hA
         rw [Int.toNat_natCast, hy] at y0 y1 y2)
        all_goals try go_wp2
        go_roundg d
        case measure => omega
        case rel => exact ⟨j + 1, p, true, congrArg (Value.int .i64) (Int.natCast_succ _).symm, rfl, by omega, by omega, (by omega), B, F3, Rp6, NB3_p6, ⟨by have HS := HT.out; simp only [List.append_assoc, List.cons_append, List.nil_append, List.append_nil] at HS ⊢; exact HS⟩⟩
       ·have dn : (y.f0 != a) = true := by simp [he]
        have dn2 : decide (y.f0 = a) = false := decide_eq_false he
        rw [if_neg he] at HS
        have HT := Aside0.mk HS
        clear HS
        try go_wp2
        all_goals (
         refine rg (n := 12) (S := fun W => Kd.C k100 W (some ad) l.length l ∧ W.heap[g3]? = some (.cells #[.int .i64 (a), .int .i64 (b), .int .i64 (c)] 100 (0, 0))) (ds := []) #[false, false, false, false, false, false, false, false, false, false, false, false] (by kernel_rfl) rfl rfl ⟨(cb HR0 B), F3.out⟩ id B (fun w601 hb B hHeld => ?_)
         refine with_tabW spec_SessionPut.tab10 spec_SessionPut.bits10 (fun HT_ HW_ => ?_)
         replace F3 := bn F3 hb
         replace Rp6 := rn Rp6 hb
         clear hb
         refine pu (i := 0) (N := some 36) (v := ?_) (bits 12 1) rfl rfl (any_of HT_.out (by kernel_rfl)) (fun _ _ _ h => h) (by kernel_rfl) ?_ ?_; rotate_left; (intro w'; go_simp; with_reducible rfl)
         refine pu (i := 1) (N := some 37) (v := ?_) (bits 12 3) rfl rfl (any_of HT_.out (by kernel_rfl)) (fun _ _ _ h => h) (by kernel_rfl) ?_ ?_; rotate_left; (intro w'; go_simp; with_reducible rfl)
         refine pu (i := 2) (N := some 38) (v := ?_) (bits 12 7) rfl rfl (any_of HT_.out (by kernel_rfl)) (fun _ _ _ h => h) (by kernel_rfl) ?_ ?_; rotate_left; (intro w'; go_simp; with_reducible rfl)
         refine sk (i := 3) (N := some 39) (bits 12 15) rfl rfl (any_of HT_.out (by kernel_rfl)) (fun _ _ _ h => h) (by kernel_rfl) ?_
         refine sk (i := 4) (N := some 40) (bits 12 31) rfl rfl (any_of HT_.out (by kernel_rfl)) (fun _ _ _ h => h) (by kernel_rfl) ?_
         refine sk (i := 5) (N := some 41) (bits 12 63) rfl rfl (any_of HT_.out (by kernel_rfl)) (fun _ _ _ h => h) (by kernel_rfl) ?_
         refine sk (i := 6) (N := some 42) (bits 12 127) rfl rfl (any_of HT_.out (by kernel_rfl)) (fun _ _ _ h => h) (by kernel_rfl) ?_
         refine sk (i := 7) (N := some 43) (bits 12 255) rfl rfl (any_of HT_.out (by kernel_rfl)) (fun _ _ _ h => h) (by kernel_rfl) ?_
         refine sk (i := 8) (N := some 44) (bits 12 511) rfl rfl (any_of HT_.out (by kernel_rfl)) (fun _ _ _ h => h) (by kernel_rfl) ?_
         refine sk (i := 9) (N := some 45) (bits 12 1023) rfl rfl (any_of HT_.out (by kernel_rfl)) (fun _ _ _ h => h) (by kernel_rfl) ?_
         refine sk (i := 10) (N := some 46) (bits 12 2047) rfl rfl (any_of HT_.out (by kernel_rfl)) (fun _ _ _ h => h) (by kernel_rfl) ?_
         refine pu (i := 11) (N := some 47) (v := ?_) (bits 12 4095) rfl rfl (any_of HT_.out (by kernel_rfl)) (fun _ _ _ h => h) (by kernel_rfl) ?_ ?_; rotate_left; (intro w'; go_simp; with_reducible rfl)
         refine norm_ (a' := ?_) ?_ ?_
         rotate_left
         ·simp only [Act.put, List.setIfInBounds_toArray, List.set_cons_zero, List.set_cons_succ, i64_w, i32_w]
          rfl
         refine done_ (done_of HT_.out (by kernel_rfl)) ?_
         clear c3_0 c3_1 c3_2
         obtain ⟨c3_0, c3_1, c3_2⟩ := cs3 F3)
        all_goals try go_wp2
        all_goals (
         refine rg (n := 8) (S := fun W => Kd.C k100 W (some ad) l.length l ∧ W.heap[g3]? = some (.cells #[.int .i64 (a), .int .i64 (b), .int .i64 (c)] 100 (0, 0))) (ds := []) #[false, false, false, false, false, false, false, false] (by kernel_rfl) rfl rfl ⟨(cb HR0 B), F3.out⟩ id B (fun w602 hb B hHeld => ?_)
         refine with_tabW spec_SessionPut.tab13 spec_SessionPut.bits13 (fun HT_ HW_ => ?_)
         replace F3 := bn F3 hb
         replace Rp6 := rn Rp6 hb
         clear hb
         refine pu (i := 0) (N := some 52) (v := ?_) (bits 8 1) rfl rfl (any_of HT_.out (by kernel_rfl)) (fun _ _ _ h => h) (by kernel_rfl) ?_ ?_; rotate_left; (intro w'; go_simp; with_reducible rfl)
         refine pu (i := 1) (N := some 53) (v := ?_) (bits 8 3) rfl rfl (any_of HT_.out (by kernel_rfl)) (fun _ _ _ h => h) (by kernel_rfl) ?_ ?_; rotate_left; (intro w'; go_simp; with_reducible rfl)
         refine pu (i := 2) (N := some 54) (v := ?_) (bits 8 7) rfl rfl (any_of HT_.out (by kernel_rfl)) (fun _ _ _ h => h) (by kernel_rfl) ?_ ?_; rotate_left; (intro w'; go_simp; with_reducible rfl)
         refine pu (i := 3) (N := some 55) (v := ?_) (bits 8 15) rfl rfl (any_of HT_.out (by kernel_rfl)) (fun _ _ _ h => h) (by kernel_rfl) ?_ ?_; rotate_left; (intro w'; go_simp; with_reducible rfl)
         refine ta (i := 4) (N := some 56) (v := ?_) (bits 8 31) rfl rfl (take_ofW HT_.out HW_.out (by kernel_rfl)) (fun _ _ _ h => h) (by kernel_rfl) hHeld ?_ ?_; rotate_left; (intro w' hS; obtain ⟨s0, s1⟩ := hS; obtain ⟨_, hA, q0, q1, q2⟩ := at_T100 s0 (j : Int) (by omega) (by omega); cases hA; rw [Int.toNat_natCast] at q0 q1 q2; rw [hy] at q0 q1 q2; go_simp; with_reducible rfl)
         refine pu (i := 5) (N := some 57) (v := ?_) (bits 8 63) rfl rfl (any_of HT_.out (by kernel_rfl)) (fun _ _ _ h => h) (by kernel_rfl) ?_ ?_; rotate_left; (intro w'; go_simp; with_reducible rfl)
         refine ta (i := 6) (N := some 58) (v := ?_) (bits 8 127) rfl rfl (take_ofW HT_.out HW_.out (by kernel_rfl)) (fun _ _ _ h => h) (by kernel_rfl) hHeld ?_ ?_; rotate_left; (intro w' hS; obtain ⟨s0, s1⟩ := hS; obtain ⟨q0, q1, q2⟩ := cs3 (Aside0.mk s1); go_simp; with_reducible rfl)
         refine pu (i := 7) (N := some 59) (v := ?_) (bits 8 255) rfl rfl (any_of HT_.out (by kernel_rfl)) (fun _ _ _ h => h) (by kernel_rfl) ?_ ?_; rotate_left; (intro w'; go_simp; with_reducible rfl)
         refine norm_ (a' := ?_) ?_ ?_
         rotate_left
         ·simp only [Act.put, List.setIfInBounds_toArray, List.set_cons_zero, List.set_cons_succ, i64_w, i32_w]
          rfl
         refine done_ (done_of HT_.out (by kernel_rfl)) ?_
         clear y0 y1 y2
         obtain ⟨ad2, hA, y0, y1, y2⟩ := at_T100 (cb HR0 B) (j : Int) (by omega) (by omega)
         cases hA
         rw [Int.toNat_natCast, hy] at y0 y1 y2)
        all_goals go_wp2_with (first
         | ((with_reducible refine gate_dst (N := 65) rfl ?_); refine lt k100 100 ?hg (N := 65) ?hd ([⟨y.f0, y.f1, y.f2⟩] : List S100) [.int .i64 (y.f0), .int .i64 (y.f1), .int .i64 (y.f2)] ?hr (Reps.c3 (k100_mkM _ _ _ ⟨y.f0, y.f1, y.f2⟩) (Reps.none _ _)) (by simp) B ?_; (case hd => rfl); (case hg => rfl); (case hr => first | (go_simp; done) | (go_simp; rfl)); intro z65 hz65 AL65 kL65 w603 hb B RL65 QL65; have NB3_L65 := nb QL65 F3; replace F3 := bn F3 hb; replace Rp6 := rn Rp6 hb; clear hb QL65)
         | ((with_reducible refine gate_builtin (b := .append) (xs := #[.tmp 60, .tmp 65]) rfl ?_); at_builtin; refine apx k100 100 rfl (.tmp 60) (.tmp 65) 32 (.agg #[.int .i64 (0), .int .i64 (0), .int .i64 (0)]) 24 rfl Try.underlying32 info100 rfl (by decide) (by omega) rfl rfl Rp6 (rc RL65) (fun x cs h => by rw [k100_open h]; exact k100_mkM _ _ _ x) (by rw [← hz65]; simp only [List.length_append, List.length_cons, List.length_nil]; omega) B ?_; intro z66 hz66 AL66 kL66 w604 hg B RL66 hat; have NB3_L66 := nba hat NB3_p6 F3; replace F3 := bgn F3 hg NB3_p6; clear hg hat; subst hz65))
        go_roundg d
        case measure => omega
        case rel => exact ⟨j + 1, z66, true, congrArg (Value.int .i64) (Int.natCast_succ _).symm, rfl, by omega, by omega, (by rw [← hz66]; simp only [List.length_append, List.length_cons, List.length_nil]; omega), B, F3, RL66, NB3_L66, ⟨by rw [← hz66]; have HS := HT.out; simp only [List.append_assoc, List.cons_append, List.nil_append, List.append_nil] at HS ⊢; exact HS⟩⟩
      | false =>
       by_cases hge : a ≤ y.f0
       ·have dg : decide (y.f0 ≥ a) = true := decide_eq_true hge
        rw [if_pos ⟨rfl, hge⟩] at HS
        by_cases he : y.f0 = a
        ·have dn : (y.f0 != a) = false := by simp [he]
         have dn2 : decide (y.f0 = a) = true := decide_eq_true he
         rw [if_pos he] at HS
         have HT := Aside0.mk HS
         clear HS
         try go_wp2
         all_goals (
          refine rg (n := 12) (S := fun W => Kd.C k100 W (some ad) l.length l ∧ W.heap[g3]? = some (.cells #[.int .i64 (a), .int .i64 (b), .int .i64 (c)] 100 (0, 0))) (ds := []) #[false, false, false, false, false, false, false, false, false, false, false, false] (by kernel_rfl) rfl rfl ⟨(cb HR0 B), F3.out⟩ id B (fun w701 hb B hHeld => ?_)
          refine with_tabW spec_SessionPut.tab10 spec_SessionPut.bits10 (fun HT_ HW_ => ?_)
          replace F3 := bn F3 hb
          replace Rp6 := rn Rp6 hb
          clear hb
          refine pu (i := 0) (N := some 36) (v := ?_) (bits 12 1) rfl rfl (any_of HT_.out (by kernel_rfl)) (fun _ _ _ h => h) (by kernel_rfl) ?_ ?_; rotate_left; (intro w'; go_simp; with_reducible rfl)
          refine pu (i := 1) (N := some 37) (v := ?_) (bits 12 3) rfl rfl (any_of HT_.out (by kernel_rfl)) (fun _ _ _ h => h) (by kernel_rfl) ?_ ?_; rotate_left; (intro w'; go_simp; with_reducible rfl)
          refine pu (i := 2) (N := some 38) (v := ?_) (bits 12 7) rfl rfl (any_of HT_.out (by kernel_rfl)) (fun _ _ _ h => h) (by kernel_rfl) ?_ ?_; rotate_left; (intro w'; go_simp; with_reducible rfl)
          refine pu (i := 3) (N := some 39) (v := ?_) (bits 12 15) rfl rfl (any_of HT_.out (by kernel_rfl)) (fun _ _ _ h => h) (by kernel_rfl) ?_ ?_; rotate_left; (intro w'; go_simp; with_reducible rfl)
          refine pu (i := 4) (N := some 40) (v := ?_) (bits 12 31) rfl rfl (any_of HT_.out (by kernel_rfl)) (fun _ _ _ h => h) (by kernel_rfl) ?_ ?_; rotate_left; (intro w'; go_simp; with_reducible rfl)
          refine pu (i := 5) (N := some 41) (v := ?_) (bits 12 63) rfl rfl (any_of HT_.out (by kernel_rfl)) (fun _ _ _ h => h) (by kernel_rfl) ?_ ?_; rotate_left; (intro w'; go_simp; with_reducible rfl)
          refine pu (i := 6) (N := some 42) (v := ?_) (bits 12 127) rfl rfl (any_of HT_.out (by kernel_rfl)) (fun _ _ _ h => h) (by kernel_rfl) ?_ ?_; rotate_left; (intro w'; go_simp; with_reducible rfl)
          refine ta (i := 7) (N := some 43) (v := ?_) (bits 12 255) rfl rfl (take_ofW HT_.out HW_.out (by kernel_rfl)) (fun _ _ _ h => h) (by kernel_rfl) hHeld ?_ ?_; rotate_left; (intro w' hS; obtain ⟨s0, s1⟩ := hS; obtain ⟨_, hA, q0, q1, q2⟩ := at_T100 s0 (j : Int) (by omega) (by omega); cases hA; rw [Int.toNat_natCast] at q0 q1 q2; rw [hy] at q0 q1 q2; go_simp; with_reducible rfl)
          refine pu (i := 8) (N := some 44) (v := ?_) (bits 12 511) rfl rfl (any_of HT_.out (by kernel_rfl)) (fun _ _ _ h => h) (by kernel_rfl) ?_ ?_; rotate_left; (intro w'; go_simp; with_reducible rfl)
          refine ta (i := 9) (N := some 45) (v := ?_) (bits 12 1023) rfl rfl (take_ofW HT_.out HW_.out (by kernel_rfl)) (fun _ _ _ h => h) (by kernel_rfl) hHeld ?_ ?_; rotate_left; (intro w' hS; obtain ⟨s0, s1⟩ := hS; obtain ⟨q0, q1, q2⟩ := cs3 (Aside0.mk s1); go_simp; with_reducible rfl)
          refine pu (i := 10) (N := some 46) (v := ?_) (bits 12 2047) rfl rfl (any_of HT_.out (by kernel_rfl)) (fun _ _ _ h => h) (by kernel_rfl) ?_ ?_; rotate_left; (intro w'; go_simp; with_reducible rfl)
          refine pu (i := 11) (N := some 47) (v := ?_) (bits 12 4095) rfl rfl (any_of HT_.out (by kernel_rfl)) (fun _ _ _ h => h) (by kernel_rfl) ?_ ?_; rotate_left; (intro w'; go_simp; with_reducible rfl)
          refine norm_ (a' := ?_) ?_ ?_
          rotate_left
          ·simp only [Act.put, List.setIfInBounds_toArray, List.set_cons_zero, List.set_cons_succ, i64_w, i32_w]
           rfl
          refine done_ (done_of HT_.out (by kernel_rfl)) ?_
          clear c3_0 c3_1 c3_2
          obtain ⟨c3_0, c3_1, c3_2⟩ := cs3 F3)
         all_goals go_wp2_with (first
          | ((with_reducible refine gate_dst (N := 50) rfl ?_); refine lt k100 100 ?hg (N := 50) ?hd ([⟨a, b, c⟩] : List S100) [.int .i64 (a), .int .i64 (b), .int .i64 (c)] ?hr (Reps.c3 (k100_mkM _ _ _ ⟨a, b, c⟩) (Reps.none _ _)) (by simp) B ?_; (case hd => rfl); (case hg => rfl); (case hr => first | (go_simp; done) | (go_simp; rfl)); intro z50 hz50 AL50 kL50 w702 hb B RL50 QL50; have NB3_L50 := nb QL50 F3; replace F3 := bn F3 hb; replace Rp6 := rn Rp6 hb; clear c3_0 c3_1 c3_2; obtain ⟨c3_0, c3_1, c3_2⟩ := cs3 F3; clear hb QL50)
          | ((with_reducible refine gate_builtin (b := .append) (xs := #[.tmp 48, .tmp 50]) rfl ?_); at_builtin; refine apx k100 100 rfl (.tmp 48) (.tmp 50) 32 (.agg #[.int .i64 (0), .int .i64 (0), .int .i64 (0)]) 24 rfl Try.underlying32 info100 rfl (by decide) (by omega) rfl rfl Rp6 (rc RL50) (fun x cs h => by rw [k100_open h]; exact k100_mkM _ _ _ x) (by rw [← hz50]; simp only [List.length_cons, List.length_nil]; omega) B ?_; intro z51 hz51 AL51 kL51 w703 hg B RL51 hat; have NB3_L51 := nba hat NB3_p6 F3; replace F3 := bgn F3 hg NB3_p6; clear c3_0 c3_1 c3_2; obtain ⟨c3_0, c3_1, c3_2⟩ := cs3 F3; clear hg hat; subst hz50))
         all_goals (
          refine rg (n := 8) (S := fun W => Kd.C k100 W (some ad) l.length l ∧ W.heap[g3]? = some (.cells #[.int .i64 (a), .int .i64 (b), .int .i64 (c)] 100 (0, 0))) (ds := []) #[false, false, false, false, false, false, false, false] (by kernel_rfl) rfl rfl ⟨(cb HR0 B), F3.out⟩ id B (fun w704 hb B hHeld => ?_)
          refine with_tabW spec_SessionPut.tab13 spec_SessionPut.bits13 (fun HT_ HW_ => ?_)
          replace F3 := bn F3 hb
          replace RL51 := rn RL51 hb
          clear hb
          refine pu (i := 0) (N := some 52) (v := ?_) (bits 8 1) rfl rfl (any_of HT_.out (by kernel_rfl)) (fun _ _ _ h => h) (by kernel_rfl) ?_ ?_; rotate_left; (intro w'; go_simp; with_reducible rfl)
          refine pu (i := 1) (N := some 53) (v := ?_) (bits 8 3) rfl rfl (any_of HT_.out (by kernel_rfl)) (fun _ _ _ h => h) (by kernel_rfl) ?_ ?_; rotate_left; (intro w'; go_simp; with_reducible rfl)
          refine pu (i := 2) (N := some 54) (v := ?_) (bits 8 7) rfl rfl (any_of HT_.out (by kernel_rfl)) (fun _ _ _ h => h) (by kernel_rfl) ?_ ?_; rotate_left; (intro w'; go_simp; with_reducible rfl)
          refine pu (i := 3) (N := some 55) (v := ?_) (bits 8 15) rfl rfl (any_of HT_.out (by kernel_rfl)) (fun _ _ _ h => h) (by kernel_rfl) ?_ ?_; rotate_left; (intro w'; go_simp; with_reducible rfl)
          refine ta (i := 4) (N := some 56) (v := ?_) (bits 8 31) rfl rfl (take_ofW HT_.out HW_.out (by kernel_rfl)) (fun _ _ _ h => h) (by kernel_rfl) hHeld ?_ ?_; rotate_left; (intro w' hS; obtain ⟨s0, s1⟩ := hS; obtain ⟨_, hA, q0, q1, q2⟩ := at_T100 s0 (j : Int) (by omega) (by omega); cases hA; rw [Int.toNat_natCast] at q0 q1 q2; rw [hy] at q0 q1 q2; go_simp; with_reducible rfl)
          refine pu (i := 5) (N := some 57) (v := ?_) (bits 8 63) rfl rfl (any_of HT_.out (by kernel_rfl)) (fun _ _ _ h => h) (by kernel_rfl) ?_ ?_; rotate_left; (intro w'; go_simp; with_reducible rfl)
          refine ta (i := 6) (N := some 58) (v := ?_) (bits 8 127) rfl rfl (take_ofW HT_.out HW_.out (by kernel_rfl)) (fun _ _ _ h => h) (by kernel_rfl) hHeld ?_ ?_; rotate_left; (intro w' hS; obtain ⟨s0, s1⟩ := hS; obtain ⟨q0, q1, q2⟩ := cs3 (Aside0.mk s1); go_simp; with_reducible rfl)
          refine pu (i := 7) (N := some 59) (v := ?_) (bits 8 255) rfl rfl (any_of HT_.out (by kernel_rfl)) (fun _ _ _ h => h) (by kernel_rfl) ?_ ?_; rotate_left; (intro w'; go_simp; with_reducible rfl)
          refine norm_ (a' := ?_) ?_ ?_
          rotate_left
          ·simp only [Act.put, List.setIfInBounds_toArray, List.set_cons_zero, List.set_cons_succ, i64_w, i32_w]
           rfl
          refine done_ (done_of HT_.out (by kernel_rfl)) ?_
          clear y0 y1 y2
          obtain ⟨ad2, hA, y0, y1, y2⟩ := at_T100 (cb HR0 B) (j : Int) (by omega) (by omega)
          cases hA
          rw [Int.toNat_natCast, hy] at y0 y1 y2)
         all_goals try go_wp2
         go_roundg d
         case measure => omega
         case rel => exact ⟨j + 1, z51, true, congrArg (Value.int .i64) (Int.natCast_succ _).symm, rfl, by omega, by omega, (by rw [← hz51]; simp only [List.length_append, List.length_cons, List.length_nil]; omega), B, F3, RL51, NB3_L51, ⟨by rw [← hz51]; have HS := HT.out; simp only [List.append_assoc, List.cons_append, List.nil_append, List.append_nil] at HS ⊢; exact HS⟩⟩
        ·have dn : (y.f0 != a) = true := by simp [he]
         have dn2 : decide (y.f0 = a) = false := decide_eq_false he
         rw [if_neg he] at HS
         have HT := Aside0.mk HS
         clear HS
         try go_wp2
         all_goals (
          refine rg (n := 12) (S := fun W => Kd.C k100 W (some ad) l.length l ∧ W.heap[g3]? = some (.cells #[.int .i64 (a), .int .i64 (b), .int .i64 (c)] 100 (0, 0))) (ds := []) #[false, false, false, false, false, false, false, false, false, false, false, false] (by kernel_rfl) rfl rfl ⟨(cb HR0 B), F3.out⟩ id B (fun w801 hb B hHeld => ?_)
          refine with_tabW spec_SessionPut.tab10 spec_SessionPut.bits10 (fun HT_ HW_ => ?_)
          replace F3 := bn F3 hb
          replace Rp6 := rn Rp6 hb
          clear hb
          refine pu (i := 0) (N := some 36) (v := ?_) (bits 12 1) rfl rfl (any_of HT_.out (by kernel_rfl)) (fun _ _ _ h => h) (by kernel_rfl) ?_ ?_; rotate_left; (intro w'; go_simp; with_reducible rfl)
          refine pu (i := 1) (N := some 37) (v := ?_) (bits 12 3) rfl rfl (any_of HT_.out (by kernel_rfl)) (fun _ _ _ h => h) (by kernel_rfl) ?_ ?_; rotate_left; (intro w'; go_simp; with_reducible rfl)
          refine pu (i := 2) (N := some 38) (v := ?_) (bits 12 7) rfl rfl (any_of HT_.out (by kernel_rfl)) (fun _ _ _ h => h) (by kernel_rfl) ?_ ?_; rotate_left; (intro w'; go_simp; with_reducible rfl)
          refine pu (i := 3) (N := some 39) (v := ?_) (bits 12 15) rfl rfl (any_of HT_.out (by kernel_rfl)) (fun _ _ _ h => h) (by kernel_rfl) ?_ ?_; rotate_left; (intro w'; go_simp; with_reducible rfl)
          refine pu (i := 4) (N := some 40) (v := ?_) (bits 12 31) rfl rfl (any_of HT_.out (by kernel_rfl)) (fun _ _ _ h => h) (by kernel_rfl) ?_ ?_; rotate_left; (intro w'; go_simp; with_reducible rfl)
          refine pu (i := 5) (N := some 41) (v := ?_) (bits 12 63) rfl rfl (any_of HT_.out (by kernel_rfl)) (fun _ _ _ h => h) (by kernel_rfl) ?_ ?_; rotate_left; (intro w'; go_simp; with_reducible rfl)
          refine pu (i := 6) (N := some 42) (v := ?_) (bits 12 127) rfl rfl (any_of HT_.out (by kernel_rfl)) (fun _ _ _ h => h) (by kernel_rfl) ?_ ?_; rotate_left; (intro w'; go_simp; with_reducible rfl)
          refine ta (i := 7) (N := some 43) (v := ?_) (bits 12 255) rfl rfl (take_ofW HT_.out HW_.out (by kernel_rfl)) (fun _ _ _ h => h) (by kernel_rfl) hHeld ?_ ?_; rotate_left; (intro w' hS; obtain ⟨s0, s1⟩ := hS; obtain ⟨_, hA, q0, q1, q2⟩ := at_T100 s0 (j : Int) (by omega) (by omega); cases hA; rw [Int.toNat_natCast] at q0 q1 q2; rw [hy] at q0 q1 q2; go_simp; with_reducible rfl)
          refine pu (i := 8) (N := some 44) (v := ?_) (bits 12 511) rfl rfl (any_of HT_.out (by kernel_rfl)) (fun _ _ _ h => h) (by kernel_rfl) ?_ ?_; rotate_left; (intro w'; go_simp; with_reducible rfl)
          refine ta (i := 9) (N := some 45) (v := ?_) (bits 12 1023) rfl rfl (take_ofW HT_.out HW_.out (by kernel_rfl)) (fun _ _ _ h => h) (by kernel_rfl) hHeld ?_ ?_; rotate_left; (intro w' hS; obtain ⟨s0, s1⟩ := hS; obtain ⟨q0, q1, q2⟩ := cs3 (Aside0.mk s1); go_simp; with_reducible rfl)
          refine pu (i := 10) (N := some 46) (v := ?_) (bits 12 2047) rfl rfl (any_of HT_.out (by kernel_rfl)) (fun _ _ _ h => h) (by kernel_rfl) ?_ ?_; rotate_left; (intro w'; go_simp; with_reducible rfl)
          refine pu (i := 11) (N := some 47) (v := ?_) (bits 12 4095) rfl rfl (any_of HT_.out (by kernel_rfl)) (fun _ _ _ h => h) (by kernel_rfl) ?_ ?_; rotate_left; (intro w'; go_simp; with_reducible rfl)
          refine norm_ (a' := ?_) ?_ ?_
          rotate_left
          ·simp only [Act.put, List.setIfInBounds_toArray, List.set_cons_zero, List.set_cons_succ, i64_w, i32_w]
           rfl
          refine done_ (done_of HT_.out (by kernel_rfl)) ?_
          clear c3_0 c3_1 c3_2
          obtain ⟨c3_0, c3_1, c3_2⟩ := cs3 F3)
         all_goals go_wp2_with (first
          | ((with_reducible refine gate_dst (N := 50) rfl ?_); refine lt k100 100 ?hg (N := 50) ?hd ([⟨a, b, c⟩] : List S100) [.int .i64 (a), .int .i64 (b), .int .i64 (c)] ?hr (Reps.c3 (k100_mkM _ _ _ ⟨a, b, c⟩) (Reps.none _ _)) (by simp) B ?_; (case hd => rfl); (case hg => rfl); (case hr => first | (go_simp; done) | (go_simp; rfl)); intro z50 hz50 AL50 kL50 w802 hb B RL50 QL50; have NB3_L50 := nb QL50 F3; replace F3 := bn F3 hb; replace Rp6 := rn Rp6 hb; clear c3_0 c3_1 c3_2; obtain ⟨c3_0, c3_1, c3_2⟩ := cs3 F3; clear hb QL50)
          | ((with_reducible refine gate_builtin (b := .append) (xs := #[.tmp 48, .tmp 50]) rfl ?_); at_builtin; refine apx k100 100 rfl (.tmp 48) (.tmp 50) 32 (.agg #[.int .i64 (0), .int .i64 (0), .int .i64 (0)]) 24 rfl Try.underlying32 info100 rfl (by decide) (by omega) rfl rfl Rp6 (rc RL50) (fun x cs h => by rw [k100_open h]; exact k100_mkM _ _ _ x) (by rw [← hz50]; simp only [List.length_cons, List.length_nil]; omega) B ?_; intro z51 hz51 AL51 kL51 w803 hg B RL51 hat; have NB3_L51 := nba hat NB3_p6 F3; replace F3 := bgn F3 hg NB3_p6; clear c3_0 c3_1 c3_2; obtain ⟨c3_0, c3_1, c3_2⟩ := cs3 F3; clear hg hat; subst hz50))
         all_goals (
          refine rg (n := 8) (S := fun W => Kd.C k100 W (some ad) l.length l ∧ W.heap[g3]? = some (.cells #[.int .i64 (a), .int .i64 (b), .int .i64 (c)] 100 (0, 0))) (ds := []) #[false, false, false, false, false, false, false, false] (by kernel_rfl) rfl rfl ⟨(cb HR0 B), F3.out⟩ id B (fun w804 hb B hHeld => ?_)
          refine with_tabW spec_SessionPut.tab13 spec_SessionPut.bits13 (fun HT_ HW_ => ?_)
          replace F3 := bn F3 hb
          replace RL51 := rn RL51 hb
          clear hb
          refine pu (i := 0) (N := some 52) (v := ?_) (bits 8 1) rfl rfl (any_of HT_.out (by kernel_rfl)) (fun _ _ _ h => h) (by kernel_rfl) ?_ ?_; rotate_left; (intro w'; go_simp; with_reducible rfl)
          refine pu (i := 1) (N := some 53) (v := ?_) (bits 8 3) rfl rfl (any_of HT_.out (by kernel_rfl)) (fun _ _ _ h => h) (by kernel_rfl) ?_ ?_; rotate_left; (intro w'; go_simp; with_reducible rfl)
          refine pu (i := 2) (N := some 54) (v := ?_) (bits 8 7) rfl rfl (any_of HT_.out (by kernel_rfl)) (fun _ _ _ h => h) (by kernel_rfl) ?_ ?_; rotate_left; (intro w'; go_simp; with_reducible rfl)
          refine pu (i := 3) (N := some 55) (v := ?_) (bits 8 15) rfl rfl (any_of HT_.out (by kernel_rfl)) (fun _ _ _ h => h) (by kernel_rfl) ?_ ?_; rotate_left; (intro w'; go_simp; with_reducible rfl)
          refine ta (i := 4) (N := some 56) (v := ?_) (bits 8 31) rfl rfl (take_ofW HT_.out HW_.out (by kernel_rfl)) (fun _ _ _ h => h) (by kernel_rfl) hHeld ?_ ?_; rotate_left; (intro w' hS; obtain ⟨s0, s1⟩ := hS; obtain ⟨_, hA, q0, q1, q2⟩ := at_T100 s0 (j : Int) (by omega) (by omega); cases hA; rw [Int.toNat_natCast] at q0 q1 q2; rw [hy] at q0 q1 q2; go_simp; with_reducible rfl)
          refine pu (i := 5) (N := some 57) (v := ?_) (bits 8 63) rfl rfl (any_of HT_.out (by kernel_rfl)) (fun _ _ _ h => h) (by kernel_rfl) ?_ ?_; rotate_left; (intro w'; go_simp; with_reducible rfl)
          refine ta (i := 6) (N := some 58) (v := ?_) (bits 8 127) rfl rfl (take_ofW HT_.out HW_.out (by kernel_rfl)) (fun _ _ _ h => h) (by kernel_rfl) hHeld ?_ ?_; rotate_left; (intro w' hS; obtain ⟨s0, s1⟩ := hS; obtain ⟨q0, q1, q2⟩ := cs3 (Aside0.mk s1); go_simp; with_reducible rfl)
          refine pu (i := 7) (N := some 59) (v := ?_) (bits 8 255) rfl rfl (any_of HT_.out (by kernel_rfl)) (fun _ _ _ h => h) (by kernel_rfl) ?_ ?_; rotate_left; (intro w'; go_simp; with_reducible rfl)
          refine norm_ (a' := ?_) ?_ ?_
          rotate_left
          ·simp only [Act.put, List.setIfInBounds_toArray, List.set_cons_zero, List.set_cons_succ, i64_w, i32_w]
           rfl
          refine done_ (done_of HT_.out (by kernel_rfl)) ?_
          clear y0 y1 y2
          obtain ⟨ad2, hA, y0, y1, y2⟩ := at_T100 (cb HR0 B) (j : Int) (by omega) (by omega)
          cases hA
          rw [Int.toNat_natCast, hy] at y0 y1 y2)
         all_goals go_wp2_with (first
          | ((with_reducible refine gate_dst (N := 65) rfl ?_); refine lt k100 100 ?hg (N := 65) ?hd ([⟨y.f0, y.f1, y.f2⟩] : List S100) [.int .i64 (y.f0), .int .i64 (y.f1), .int .i64 (y.f2)] ?hr (Reps.c3 (k100_mkM _ _ _ ⟨y.f0, y.f1, y.f2⟩) (Reps.none _ _)) (by simp) B ?_; (case hd => rfl); (case hg => rfl); (case hr => first | (go_simp; done) | (go_simp; rfl)); intro z65 hz65 AL65 kL65 w805 hb B RL65 QL65; have NB3_L65 := nb QL65 F3; replace F3 := bn F3 hb; replace RL51 := rn RL51 hb; clear hb QL65)
          | ((with_reducible refine gate_builtin (b := .append) (xs := #[.tmp 60, .tmp 65]) rfl ?_); at_builtin; refine apx k100 100 rfl (.tmp 60) (.tmp 65) 32 (.agg #[.int .i64 (0), .int .i64 (0), .int .i64 (0)]) 24 rfl Try.underlying32 info100 rfl (by decide) (by omega) rfl rfl RL51 (rc RL65) (fun x cs h => by rw [k100_open h]; exact k100_mkM _ _ _ x) (by rw [← hz65, ← hz51]; simp only [List.length_append, List.length_cons, List.length_nil]; omega) B ?_; intro z66 hz66 AL66 kL66 w806 hg B RL66 hat; have NB3_L66 := nba hat NB3_L51 F3; replace F3 := bgn F3 hg NB3_L51; clear hg hat; subst hz65))
         go_roundg d
         case measure => omega
         case rel => exact ⟨j + 1, z66, true, congrArg (Value.int .i64) (Int.natCast_succ _).symm, rfl, by omega, by omega, (by rw [← hz66, ← hz51]; simp only [List.length_append, List.length_cons, List.length_nil]; omega), B, F3, RL66, NB3_L66, ⟨by rw [← hz66, ← hz51]; have HS := HT.out; simp only [List.append_assoc, List.cons_append, List.nil_append, List.append_nil] at HS ⊢; exact HS⟩⟩
       ·have dg : decide (y.f0 ≥ a) = false := decide_eq_false hge
        rw [if_neg (fun h => hge h.2)] at HS
        have he : ¬ y.f0 = a := fun h => hge (by omega)
        have dn : (y.f0 != a) = true := by simp [he]
        have dn2 : decide (y.f0 = a) = false := decide_eq_false he
        rw [if_neg he] at HS
        have HT := Aside0.mk HS
        clear HS
        try go_wp2
        all_goals (
         refine rg (n := 12) (S := fun W => Kd.C k100 W (some ad) l.length l ∧ W.heap[g3]? = some (.cells #[.int .i64 (a), .int .i64 (b), .int .i64 (c)] 100 (0, 0))) (ds := []) #[false, false, false, false, false, false, false, false, false, false, false, false] (by kernel_rfl) rfl rfl ⟨(cb HR0 B), F3.out⟩ id B (fun w901 hb B hHeld => ?_)
         refine with_tabW spec_SessionPut.tab10 spec_SessionPut.bits10 (fun HT_ HW_ => ?_)
         replace F3 := bn F3 hb
         replace Rp6 := rn Rp6 hb
         clear hb
         refine pu (i := 0) (N := some 36) (v := ?_) (bits 12 1) rfl rfl (any_of HT_.out (by kernel_rfl)) (fun _ _ _ h => h) (by kernel_rfl) ?_ ?_; rotate_left; (intro w'; go_simp; with_reducible rfl)
         refine pu (i := 1) (N := some 37) (v := ?_) (bits 12 3) rfl rfl (any_of HT_.out (by kernel_rfl)) (fun _ _ _ h => h) (by kernel_rfl) ?_ ?_; rotate_left; (intro w'; go_simp; with_reducible rfl)
         refine pu (i := 2) (N := some 38) (v := ?_) (bits 12 7) rfl rfl (any_of HT_.out (by kernel_rfl)) (fun _ _ _ h => h) (by kernel_rfl) ?_ ?_; rotate_left; (intro w'; go_simp; with_reducible rfl)
         refine pu (i := 3) (N := some 39) (v := ?_) (bits 12 15) rfl rfl (any_of HT_.out (by kernel_rfl)) (fun _ _ _ h => h) (by kernel_rfl) ?_ ?_; rotate_left; (intro w'; go_simp; with_reducible rfl)
         refine pu (i := 4) (N := some 40) (v := ?_) (bits 12 31) rfl rfl (any_of HT_.out (by kernel_rfl)) (fun _ _ _ h => h) (by kernel_rfl) ?_ ?_; rotate_left; (intro w'; go_simp; with_reducible rfl)
         refine pu (i := 5) (N := some 41) (v := ?_) (bits 12 63) rfl rfl (any_of HT_.out (by kernel_rfl)) (fun _ _ _ h => h) (by kernel_rfl) ?_ ?_; rotate_left; (intro w'; go_simp; with_reducible rfl)
         refine pu (i := 6) (N := some 42) (v := ?_) (bits 12 127) rfl rfl (any_of HT_.out (by kernel_rfl)) (fun _ _ _ h => h) (by kernel_rfl) ?_ ?_; rotate_left; (intro w'; go_simp; with_reducible rfl)
         refine ta (i := 7) (N := some 43) (v := ?_) (bits 12 255) rfl rfl (take_ofW HT_.out HW_.out (by kernel_rfl)) (fun _ _ _ h => h) (by kernel_rfl) hHeld ?_ ?_; rotate_left; (intro w' hS; obtain ⟨s0, s1⟩ := hS; obtain ⟨_, hA, q0, q1, q2⟩ := at_T100 s0 (j : Int) (by omega) (by omega); cases hA; rw [Int.toNat_natCast] at q0 q1 q2; rw [hy] at q0 q1 q2; go_simp; with_reducible rfl)
         refine pu (i := 8) (N := some 44) (v := ?_) (bits 12 511) rfl rfl (any_of HT_.out (by kernel_rfl)) (fun _ _ _ h => h) (by kernel_rfl) ?_ ?_; rotate_left; (intro w'; go_simp; with_reducible rfl)
         refine ta (i := 9) (N := some 45) (v := ?_) (bits 12 1023) rfl rfl (take_ofW HT_.out HW_.out (by kernel_rfl)) (fun _ _ _ h => h) (by kernel_rfl) hHeld ?_ ?_; rotate_left; (intro w' hS; obtain ⟨s0, s1⟩ := hS; obtain ⟨q0, q1, q2⟩ := cs3 (Aside0.mk s1); go_simp; with_reducible rfl)
         refine pu (i := 10) (N := some 46) (v := ?_) (bits 12 2047) rfl rfl (any_of HT_.out (by kernel_rfl)) (fun _ _ _ h => h) (by kernel_rfl) ?_ ?_; rotate_left; (intro w'; go_simp; with_reducible rfl)
         refine pu (i := 11) (N := some 47) (v := ?_) (bits 12 4095) rfl rfl (any_of HT_.out (by kernel_rfl)) (fun _ _ _ h => h) (by kernel_rfl) ?_ ?_; rotate_left; (intro w'; go_simp; with_reducible rfl)
         refine norm_ (a' := ?_) ?_ ?_
         rotate_left
         ·simp only [Act.put, List.setIfInBounds_toArray, List.set_cons_zero, List.set_cons_succ, i64_w, i32_w]
          rfl
         refine done_ (done_of HT_.out (by kernel_rfl)) ?_
         clear c3_0 c3_1 c3_2
         obtain ⟨c3_0, c3_1, c3_2⟩ := cs3 F3)
        all_goals try go_wp2
        all_goals (
         refine rg (n := 8) (S := fun W => Kd.C k100 W (some ad) l.length l ∧ W.heap[g3]? = some (.cells #[.int .i64 (a), .int .i64 (b), .int .i64 (c)] 100 (0, 0))) (ds := []) #[false, false, false, false, false, false, false, false] (by kernel_rfl) rfl rfl ⟨(cb HR0 B), F3.out⟩ id B (fun w902 hb B hHeld => ?_)
         refine with_tabW spec_SessionPut.tab13 spec_SessionPut.bits13 (fun HT_ HW_ => ?_)
         replace F3 := bn F3 hb
         replace Rp6 := rn Rp6 hb
         clear hb
         refine pu (i := 0) (N := some 52) (v := ?_) (bits 8 1) rfl rfl (any_of HT_.out (by kernel_rfl)) (fun _ _ _ h => h) (by kernel_rfl) ?_ ?_; rotate_left; (intro w'; go_simp; with_reducible rfl)
         refine pu (i := 1) (N := some 53) (v := ?_) (bits 8 3) rfl rfl (any_of HT_.out (by kernel_rfl)) (fun _ _ _ h => h) (by kernel_rfl) ?_ ?_; rotate_left; (intro w'; go_simp; with_reducible rfl)
         refine pu (i := 2) (N := some 54) (v := ?_) (bits 8 7) rfl rfl (any_of HT_.out (by kernel_rfl)) (fun _ _ _ h => h) (by kernel_rfl) ?_ ?_; rotate_left; (intro w'; go_simp; with_reducible rfl)
         refine pu (i := 3) (N := some 55) (v := ?_) (bits 8 15) rfl rfl (any_of HT_.out (by kernel_rfl)) (fun _ _ _ h => h) (by kernel_rfl) ?_ ?_; rotate_left; (intro w'; go_simp; with_reducible rfl)
         refine ta (i := 4) (N := some 56) (v := ?_) (bits 8 31) rfl rfl (take_ofW HT_.out HW_.out (by kernel_rfl)) (fun _ _ _ h => h) (by kernel_rfl) hHeld ?_ ?_; rotate_left; (intro w' hS; obtain ⟨s0, s1⟩ := hS; obtain ⟨_, hA, q0, q1, q2⟩ := at_T100 s0 (j : Int) (by omega) (by omega); cases hA; rw [Int.toNat_natCast] at q0 q1 q2; rw [hy] at q0 q1 q2; go_simp; with_reducible rfl)
         refine pu (i := 5) (N := some 57) (v := ?_) (bits 8 63) rfl rfl (any_of HT_.out (by kernel_rfl)) (fun _ _ _ h => h) (by kernel_rfl) ?_ ?_; rotate_left; (intro w'; go_simp; with_reducible rfl)
         refine ta (i := 6) (N := some 58) (v := ?_) (bits 8 127) rfl rfl (take_ofW HT_.out HW_.out (by kernel_rfl)) (fun _ _ _ h => h) (by kernel_rfl) hHeld ?_ ?_; rotate_left; (intro w' hS; obtain ⟨s0, s1⟩ := hS; obtain ⟨q0, q1, q2⟩ := cs3 (Aside0.mk s1); go_simp; with_reducible rfl)
         refine pu (i := 7) (N := some 59) (v := ?_) (bits 8 255) rfl rfl (any_of HT_.out (by kernel_rfl)) (fun _ _ _ h => h) (by kernel_rfl) ?_ ?_; rotate_left; (intro w'; go_simp; with_reducible rfl)
         refine norm_ (a' := ?_) ?_ ?_
         rotate_left
         ·simp only [Act.put, List.setIfInBounds_toArray, List.set_cons_zero, List.set_cons_succ, i64_w, i32_w]
          rfl
         refine done_ (done_of HT_.out (by kernel_rfl)) ?_
         clear y0 y1 y2
         obtain ⟨ad2, hA, y0, y1, y2⟩ := at_T100 (cb HR0 B) (j : Int) (by omega) (by omega)
         cases hA
         rw [Int.toNat_natCast, hy] at y0 y1 y2)
        all_goals go_wp2_with (first
         | ((with_reducible refine gate_dst (N := 65) rfl ?_); refine lt k100 100 ?hg (N := 65) ?hd ([⟨y.f0, y.f1, y.f2⟩] : List S100) [.int .i64 (y.f0), .int .i64 (y.f1), .int .i64 (y.f2)] ?hr (Reps.c3 (k100_mkM _ _ _ ⟨y.f0, y.f1, y.f2⟩) (Reps.none _ _)) (by simp) B ?_; (case hd => rfl); (case hg => rfl); (case hr => first | (go_simp; done) | (go_simp; rfl)); intro z65 hz65 AL65 kL65 w903 hb B RL65 QL65; have NB3_L65 := nb QL65 F3; replace F3 := bn F3 hb; replace Rp6 := rn Rp6 hb; clear hb QL65)
         | ((with_reducible refine gate_builtin (b := .append) (xs := #[.tmp 60, .tmp 65]) rfl ?_); at_builtin; refine apx k100 100 rfl (.tmp 60) (.tmp 65) 32 (.agg #[.int .i64 (0), .int .i64 (0), .int .i64 (0)]) 24 rfl Try.underlying32 info100 rfl (by decide) (by omega) rfl rfl Rp6 (rc RL65) (fun x cs h => by rw [k100_open h]; exact k100_mkM _ _ _ x) (by rw [← hz65]; simp only [List.length_append, List.length_cons, List.length_nil]; omega) B ?_; intro z66 hz66 AL66 kL66 w904 hg B RL66 hat; have NB3_L66 := nba hat NB3_p6 F3; replace F3 := bgn F3 hg NB3_p6; clear hg hat; subst hz65))
        go_roundg d
        case measure => omega
        case rel => exact ⟨j + 1, z66, false, congrArg (Value.int .i64) (Int.natCast_succ _).symm, rfl, by omega, by omega, (by rw [← hz66]; simp only [List.length_append, List.length_cons, List.length_nil]; omega), B, F3, RL66, NB3_L66, ⟨by rw [← hz66]; have HS := HT.out; simp only [List.append_assoc, List.cons_append, List.nil_append, List.append_nil] at HS ⊢; exact HS⟩⟩
     ·have cj : decide ((j : Int) < (l.length : Int)) = false := decide_eq_false (by omega)
      have hr := H.out
      rw [List.drop_of_length_le (by omega)] at hr
      cases pl with
      | true =>
       rw [show putL ([] : List S100) ⟨a, b, c⟩ true = [] from rfl, List.append_nil] at hr
       subst hr
       go_wp2
       go_ret2
       exact ⟨_, rfl, Rp6.out, B.out⟩
      | false =>
       rw [show putL ([] : List S100) ⟨a, b, c⟩ false = [⟨a, b, c⟩] from rfl] at hr
       subst hr
       go_wp2_with (first
        | ((with_reducible refine gate_dst (N := 71) rfl ?_); refine lt k100 100 ?hg (N := 71) ?hd ([⟨a, b, c⟩] : List S100) [.int .i64 (a), .int .i64 (b), .int .i64 (c)] ?hr (Reps.c3 (k100_mkM _ _ _ ⟨a, b, c⟩) (Reps.none _ _)) (by simp) B ?_; (case hd => rfl); (case hg => rfl); (case hr => first | (go_simp; done) | (go_simp; rfl)); intro z71 hz71 AL71 kL71 w1201 hb B RL71 QL71; have NB3_L71 := nb QL71 F3; replace F3 := bn F3 hb; replace Rp6 := rn Rp6 hb; clear hb QL71)
        | ((with_reducible refine gate_builtin (b := .append) (xs := #[.tmp 69, .tmp 71]) rfl ?_); at_builtin; refine apx k100 100 rfl (.tmp 69) (.tmp 71) 32 (.agg #[.int .i64 (0), .int .i64 (0), .int .i64 (0)]) 24 rfl Try.underlying32 info100 rfl (by decide) (by omega) rfl rfl Rp6 (rc RL71) (fun x cs h => by rw [k100_open h]; exact k100_mkM _ _ _ x) (by rw [← hz71]; simp only [List.length_cons, List.length_nil]; omega) B ?_; intro z72 hz72 AL72 kL72 w1202 hg B RL72 hat; have NB3_L72 := nba hat NB3_p6 F3; replace F3 := bgn F3 hg NB3_p6; clear hg hat; subst hz71))
       go_ret2
       exact ⟨_, rfl, by rw [hz72]; exact RL72.out, B.out⟩
  | false =>
   have hone : sesB [(⟨a, b, c⟩ : S100)] = false := by rw [sesOne]; exact ho
   have hM : putB l ⟨a, b, c⟩ = ([], false) := put_bad (.inr hone)
   go_enter Try.func110, Try.ntmps110
   go_wp2_with (first
    | ((with_reducible refine gate_dst (N := 3) rfl ?_); refine bx ?hg (N := 3) ?hd (cs := #[.int .i64 (a), .int .i64 (b), .int .i64 (c)]) (t := 100) ?hr B ?_; (case hd => rfl); (case hg => rfl); (case hr => first | (go_simp; done) | (go_simp; rfl)); intro g3 w101 hb B F3 L3 E3; obtain ⟨c3_0, c3_1, c3_2⟩ := cs3 F3; clear hb E3)
    | ((with_reducible refine gate_dst (N := 9) rfl ?_); refine lt k100 100 ?hg (N := 9) ?hd ([] : List S100) [] ?hr (Reps.none _ _) (by simp) B ?_; (case hd => rfl); (case hg => rfl); (case hr => first | (go_simp; done) | (go_simp; rfl)); intro z9 hz9 AL9 kL9 w102 hb B RL9 QL9; have NB3_L9 := nb QL9 F3; replace F3 := bn F3 hb; clear c3_0 c3_1 c3_2; obtain ⟨c3_0, c3_1, c3_2⟩ := cs3 F3; clear hb QL9; subst hz9)
    | (go_at_call 49; with_reducible refine cl (spec_SessionsValid.M _ _ l _ (cb HR0 B)) B fun w103 hb B => ?_; replace F3 := bn F3 hb; replace RL9 := rn RL9 hb; clear c3_0 c3_1 c3_2; obtain ⟨c3_0, c3_1, c3_2⟩ := cs3 F3; clear hb)
    | ((with_reducible refine gate_dst (N := 15) rfl ?_); refine ungate ?hw ?_; (case hw => first | (go_simp; done) | rfl); refine lt k100 100 ?hg (N := 15) ?hd ([⟨a, b, c⟩] : List S100) [.int .i64 (a), .int .i64 (b), .int .i64 (c)] ?hr (Reps.c3 (k100_mkM _ _ _ ⟨a, b, c⟩) (Reps.none _ _)) (by simp) B ?_; (case hd => rfl); (case hg => rfl); (case hr => first | (go_simp; done) | (go_simp; rfl)); intro z15 hz15 AL15 kL15 w104 hb B RL15 QL15; have NB3_L15 := nb QL15 F3; replace F3 := bn F3 hb; replace RL9 := rn RL9 hb; clear hb QL15)
    | (go_at_call 49; with_reducible refine cl (clv (spec_SessionsValid.M _ _ z15 _ (rc RL15)) (congrArg Value.bool (show sesB z15 = false by rw [← hz15]; exact hone))) B fun w105 hb B => ?_; replace F3 := bn F3 hb; replace RL9 := rn RL9 hb; clear hb; clear hz15))
   go_ret2; exact ⟨_, by rw [hM]; rfl, by rw [hM]; exact RL9.out, B.out⟩
 ·replace hv := Bool.eq_false_iff.mpr hv
  have hM : putB l ⟨a, b, c⟩ = ([], false) := put_bad (.inl hv)
  have hone := hv
  go_enter Try.func110, Try.ntmps110
  go_wp2_with (first
   | ((with_reducible refine gate_dst (N := 3) rfl ?_); refine bx ?hg (N := 3) ?hd (cs := #[.int .i64 (a), .int .i64 (b), .int .i64 (c)]) (t := 100) ?hr B ?_; (case hd => rfl); (case hg => rfl); (case hr => first | (go_simp; done) | (go_simp; rfl)); intro g3 w1 hb B F3 L3 E3; obtain ⟨c3_0, c3_1, c3_2⟩ := cs3 F3; clear hb E3)
   | ((with_reducible refine gate_dst (N := 9) rfl ?_); refine lt k100 100 ?hg (N := 9) ?hd ([] : List S100) [] ?hr (Reps.none _ _) (by simp) B ?_; (case hd => rfl); (case hg => rfl); (case hr => first | (go_simp; done) | (go_simp; rfl)); intro z9 hz9 AL9 kL9 w2 hb B RL9 QL9; have NB3_L9 := nb QL9 F3; replace F3 := bn F3 hb; clear c3_0 c3_1 c3_2; obtain ⟨c3_0, c3_1, c3_2⟩ := cs3 F3; clear hb QL9; subst hz9)
   | (go_at_call 49; with_reducible refine cl (spec_SessionsValid.M _ _ l _ (cb HR0 B)) B fun w3 hb B => ?_; replace F3 := bn F3 hb; replace RL9 := rn RL9 hb; clear c3_0 c3_1 c3_2; obtain ⟨c3_0, c3_1, c3_2⟩ := cs3 F3; clear hb)
   | ((with_reducible refine gate_dst (N := 15) rfl ?_); refine ungate ?hw ?_; (case hw => first | (go_simp; done) | rfl); refine lt k100 100 ?hg (N := 15) ?hd ([⟨a, b, c⟩] : List S100) [.int .i64 (a), .int .i64 (b), .int .i64 (c)] ?hr (Reps.c3 (k100_mkM _ _ _ ⟨a, b, c⟩) (Reps.none _ _)) (by simp) B ?_; (case hd => rfl); (case hg => rfl); (case hr => first | (go_simp; done) | (go_simp; rfl)); intro z15 hz15 AL15 kL15 w4 hb B RL15 QL15; have NB3_L15 := nb QL15 F3; replace F3 := bn F3 hb; replace RL9 := rn RL9 hb; clear hb QL15)
   | (go_at_call 49; with_reducible refine cl (clv (spec_SessionsValid.M _ _ z15 _ (rc RL15)) (congrArg Value.bool (show sesB z15 = false by rw [← hz15]; exact hone))) B fun w5 hb B => ?_; replace F3 := bn F3 hb; replace RL9 := rn RL9 hb; clear hb; clear hz15))
  go_ret2; exact ⟨_, by rw [hM]; rfl, by rw [hM]; exact RL9.out, B.out⟩

theorem spec_SessionsJoin.M (A0 : Option Addr) (c0 : Nat) (l : List S100) (A1 : Option Addr) (c1 : Nat) (m : List S100) (w : World) (hr0 : Kd.C k100 w A0 l.length l) (hc0 : l.length ≤ c0) (hr1 : Kd.C k100 w A1 m.length m) (hc1 : m.length ≤ c1) : Calls Try.prog 86 #[.slice A0 l.length c0, .slice A1 m.length c1] w fun e w' => ∃ v0, e = .returned v0 ∧ Kd.R k100 100 w' w.heap.size (fun _ => True) v0 (joinB l m) ∧ Below w.heap.size w w' := by
 have B := Aside0.mk (Below.refl w.heap.size w)
 have hu := Try.underlying100
 have HR0 := Aside0.mk hr0
 have HC0 := Aside0.mk hc0
 have L63 := Aside0.mk hr0.2.1
 clear hr0 hc0
 have HR1 := Aside0.mk hr1
 have M63 := Aside0.mk hr1.2.1
 clear hr1 hc1
 by_cases hv : sesB l = true ∧ sesB m = true
 ·obtain ⟨hv1, hv2⟩ := hv
  have h4 := sesB_len hv1
  have h5 := sesB_len hv2
  have hok := sesG_ok m none hv2
  rw [show joinB l m = joinL l m from if_pos ⟨hv1, hv2⟩]
  obtain ⟨r, hr⟩ : ∃ r, joinL l m = r := ⟨_, rfl⟩
  rw [hr]
  have H := Aside0.mk (show sesB l = true ∧ joinL l (m.drop 0) = r from ⟨hv1, hr⟩)
  have OK := Aside0.mk hok
  clear hr hok
  go_enter Try.func86, Try.ntmps86
  go_wp2_with (first
   | (go_at_call 49; with_reducible refine cl (spec_SessionsValid.M _ _ l _ (cb HR0 B)) B fun w1 hb B => ?_; clear hb)
   | (go_at_call 49; with_reducible refine cl (spec_SessionsValid.M _ _ m _ (cb HR1 B)) B fun w2 hb B => ?_; clear hb)
   | ((with_reducible refine gate_dst (N := 18) rfl ?_); refine lt k100 100 ?hg (N := 18) ?hd ([] : List S100) [] ?hr (Reps.none _ _) (by simp) B ?_; (case hd => rfl); (case hg => rfl); (case hr => first | (go_simp; done) | (go_simp; rfl)); intro z18 hz18 AL18 kL18 w3 hb B RL18 QL18; clear hb QL18; subst hz18)
   | ((with_reducible refine gate_builtin (b := .append) (xs := #[.tmp 18, .tmp 19]) rfl ?_); at_builtin; refine apx k100 100 rfl (.tmp 18) (.tmp 19) 32 (.agg #[.int .i64 (0), .int .i64 (0), .int .i64 (0)]) 24 rfl Try.underlying32 info100 rfl (by decide) (by omega) rfl rfl RL18 (cb HR0 B) (fun x cs h => by rw [k100_open h]; exact k100_mkM _ _ _ x) (by first | omega | (simp only [List.length_nil]; omega)) B ?_; intro z20 hz20 AL20 kL20 w4 hg B RL20 hat; clear hg hat; have hZ : l = z20 := (by rw [← hz20, List.nil_append]); clear hz20; subst hZ))
  clear hv1 hv2
  go_loopg [5, 6] (m.length + 1) (fun kx v5 v6 wr => ∃ (j : Nat) (p : List S100), v6 = .int .i64 (j : Int) ∧ j ≤ m.length ∧ m.length < j + kx ∧ Aside0 (Below w.heap.size w wr) ∧ Aside0 (Ow k100 100 wr w.heap.size v5 p) ∧ Aside0 (sesB p = true ∧ joinL p (m.drop j) = r))
  case atStart => exact ⟨0, l, rfl, by omega, by omega, B, RL20, H⟩
  case round =>
   clear H B RL20
   obtain ⟨j, p, rfl, hj, hk, B, Rp6, H⟩ := hrel
   obtain ⟨A6, k6, rfl⟩ := Kd.R_slice Rp6.out
   by_cases hlt : j < m.length
   ·obtain ⟨hpv, HS⟩ := H.out
    have hp4 := sesB_len hpv
    rw [ses_drop hlt] at HS
    have hyo : okS (rd_T100 m (j : Int)) = true := OK.out _ (by rw [ses_nat hlt]; exact List.getElem_mem hlt)
    clear H
    obtain ⟨d, rfl⟩ : ∃ d, gk = d + 1 := ⟨gk - 1, by omega⟩
    have cj : decide ((j : Int) < (m.length : Int)) = true := decide_eq_true (by omega)
    obtain ⟨ad, hA, y0, y1, y2⟩ := at_T100 (cb HR1 B) (j : Int) (by omega) (by omega)
    cases hA
    rw [Int.toNat_natCast] at y0 y1 y2
    have j1 := eq_true (show (j : Int) < (m.length : Int) by omega)
    have j2 := eq_true hlt
    generalize hy : rd_T100 m (j : Int) = y at *
    obtain ⟨hnv, hne⟩ := putB_valid hpv hyo
    have HT := Aside0.mk (show sesB (putB p y).1 = true ∧ joinL (putB p y).1 (m.drop (j + 1)) = r from ⟨hnv, HS⟩)
    clear HS hpv hnv hyo
    go_wp2_with (first
     | (go_at_call 110; with_reducible refine cr (spec_SessionPut.M _ _ p y.f0 y.f1 y.f2 _ (rc Rp6) (rl Rp6)) B fun AU301 kU301 w301 hb B RU301 QU301 => ?_; replace Rp6 := rn Rp6 hb; clear QU301; clear hb))
    go_roundg d
    case measure => omega
    case rel => exact ⟨j + 1, _, congrArg (Value.int .i64) (Int.natCast_succ _).symm, by omega, by omega, B, RU301, HT⟩
   ·have cj : decide ((j : Int) < (m.length : Int)) = false := decide_eq_false (by omega)
    have hr := H.out.2
    rw [List.drop_of_length_le (by omega)] at hr
    have hr2 : p = r := hr
    subst hr2
    clear hr H
    go_wp2
    go_ret
    exact ⟨_, rfl, Rp6.out, B.out⟩
 ·rw [show joinB l m = [] from if_neg hv]
  have hvn : (!sesB l || !sesB m) = true := by cases h1 : sesB l <;> cases h2 : sesB m <;> simp_all
  cases h1 : sesB l with
  | false =>
   go_enter Try.func86, Try.ntmps86
   go_wp2_with (first
    | (go_at_call 49; with_reducible refine cl (spec_SessionsValid.M _ _ l _ (cb HR0 B)) B fun w1 hb B => ?_; clear hb)
    | (go_at_call 49; with_reducible refine cl (spec_SessionsValid.M _ _ m _ (cb HR1 B)) B fun w2 hb B => ?_; clear hb)
    | ((with_reducible refine gate_dst (N := 17) rfl ?_); refine lt k100 100 ?hg (N := 17) ?hd ([] : List S100) [] ?hr (Reps.none _ _) (by simp) B ?_; (case hd => rfl); (case hg => rfl); (case hr => first | (go_simp; done) | (go_simp; rfl)); intro z17 hz17 AL17 kL17 w3 hb B RL17 QL17; clear hb QL17))
   go_ret
   subst hz17
   exact ⟨_, rfl, RL17.out, B.out⟩
  | true =>
   have h2 : sesB m = false := by cases h2 : sesB m <;> simp_all
   clear hvn hv
   go_enter Try.func86, Try.ntmps86
   go_wp2_with (first
    | (go_at_call 49; with_reducible refine cl (spec_SessionsValid.M _ _ l _ (cb HR0 B)) B fun w1 hb B => ?_; clear hb)
    | (go_at_call 49; with_reducible refine cl (spec_SessionsValid.M _ _ m _ (cb HR1 B)) B fun w2 hb B => ?_; clear hb)
    | ((with_reducible refine gate_dst (N := 17) rfl ?_); refine lt k100 100 ?hg (N := 17) ?hd ([] : List S100) [] ?hr (Reps.none _ _) (by simp) B ?_; (case hd => rfl); (case hg => rfl); (case hr => first | (go_simp; done) | (go_simp; rfl)); intro z17 hz17 AL17 kL17 w3 hb B RL17 QL17; clear hb QL17))
   go_ret
   subst hz17
   exact ⟨_, rfl, RL17.out, B.out⟩

def spec_IntervalCut.T5 : Bool × List (List Nat × List Nat) := (true, [([], []), ([], []), ([0, 0], [0]), ([1, 2, 0, 1, 2], [1]), ([3, 0, 1, 2, 3], [])])
def spec_IntervalCut.B5 : List Nat := [0, 0, 1, 7, 15]
theorem spec_IntervalCut.tab5 : rtab .any (opsOf Try.f51 5) = spec_IntervalCut.T5 := by kernel_rfl
theorem spec_IntervalCut.bits5 : waitsOk spec_IntervalCut.T5.2 spec_IntervalCut.B5 = true := by kernel_rfl
theorem spec_IntervalCut.M (a b c : ByteArray) (w : World) : Calls Try.prog 51 #[.agg #[.string a, .string b], .string c] w fun e w' => e = .returned (.tuple #[.agg #[.string (cutV a b c).1, .string (cutV a b c).2.1], .agg #[.string (cutV a b c).2.2.1, .string (cutV a b c).2.2.2.1], .bool (cutV a b c).2.2.2.2]) ∧ Below w.heap.size w w' := by
 have B := Aside0.mk (Below.refl w.heap.size w)
 have hu := Try.underlying30
 go_enter Try.func51, Try.ntmps51
 go_wp2_with (first
  | ((with_reducible refine gate_dst (N := 2) rfl ?_); refine bx ?hg (N := 2) ?hd (cs := #[.string a, .string b]) (t := 30) ?hr B ?_; (case hd => rfl); (case hg => rfl); (case hr => first | (go_simp; done) | (go_simp; rfl)); intro g2 w1 hb B F2 L2 E2; obtain ⟨c2_0, c2_1⟩ := cs2 F2; clear hb E2)
  | ((with_reducible refine gate_dst (N := 4) rfl ?_); refine bx ?hg (N := 4) ?hd (cs := #[.string (⟨#[]⟩ : ByteArray), .string (⟨#[]⟩ : ByteArray)]) (t := 30) ?hr B ?_; (case hd => rfl); (case hg => rfl); (case hr => first | (go_simp; done) | (go_simp; rfl)); intro g4 w2 hb B F4 L4 E4; have N2_4 := ne1 E4 F2; replace F2 := bn F2 hb; clear c2_0 c2_1; obtain ⟨c2_0, c2_1⟩ := cs2 F2; clear hb E4)
  | ((with_reducible refine gate_dst (N := 5) rfl ?_); refine bx ?hg (N := 5) ?hd (cs := #[.string (⟨#[]⟩ : ByteArray), .string (⟨#[]⟩ : ByteArray)]) (t := 30) ?hr B ?_; (case hd => rfl); (case hg => rfl); (case hr => first | (go_simp; done) | (go_simp; rfl)); intro g5 w3 hb B F5 L5 E5; have N2_5 := ne1 E5 F2; have N4_5 := ne1 E5 F4; replace F2 := bn F2 hb; replace F4 := bn F4 hb; clear c2_0 c2_1; obtain ⟨c2_0, c2_1⟩ := cs2 F2; clear hb E5)
  | ((with_reducible refine gate_dst (N := 7) rfl ?_); refine bx ?hg (N := 7) ?hd (cs := #[.string (⟨#[]⟩ : ByteArray), .string (⟨#[]⟩ : ByteArray)]) (t := 30) ?hr B ?_; (case hd => rfl); (case hg => rfl); (case hr => first | (go_simp; done) | (go_simp; rfl)); intro g7 w4 hb B F7 L7 E7; have N2_7 := ne1 E7 F2; have N4_7 := ne1 E7 F4; have N5_7 := ne1 E7 F5; replace F2 := bn F2 hb; replace F4 := bn F4 hb; replace F5 := bn F5 hb; clear c2_0 c2_1; obtain ⟨c2_0, c2_1⟩ := cs2 F2; obtain ⟨c7_0, c7_1⟩ := cs2 F7; clear hb E7)
  | ((with_reducible refine gate_store (t := 30) (p := 7) rfl ?_); obtain ⟨y0, y1⟩ := cs2 F7; have z0 := fz F7 0; have z1 := fz F7 1; refine sx (t := 30) (t' := 30) (p := 7) (v := ?vo5) ?hg ?ho ?hn 0 [.string a, .string c] [.string a, .string c] ?hr B F7 L7 rfl (Nat.le_of_ble_eq_true rfl) ?_; (case ho => rfl); (case hg => rfl); (case hn => rfl); (case hr => first | (go_simp; done) | (go_simp; rfl)); intro w5 hk B G; replace F2 := bk F2 hk N2_7.out; replace F4 := bk F4 hk N4_7.out; replace F5 := bk F5 hk N5_7.out; replace F7 := G; clear c2_0 c2_1; obtain ⟨c2_0, c2_1⟩ := cs2 F2; clear c7_0 c7_1; obtain ⟨c7_0, c7_1⟩ := cs2 F7; clear hk y0 z0 y1 z1)
  | ((with_reducible refine gate_dst (N := 8) rfl ?_); refine bx ?hg (N := 8) ?hd (cs := #[.string (⟨#[]⟩ : ByteArray), .string (⟨#[]⟩ : ByteArray)]) (t := 30) ?hr B ?_; (case hd => rfl); (case hg => rfl); (case hr => first | (go_simp; done) | (go_simp; rfl)); intro g8 w6 hb B F8 L8 E8; have N2_8 := ne1 E8 F2; have N4_8 := ne1 E8 F4; have N5_8 := ne1 E8 F5; have N7_8 := ne1 E8 F7; replace F2 := bn F2 hb; replace F4 := bn F4 hb; replace F5 := bn F5 hb; replace F7 := bn F7 hb; clear c2_0 c2_1; obtain ⟨c2_0, c2_1⟩ := cs2 F2; clear c7_0 c7_1; obtain ⟨c7_0, c7_1⟩ := cs2 F7; obtain ⟨c8_0, c8_1⟩ := cs2 F8; clear hb E8)
  | ((with_reducible refine gate_store (t := 30) (p := 8) rfl ?_); obtain ⟨y0, y1⟩ := cs2 F8; have z0 := fz F8 0; have z1 := fz F8 1; refine sx (t := 30) (t' := 30) (p := 8) (v := ?vo7) ?hg ?ho ?hn 0 [.string c, .string b] [.string c, .string b] ?hr B F8 L8 rfl (Nat.le_of_ble_eq_true rfl) ?_; (case ho => rfl); (case hg => rfl); (case hn => rfl); (case hr => first | (go_simp; done) | (go_simp; rfl)); intro w7 hk B G; replace F2 := bk F2 hk N2_8.out; replace F4 := bk F4 hk N4_8.out; replace F5 := bk F5 hk N5_8.out; replace F7 := bk F7 hk N7_8.out; replace F8 := G; clear c2_0 c2_1; obtain ⟨c2_0, c2_1⟩ := cs2 F2; clear c7_0 c7_1; obtain ⟨c7_0, c7_1⟩ := cs2 F7; clear c8_0 c8_1; obtain ⟨c8_0, c8_1⟩ := cs2 F8; clear hk y0 z0 y1 z1)
  | (go_at_call 47; with_reducible refine cl (spec_IntervalValid.M a b _) B fun w8 hb B => ?_; replace F4 := bn F4 hb; replace F5 := bn F5 hb; replace F7 := bn F7 hb; replace F8 := bn F8 hb; clear c7_0 c7_1; obtain ⟨c7_0, c7_1⟩ := cs2 F7; clear c8_0 c8_1; obtain ⟨c8_0, c8_1⟩ := cs2 F8; clear hb)
  | (go_at_call 89; with_reducible refine cl (spec_KeyValid.M c _) B fun w9 hb B => ?_; replace F4 := bn F4 hb; replace F5 := bn F5 hb; replace F7 := bn F7 hb; replace F8 := bn F8 hb; clear c7_0 c7_1; obtain ⟨c7_0, c7_1⟩ := cs2 F7; clear c8_0 c8_1; obtain ⟨c8_0, c8_1⟩ := cs2 F8; clear hb)
  | (go_at_call 47; with_reducible refine cl (spec_IntervalValid.M a c _) B fun w10 hb B => ?_; replace F4 := bn F4 hb; replace F5 := bn F5 hb; replace F7 := bn F7 hb; replace F8 := bn F8 hb; clear c7_0 c7_1; obtain ⟨c7_0, c7_1⟩ := cs2 F7; clear c8_0 c8_1; obtain ⟨c8_0, c8_1⟩ := cs2 F8; clear hb)
  | (go_at_call 47; with_reducible refine cl (spec_IntervalValid.M c b _) B fun w11 hb B => ?_; replace F4 := bn F4 hb; replace F5 := bn F5 hb; replace F7 := bn F7 hb; replace F8 := bn F8 hb; clear c7_0 c7_1; obtain ⟨c7_0, c7_1⟩ := cs2 F7; clear c8_0 c8_1; obtain ⟨c8_0, c8_1⟩ := cs2 F8; clear hb)
  | ((with_reducible refine gate_store (t := 30) (p := 4) rfl ?_); obtain ⟨y0, y1⟩ := cs2 F4; have z0 := fz F4 0; have z1 := fz F4 1; refine sx (t := 30) (t' := 30) (p := 4) (v := ?vo12) ?hg ?ho ?hn 0 [.string (⟨#[]⟩ : ByteArray), .string (⟨#[]⟩ : ByteArray)] [.string (⟨#[]⟩ : ByteArray), .string (⟨#[]⟩ : ByteArray)] ?hr B F4 L4 rfl (Nat.le_of_ble_eq_true rfl) ?_; (case ho => rfl); (case hg => rfl); (case hn => rfl); (case hr => first | (go_simp; done) | (go_simp; rfl)); intro w12 hk B G; replace F5 := bk F5 hk N4_5.out.symm; replace F7 := bk F7 hk N4_7.out.symm; replace F8 := bk F8 hk N4_8.out.symm; replace F4 := G; clear c7_0 c7_1; obtain ⟨c7_0, c7_1⟩ := cs2 F7; clear c8_0 c8_1; obtain ⟨c8_0, c8_1⟩ := cs2 F8; clear hk y0 z0 y1 z1)
  | ((with_reducible refine gate_store (t := 30) (p := 5) rfl ?_); obtain ⟨y0, y1⟩ := cs2 F5; have z0 := fz F5 0; have z1 := fz F5 1; refine sx (t := 30) (t' := 30) (p := 5) (v := ?vo13) ?hg ?ho ?hn 0 [.string (⟨#[]⟩ : ByteArray), .string (⟨#[]⟩ : ByteArray)] [.string (⟨#[]⟩ : ByteArray), .string (⟨#[]⟩ : ByteArray)] ?hr B F5 L5 rfl (Nat.le_of_ble_eq_true rfl) ?_; (case ho => rfl); (case hg => rfl); (case hn => rfl); (case hr => first | (go_simp; done) | (go_simp; rfl)); intro w13 hk B G; replace F4 := bk F4 hk N4_5.out; replace F7 := bk F7 hk N5_7.out.symm; replace F8 := bk F8 hk N5_8.out.symm; replace F5 := G; clear c7_0 c7_1; obtain ⟨c7_0, c7_1⟩ := cs2 F7; clear c8_0 c8_1; obtain ⟨c8_0, c8_1⟩ := cs2 F8; clear hk y0 z0 y1 z1))
 all_goals try (refine bodyPost_ret (results_list (rs := [.cell 4 30, .cell 5 30, .tmp 6]) rfl (by simp) (.cell g4 30 _ (0, 0) _ rfl F4.out hu rfl (by kernel_rfl) (.cell g5 30 _ (0, 0) _ rfl F5.out hu rfl (by kernel_rfl) (.tmp .nil)))) rfl ?_; refine ⟨?_, B.out⟩; unfold cutV cutB; simp_all; done)
 all_goals (
  refine rg (n := 5) (S := fun W => W.heap[g7]? = some (.cells #[.string a, .string c] 30 (0, 0)) ∧ W.heap[g8]? = some (.cells #[.string c, .string b] 30 (0, 0))) (ds := []) #[false, false, false, false, false] (by kernel_rfl) rfl rfl ⟨F7.out, F8.out⟩ id B (fun w14 hb B hHeld => ?_)
  refine with_tabW spec_IntervalCut.tab5 spec_IntervalCut.bits5 (fun HT_ HW_ => ?_)
  replace F4 := bn F4 hb
  replace F5 := bn F5 hb
  replace F7 := bn F7 hb
  replace F8 := bn F8 hb
  clear hb
  refine ta (i := 0) (N := some 37) (v := ?_) (bits 5 1) rfl rfl (take_ofW HT_.out HW_.out (by kernel_rfl)) (fun _ _ _ h => h) (by kernel_rfl) hHeld ?_ ?_; rotate_left; (intro w' hS; obtain ⟨s0, s1⟩ := hS; obtain ⟨q0, q1⟩ := cs2 (Aside0.mk s0); go_simp; with_reducible rfl)
  refine ta (i := 1) (N := some 38) (v := ?_) (bits 5 3) rfl rfl (take_ofW HT_.out HW_.out (by kernel_rfl)) (fun _ _ _ h => h) (by kernel_rfl) hHeld ?_ ?_; rotate_left; (intro w' hS; obtain ⟨s0, s1⟩ := hS; obtain ⟨q0, q1⟩ := cs2 (Aside0.mk s1); go_simp; with_reducible rfl)
  refine norm_ (a' := ?_) ?_ ?_
  rotate_left
  ·simp only [Act.put, List.setIfInBounds_toArray, List.set_cons_zero, List.set_cons_succ, i64_w, i32_w]
   rfl
  refine one_ (i := 2) (N := none) (bits 5 7) rfl rfl (one_of HT_.out (by kernel_rfl)) (by decide) (fun K hK => ?_)
  obtain ⟨y0, y1⟩ := cs2 F4
  have z0 := fz F4 0
  have z1 := fz F4 1
  refine sxs (g := g4) 0 [.string a, .string c] [.string a, .string c] (by rfl) rfl ?hr B F4 L4 rfl (Nat.le_of_ble_eq_true rfl) (fun w15 hk B G => ?_)
  (case hr => first | (go_simp; done) | (go_simp; rfl))
  replace F5 := bk F5 hk N4_5.out.symm
  replace F7 := bk F7 hk N4_7.out.symm
  replace F8 := bk F8 hk N4_8.out.symm
  replace F4 := G
  clear hk y0 z0 y1 z1
  refine hK.out _ _ ⟨F7.out, F8.out⟩ (fun hHeld => ?_)
  clear hK K
  refine one_ (i := 3) (N := none) (bits 5 15) rfl rfl (one_of HT_.out (by kernel_rfl)) (by decide) (fun K hK => ?_)
  obtain ⟨y0, y1⟩ := cs2 F5
  have z0 := fz F5 0
  have z1 := fz F5 1
  refine sxs (g := g5) 0 [.string c, .string b] [.string c, .string b] (by rfl) rfl ?hr B F5 L5 rfl (Nat.le_of_ble_eq_true rfl) (fun w16 hk B G => ?_)
  (case hr => first | (go_simp; done) | (go_simp; rfl))
  replace F4 := bk F4 hk N4_5.out
  replace F7 := bk F7 hk N5_7.out.symm
  replace F8 := bk F8 hk N5_8.out.symm
  replace F5 := G
  clear hk y0 z0 y1 z1
  refine hK.out _ _ ⟨F7.out, F8.out⟩ (fun hHeld => ?_)
  clear hK K
  refine pu (i := 4) (N := some 6) (v := ?_) (bits 5 31) rfl rfl (any_of HT_.out (by kernel_rfl)) (fun _ _ _ h => h) (by kernel_rfl) ?_ ?_; rotate_left; (intro w'; go_simp; with_reducible rfl)
  refine norm_ (a' := ?_) ?_ ?_
  rotate_left
  ·simp only [Act.put, List.setIfInBounds_toArray, List.set_cons_zero, List.set_cons_succ, i64_w, i32_w]
   rfl
  refine done_ (done_of HT_.out (by kernel_rfl)) ?_)
 all_goals try go_wp2
 all_goals try (refine bodyPost_ret (results_list (rs := [.cell 4 30, .cell 5 30, .tmp 6]) rfl (by simp) (.cell g4 30 _ (0, 0) _ rfl F4.out hu rfl (by kernel_rfl) (.cell g5 30 _ (0, 0) _ rfl F5.out hu rfl (by kernel_rfl) (.tmp .nil)))) rfl ?_; refine ⟨?_, B.out⟩; unfold cutV cutB; simp_all; done)

def spec_StateValid.T6 : Bool × List (List Nat × List Nat) := (true, [([], []), ([0], [0]), ([], []), ([2], [2]), ([], []), ([3, 4], [3, 4]), ([5], [5]), ([6], [6]), ([1, 7], [1, 7]), ([8], [8])])
def spec_StateValid.B6 : List Nat := [0, 1, 0, 4, 0, 28, 60, 124, 255, 511]
theorem spec_StateValid.tab6 : rtab .any (opsOf Try.f12 6) = spec_StateValid.T6 := by kernel_rfl
theorem spec_StateValid.bits6 : waitsOk spec_StateValid.T6.2 spec_StateValid.B6 = true := by kernel_rfl
theorem spec_StateValid.M (a b : ByteArray) (AP : Option Addr) (cP : Nat) (ps : List S61) (AS : Option Addr) (cS : Nat) (ss : List S100) (t : Bool) (c : ByteArray) (w : World) (hrp : Kd.C k61 w AP ps.length ps) (hrs : Kd.C k100 w AS ss.length ss) : Calls Try.prog 12 #[.agg #[.string a, .string b, .slice AP ps.length cP, .slice AS ss.length cS, .bool t, .string c]] w fun e w' => e = .returned (.bool (stB a b ps ss t c)) ∧ Below w.heap.size w w' := by
 have B := Aside0.mk (Below.refl w.heap.size w)
 have hu := Try.underlying34
 have hu2 := Try.underlying30
 have HRP := Aside0.mk hrp
 have HRS := Aside0.mk hrs
 clear hrp hrs
 go_enter Try.func12, Try.ntmps12
 go_wp2_with (first
  | ((with_reducible refine gate_dst (N := 1) rfl ?_); refine bx ?hg (N := 1) ?hd (cs := #[.string a, .string b, .slice AP ps.length cP, .slice AS ss.length cS, .bool t, .string c]) (t := 34) ?hr B ?_; (case hd => rfl); (case hg => rfl); (case hr => first | (go_simp; done) | (go_simp; rfl)); intro g1 w1 hb B F1 L1 E1; obtain ⟨c1_0, c1_1, c1_2, c1_3, c1_4, c1_5⟩ := cs6 F1; clear hb E1)
  | (go_at_call 47; with_reducible refine cl (spec_IntervalValid.M a b _) B fun w2 hb B => ?_; replace F1 := bn F1 hb; clear c1_0 c1_1 c1_2 c1_3 c1_4 c1_5; obtain ⟨c1_0, c1_1, c1_2, c1_3, c1_4, c1_5⟩ := cs6 F1; clear hb)
  | (go_at_call 48; with_reducible refine cl (spec_PairsValid.M _ _ ps _ (cb HRP B)) B fun w3 hb B => ?_; replace F1 := bn F1 hb; clear c1_0 c1_1 c1_2 c1_3 c1_4 c1_5; obtain ⟨c1_0, c1_1, c1_2, c1_3, c1_4, c1_5⟩ := cs6 F1; clear hb)
  | (go_at_call 49; with_reducible refine cl (spec_SessionsValid.M _ _ ss _ (cb HRS B)) B fun w4 hb B => ?_; replace F1 := bn F1 hb; clear hb))
 all_goals try (go_ret; exact ⟨congrArg (fun b => Ending.returned (Value.bool b)) (by grind [stB]), B.out⟩)
 have hv : ivB a b = true ∧ prB ps = true ∧ sesB ss = true := by grind
 have hst : stB a b ps ss t c = ((ps.all fun p => hasB a b p.f0) && tailB a b t c) := by
  unfold stB
  rw [all_has hv.1 hv.2.1, hv.1, hv.2.1, hv.2.2]
  rfl
 obtain ⟨q, hq⟩ : ∃ q, (ps.all fun p => hasB a b p.f0) = q := ⟨_, rfl⟩
 rw [hq] at hst
 have H := Aside0.mk (show ((ps.drop 0).all fun p => hasB a b p.f0) = q from hq)
 have L48 := Aside0.mk (prB_len hv.2.1)
 clear hq hv c1_0 c1_1 c1_2 c1_3 c1_4 c1_5
 have HST := Aside0.mk hst
 clear hst
 go_loopg [3] (ps.length + 1) (fun kx v3 wr => ∃ j : Nat, v3 = .int .i64 (j : Int) ∧ j ≤ ps.length ∧ ps.length < j + kx ∧ Aside0 (Below w.heap.size w wr) ∧ Aside0 (wr.heap[g1]? = some (.cells #[.string a, .string b, .slice AP ps.length cP, .slice AS ss.length cS, .bool t, .string c] 34 (0, 0))) ∧ Aside0 (((ps.drop j).all fun p => hasB a b p.f0) = q))
 case atStart => exact ⟨0, rfl, by omega, by omega, B, F1, H⟩
 case round =>
  clear H B F1
  obtain ⟨j, rfl, hj, hk, B, F1, H⟩ := hrel
  have hst := HST.out
  obtain ⟨c1_0, c1_1, c1_2, c1_3, c1_4, c1_5⟩ := cs6 F1
  by_cases hlt : j < ps.length
  ·have HS := H.out
   rw [pr_drop hlt, List.all_cons] at HS
   clear H
   obtain ⟨d, rfl⟩ : ∃ d, gk = d + 1 := ⟨gk - 1, by omega⟩
   have h48 := L48.out
   have cj : decide ((j : Int) < (ps.length : Int)) = true := decide_eq_true (by omega)
   obtain ⟨ad, hA, y0, y1⟩ := at_T61 (cb HRP B) (j : Int) (by omega) (by omega)
   cases hA
   rw [Int.toNat_natCast] at y0 y1
   have j1 := eq_true (show (j : Int) < (ps.length : Int) by omega)
   have j2 := eq_true hlt
   generalize hy : rd_T61 ps (j : Int) = y at *
   try go_wp2
   all_goals (
    refine rg (n := 10) (S := fun W => W.heap[g1]? = some (.cells #[.string a, .string b, .slice (some ad) ps.length cP, .slice AS ss.length cS, .bool t, .string c] 34 (0, 0)) ∧ Kd.C k61 W (some ad) ps.length ps) (ds := []) #[false, false, false, false, false, false, false, false, false, false] (by kernel_rfl) rfl rfl ⟨F1.out, (cb HRP B)⟩ id B (fun w5 hb B hHeld => ?_)
    refine with_tabW spec_StateValid.tab6 spec_StateValid.bits6 (fun HT_ HW_ => ?_)
    replace F1 := bn F1 hb
    clear hb
    refine pu (i := 0) (N := some 30) (v := ?_) (bits 10 1) rfl rfl (any_of HT_.out (by kernel_rfl)) (fun _ _ _ h => h) (by kernel_rfl) ?_ ?_; rotate_left; (intro w'; go_simp; with_reducible rfl)
    refine ta (i := 1) (N := some 31) (v := ?_) (bits 10 3) rfl rfl (take_ofW HT_.out HW_.out (by kernel_rfl)) (fun _ _ _ h => h) (by kernel_rfl) hHeld ?_ ?_; rotate_left; (intro w' hS; obtain ⟨s0, s1⟩ := hS; obtain ⟨q0, q1, q2, q3, q4, q5⟩ := cs6 (Aside0.mk s0); go_simp; with_reducible rfl)
    refine pu (i := 2) (N := some 32) (v := ?_) (bits 10 7) rfl rfl (any_of HT_.out (by kernel_rfl)) (fun _ _ _ h => h) (by kernel_rfl) ?_ ?_; rotate_left; (intro w'; go_simp; with_reducible rfl)
    refine ta (i := 3) (N := some 33) (v := ?_) (bits 10 15) rfl rfl (take_ofW HT_.out HW_.out (by kernel_rfl)) (fun _ _ _ h => h) (by kernel_rfl) hHeld ?_ ?_; rotate_left; (intro w' hS; obtain ⟨s0, s1⟩ := hS; obtain ⟨q0, q1, q2, q3, q4, q5⟩ := cs6 (Aside0.mk s0); go_simp; with_reducible rfl)
    refine pu (i := 4) (N := some 34) (v := ?_) (bits 10 31) rfl rfl (any_of HT_.out (by kernel_rfl)) (fun _ _ _ h => h) (by kernel_rfl) ?_ ?_; rotate_left; (intro w'; go_simp; with_reducible rfl)
    refine pu (i := 5) (N := some 35) (v := ?_) (bits 10 63) rfl rfl (any_of HT_.out (by kernel_rfl)) (fun _ _ _ h => h) (by kernel_rfl) ?_ ?_; rotate_left; (intro w'; go_simp; with_reducible rfl)
    refine pu (i := 6) (N := some 36) (v := ?_) (bits 10 127) rfl rfl (any_of HT_.out (by kernel_rfl)) (fun _ _ _ h => h) (by kernel_rfl) ?_ ?_; rotate_left; (intro w'; go_simp; with_reducible rfl)
    refine ta (i := 7) (N := some 37) (v := ?_) (bits 10 255) rfl rfl (take_ofW HT_.out HW_.out (by kernel_rfl)) (fun _ _ _ h => h) (by kernel_rfl) hHeld ?_ ?_; rotate_left; (intro w' hS; obtain ⟨s0, s1⟩ := hS; obtain ⟨_, hA, q0, q1⟩ := at_T61 s1 (j : Int) (by omega) (by omega); cases hA; rw [Int.toNat_natCast] at q0 q1; rw [hy] at q0 q1; go_simp; with_reducible rfl)
    refine norm_ (a' := ?_) ?_ ?_
    rotate_left
    ·simp only [Act.put, List.setIfInBounds_toArray, List.set_cons_zero, List.set_cons_succ, i64_w, i32_w]
     rfl
    refine one_ (i := 8) (N := some 38) (bits 10 511) rfl rfl (one_of HT_.out (by kernel_rfl)) (by decide) (fun K hK => ?_)
    refine goes_ Try.func50 (by kernel_rfl) rfl #[.agg #[.string a, .string b], .string y.f0] (by rfl) rfl rfl (by (try simp only [List.map_toArray, List.map_cons, List.map_nil]); rfl) ?_
    with_reducible refine cl (spec_IntervalHas.M a b y.f0 _) B fun w6 hb B => ?_
    replace F1 := bn F1 hb
    clear hb
    refine ⟨_, rfl, ?_⟩
    refine hK.out _ _ ⟨F1.out, (cb HRP B)⟩ (fun hHeld => ?_)
    clear hK K
    refine norm_ (a' := ?_) ?_ ?_
    rotate_left
    ·show Act.put _ (some 38) _ = _
     simp only [Act.put, List.setIfInBounds_toArray, List.set_cons_zero, List.set_cons_succ, i64_w, i32_w]
     rfl
    refine pu (i := 9) (N := some 39) (v := ?_) (bits 10 1023) rfl rfl (any_of HT_.out (by kernel_rfl)) (fun _ _ _ h => h) (by kernel_rfl) ?_ ?_; rotate_left; (intro w'; go_simp; with_reducible rfl)
    refine norm_ (a' := ?_) ?_ ?_
    rotate_left
    ·simp only [Act.put, List.setIfInBounds_toArray, List.set_cons_zero, List.set_cons_succ, i64_w, i32_w]
     rfl
    refine done_ (done_of HT_.out (by kernel_rfl)) ?_
    try go_wp2
    all_goals first
     | (go_roundg d; (case measure => omega); (case rel => exact ⟨j + 1, congrArg (Value.int .i64) (Int.natCast_succ _).symm, by omega, by omega, B, F1, ⟨andT HS (by grind)⟩⟩))
     | (go_ret; exact ⟨congrArg (fun b => Ending.returned (Value.bool b)) (by have HS := HS; grind [stB]), B.out⟩))
   all_goals try go_wp2
  ·have cj : decide ((j : Int) < (ps.length : Int)) = false := decide_eq_false (by omega)
   have hr : q = true := by rw [← H.out, List.drop_of_length_le (by omega)]; rfl
   clear H
   go_wp2_with (first
    | (go_at_call 51; with_reducible refine cl (spec_IntervalCut.M a b c _) B fun w1 hb B => ?_; replace F1 := bn F1 hb; clear c1_0 c1_1 c1_2 c1_3 c1_4 c1_5; obtain ⟨c1_0, c1_1, c1_2, c1_3, c1_4, c1_5⟩ := cs6 F1; clear hb)
    | ((with_reducible refine gate_dst (N := 4) rfl ?_); refine bx ?hg (N := 4) ?hd (cs := #[.string (⟨#[]⟩ : ByteArray), .string (⟨#[]⟩ : ByteArray)]) (t := 30) ?hr B ?_; (case hd => rfl); (case hg => rfl); (case hr => first | (go_simp; done) | (go_simp; rfl)); intro g4 w2 hb B F4 L4 E4; have N1_4 := ne1 E4 F1; replace F1 := bn F1 hb; clear c1_0 c1_1 c1_2 c1_3 c1_4 c1_5; obtain ⟨c1_0, c1_1, c1_2, c1_3, c1_4, c1_5⟩ := cs6 F1; clear hb E4)
    | ((with_reducible refine gate_dst (N := 5) rfl ?_); refine bx ?hg (N := 5) ?hd (cs := #[.string (⟨#[]⟩ : ByteArray), .string (⟨#[]⟩ : ByteArray)]) (t := 30) ?hr B ?_; (case hd => rfl); (case hg => rfl); (case hr => first | (go_simp; done) | (go_simp; rfl)); intro g5 w3 hb B F5 L5 E5; have N1_5 := ne1 E5 F1; have N4_5 := ne1 E5 F4; replace F1 := bn F1 hb; replace F4 := bn F4 hb; clear c1_0 c1_1 c1_2 c1_3 c1_4 c1_5; obtain ⟨c1_0, c1_1, c1_2, c1_3, c1_4, c1_5⟩ := cs6 F1; clear hb E5)
    | ((with_reducible refine gate_store (t := 30) (p := 4) rfl ?_); obtain ⟨y0, y1⟩ := cs2 F4; have z0 := fz F4 0; have z1 := fz F4 1; refine sx (t := 30) (t' := 30) (p := 4) (v := ?vo4) ?hg ?ho ?hn 0 [.string (cutV a b c).1, .string (cutV a b c).2.1] [.string (cutV a b c).1, .string (cutV a b c).2.1] ?hr B F4 L4 rfl (Nat.le_of_ble_eq_true rfl) ?_; (case ho => rfl); (case hg => rfl); (case hn => rfl); (case hr => first | (go_simp; done) | (go_simp; rfl)); intro w4 hk B G; replace F1 := bk F1 hk N1_4.out; replace F5 := bk F5 hk N4_5.out.symm; replace F4 := G; clear c1_0 c1_1 c1_2 c1_3 c1_4 c1_5; obtain ⟨c1_0, c1_1, c1_2, c1_3, c1_4, c1_5⟩ := cs6 F1; clear hk y0 z0 y1 z1)
    | ((with_reducible refine gate_store (t := 30) (p := 5) rfl ?_); obtain ⟨y0, y1⟩ := cs2 F5; have z0 := fz F5 0; have z1 := fz F5 1; refine sx (t := 30) (t' := 30) (p := 5) (v := ?vo5) ?hg ?ho ?hn 0 [.string (cutV a b c).2.2.1, .string (cutV a b c).2.2.2.1] [.string (cutV a b c).2.2.1, .string (cutV a b c).2.2.2.1] ?hr B F5 L5 rfl (Nat.le_of_ble_eq_true rfl) ?_; (case ho => rfl); (case hg => rfl); (case hn => rfl); (case hr => first | (go_simp; done) | (go_simp; rfl)); intro w5 hk B G; replace F1 := bk F1 hk N1_5.out; replace F5 := G; clear c1_0 c1_1 c1_2 c1_3 c1_4 c1_5; obtain ⟨c1_0, c1_1, c1_2, c1_3, c1_4, c1_5⟩ := cs6 F1; clear hk y0 z0 y1 z1))
   all_goals go_ret
   all_goals
    refine ⟨congrArg (fun b => Ending.returned (Value.bool b)) ?_, B.out⟩
    rw [hst, hr, Bool.true_and]
    unfold tailB
    grind [cutV_ok]

theorem sj_bad {s u : SM} (h : joinOk s u = false) : sjM s u = (SM.zero, false) := if_neg (by rw [h]; simp)
theorem sj_good {s u : SM} (h : joinOk s u = true) : sjM s u = (⟨s.a, u.b, s.ps ++ u.ps, joinB s.ss u.ss, false, ⟨#[]⟩⟩, true) := if_pos h

def spec_StateJoin.T7 : Bool × List (List Nat × List Nat) := (true, [([], []), ([], []), ([], []), ([2], [2]), ([], []), ([4], [4]), ([3, 5], [3, 5]), ([0, 1, 6], [0, 1, 6]), ([7, 6, 0, 1, 2, 3, 4, 5, 6, 7], [7]), ([8, 0, 1, 2, 3, 4, 5, 6, 7, 8], [])])
def spec_StateJoin.B7 : List Nat := [0, 0, 0, 4, 0, 16, 60, 127, 255, 511]
theorem spec_StateJoin.tab7 : rtab .any (opsOf Try.f41 7) = spec_StateJoin.T7 := by kernel_rfl
theorem spec_StateJoin.bits7 : waitsOk spec_StateJoin.T7.2 spec_StateJoin.B7 = true := by kernel_rfl
theorem spec_StateJoin.M (a b : ByteArray) (AP : Option Addr) (cP : Nat) (ps : List S61) (AS : Option Addr) (cS : Nat) (ss : List S100) (t : Bool) (c : ByteArray) (lo hi : ByteArray) (AQ : Option Addr) (cQ : Nat) (qs : List S61) (AU : Option Addr) (cU : Nat) (us : List S100) (u2 : Bool) (ct : ByteArray) (w : World) (hrp : Kd.C k61 w AP ps.length ps) (hrs : Kd.C k100 w AS ss.length ss) (hrq : Kd.C k61 w AQ qs.length qs) (hru : Kd.C k100 w AU us.length us) (hcp : ps.length ≤ cP) (hcs : ss.length ≤ cS) (hcq : qs.length ≤ cQ) (hcu : us.length ≤ cU) : Calls Try.prog 41 #[.agg #[.string a, .string b, .slice AP ps.length cP, .slice AS ss.length cS, .bool t, .string c], .agg #[.string lo, .string hi, .slice AQ qs.length cQ, .slice AU us.length cU, .bool u2, .string ct]] w fun e w' => ∃ v2 v3, e = .returned (.tuple #[.agg #[.string (sjM ⟨a, b, ps, ss, t, c⟩ ⟨lo, hi, qs, us, u2, ct⟩).1.a, .string (sjM ⟨a, b, ps, ss, t, c⟩ ⟨lo, hi, qs, us, u2, ct⟩).1.b, v2, v3, .bool (sjM ⟨a, b, ps, ss, t, c⟩ ⟨lo, hi, qs, us, u2, ct⟩).1.t, .string (sjM ⟨a, b, ps, ss, t, c⟩ ⟨lo, hi, qs, us, u2, ct⟩).1.c], .bool (sjM ⟨a, b, ps, ss, t, c⟩ ⟨lo, hi, qs, us, u2, ct⟩).2]) ∧ Kd.R k61 61 w' w.heap.size (fun _ => True) v2 (sjM ⟨a, b, ps, ss, t, c⟩ ⟨lo, hi, qs, us, u2, ct⟩).1.ps ∧ Kd.R k100 100 w' w.heap.size (fun _ => True) v3 (sjM ⟨a, b, ps, ss, t, c⟩ ⟨lo, hi, qs, us, u2, ct⟩).1.ss ∧ Below w.heap.size w w' := by
 have B := Aside0.mk (Below.refl w.heap.size w)
 have hu := Try.underlying34
 have hu2 := Try.underlying30
 have HRP := Aside0.mk hrp
 have HRS := Aside0.mk hrs
 have HRQ := Aside0.mk hrq
 have HRU := Aside0.mk hru
 have HCP := Aside0.mk hcp
 have HCS := Aside0.mk hcs
 have HCQ := Aside0.mk hcq
 have HCU := Aside0.mk hcu
 clear hrp hrs hrq hru hcp hcs hcq hcu
 cases hs : stB a b ps ss t c with
 | false =>
  rw [sj_bad (show joinOk ⟨a, b, ps, ss, t, c⟩ ⟨lo, hi, qs, us, u2, ct⟩ = false by unfold joinOk SM.ok; rw [hs]; rfl)]
  go_enter Try.func41, Try.ntmps41
  go_wp2_with (first
   | ((with_reducible refine gate_dst (N := 2) rfl ?_); refine bx ?hg (N := 2) ?hd (cs := #[.string a, .string b, .slice AP ps.length cP, .slice AS ss.length cS, .bool t, .string c]) (t := 34) ?hr B ?_; (case hd => rfl); (case hg => rfl); (case hr => first | (go_simp; done) | (go_simp; rfl)); intro g2 w1 hb B F2 L2 E2; obtain ⟨c2_0, c2_1, c2_2, c2_3, c2_4, c2_5⟩ := cs6 F2; clear hb E2)
   | ((with_reducible refine gate_dst (N := 3) rfl ?_); refine bx ?hg (N := 3) ?hd (cs := #[.string lo, .string hi, .slice AQ qs.length cQ, .slice AU us.length cU, .bool u2, .string ct]) (t := 34) ?hr B ?_; (case hd => rfl); (case hg => rfl); (case hr => first | (go_simp; done) | (go_simp; rfl)); intro g3 w2 hb B F3 L3 E3; replace F2 := bn F2 hb; clear c2_0 c2_1 c2_2 c2_3 c2_4 c2_5; obtain ⟨c2_0, c2_1, c2_2, c2_3, c2_4, c2_5⟩ := cs6 F2; obtain ⟨c3_0, c3_1, c3_2, c3_3, c3_4, c3_5⟩ := cs6 F3; clear hb E3)
   | ((with_reducible refine gate_dst (N := 4) rfl ?_); refine bx ?hg (N := 4) ?hd (cs := #[.string (⟨#[]⟩ : ByteArray), .string (⟨#[]⟩ : ByteArray), .slice none 0 0, .slice none 0 0, .bool false, .string (⟨#[]⟩ : ByteArray)]) (t := 34) ?hr B ?_; (case hd => rfl); (case hg => rfl); (case hr => first | (go_simp; done) | (go_simp; rfl)); intro g4 w3 hb B F4 L4 E4; have N2_4 := ne1 E4 F2; have N3_4 := ne1 E4 F3; replace F2 := bn F2 hb; replace F3 := bn F3 hb; clear c2_0 c2_1 c2_2 c2_3 c2_4 c2_5; obtain ⟨c2_0, c2_1, c2_2, c2_3, c2_4, c2_5⟩ := cs6 F2; clear c3_0 c3_1 c3_2 c3_3 c3_4 c3_5; obtain ⟨c3_0, c3_1, c3_2, c3_3, c3_4, c3_5⟩ := cs6 F3; clear hb E4)
   | (go_at_call 84; with_reducible refine cl (spec_IntervalJoin.M a b lo hi _) B fun w4 hb B => ?_; replace F2 := bn F2 hb; replace F3 := bn F3 hb; replace F4 := bn F4 hb; clear c2_0 c2_1 c2_2 c2_3 c2_4 c2_5; obtain ⟨c2_0, c2_1, c2_2, c2_3, c2_4, c2_5⟩ := cs6 F2; clear c3_0 c3_1 c3_2 c3_3 c3_4 c3_5; obtain ⟨c3_0, c3_1, c3_2, c3_3, c3_4, c3_5⟩ := cs6 F3; clear hb)
   | ((with_reducible refine gate_dst (N := 6) rfl ?_); refine bx ?hg (N := 6) ?hd (cs := #[.string (⟨#[]⟩ : ByteArray), .string (⟨#[]⟩ : ByteArray)]) (t := 30) ?hr B ?_; (case hd => rfl); (case hg => rfl); (case hr => first | (go_simp; done) | (go_simp; rfl)); intro g6 w5 hb B F6 L6 E6; have N2_6 := ne1 E6 F2; have N3_6 := ne1 E6 F3; have N4_6 := ne1 E6 F4; replace F2 := bn F2 hb; replace F3 := bn F3 hb; replace F4 := bn F4 hb; clear c2_0 c2_1 c2_2 c2_3 c2_4 c2_5; obtain ⟨c2_0, c2_1, c2_2, c2_3, c2_4, c2_5⟩ := cs6 F2; clear c3_0 c3_1 c3_2 c3_3 c3_4 c3_5; obtain ⟨c3_0, c3_1, c3_2, c3_3, c3_4, c3_5⟩ := cs6 F3; clear hb E6)
   | ((with_reducible refine gate_store (t := 30) (p := 6) rfl ?_); obtain ⟨y0, y1⟩ := cs2 F6; have z0 := fz F6 0; have z1 := fz F6 1; refine sx (t := 30) (t' := 30) (p := 6) (v := ?vo6) ?hg ?ho ?hn 0 [.string (ijM a b lo hi).1, .string (ijM a b lo hi).2.1] [.string (ijM a b lo hi).1, .string (ijM a b lo hi).2.1] ?hr B F6 L6 rfl (Nat.le_of_ble_eq_true rfl) ?_; (case ho => rfl); (case hg => rfl); (case hn => rfl); (case hr => first | (go_simp; done) | (go_simp; rfl)); intro w6 hk B G; replace F2 := bk F2 hk N2_6.out; replace F3 := bk F3 hk N3_6.out; replace F4 := bk F4 hk N4_6.out; replace F6 := G; clear c2_0 c2_1 c2_2 c2_3 c2_4 c2_5; obtain ⟨c2_0, c2_1, c2_2, c2_3, c2_4, c2_5⟩ := cs6 F2; clear c3_0 c3_1 c3_2 c3_3 c3_4 c3_5; obtain ⟨c3_0, c3_1, c3_2, c3_3, c3_4, c3_5⟩ := cs6 F3; clear hk y0 z0 y1 z1)
   | (go_at_call 12; with_reducible refine cl (spec_StateValid.M a b _ _ ps _ _ ss t c _ (cb HRP B) (cb HRS B)) B fun w7 hb B => ?_; replace F2 := bn F2 hb; replace F3 := bn F3 hb; replace F4 := bn F4 hb; clear c2_0 c2_1 c2_2 c2_3 c2_4 c2_5; obtain ⟨c2_0, c2_1, c2_2, c2_3, c2_4, c2_5⟩ := cs6 F2; clear c3_0 c3_1 c3_2 c3_3 c3_4 c3_5; obtain ⟨c3_0, c3_1, c3_2, c3_3, c3_4, c3_5⟩ := cs6 F3; clear hb)
   | (go_at_call 12; with_reducible refine cl (spec_StateValid.M lo hi _ _ qs _ _ us u2 ct _ (cb HRQ B) (cb HRU B)) B fun w8 hb B => ?_; replace F2 := bn F2 hb; replace F3 := bn F3 hb; replace F4 := bn F4 hb; clear c2_0 c2_1 c2_2 c2_3 c2_4 c2_5; obtain ⟨c2_0, c2_1, c2_2, c2_3, c2_4, c2_5⟩ := cs6 F2; clear c3_0 c3_1 c3_2 c3_3 c3_4 c3_5; obtain ⟨c3_0, c3_1, c3_2, c3_3, c3_4, c3_5⟩ := cs6 F3; clear hb)
   | ((with_reducible refine gate_store (t := 34) (p := 4) rfl ?_); obtain ⟨y0, y1, y2, y3, y4, y5⟩ := cs6 F4; have z0 := fz F4 0; have z1 := fz F4 1; have z2 := fz F4 2; have z3 := fz F4 3; have z4 := fz F4 4; have z5 := fz F4 5; refine sx (t := 34) (t' := 34) (p := 4) (v := ?vo9) ?hg ?ho ?hn 0 [.string (⟨#[]⟩ : ByteArray), .string (⟨#[]⟩ : ByteArray), .slice none 0 0, .slice none 0 0, .bool false, .string (⟨#[]⟩ : ByteArray)] [.string (⟨#[]⟩ : ByteArray), .string (⟨#[]⟩ : ByteArray), .slice none 0 0, .slice none 0 0, .bool false, .string (⟨#[]⟩ : ByteArray)] ?hr B F4 L4 rfl (Nat.le_of_ble_eq_true rfl) ?_; (case ho => rfl); (case hg => rfl); (case hn => rfl); (case hr => first | (go_simp; done) | (go_simp; rfl)); intro w9 hk B G; replace F2 := bk F2 hk N2_4.out; replace F3 := bk F3 hk N3_4.out; replace F4 := G; clear hk y0 z0 y1 z1 y2 z2 y3 z3 y4 z4 y5 z5))
  all_goals (refine bodyPost_ret (results_list (rs := [.cell 4 34, .tmp 5]) rfl (by simp) (.cell g4 34 _ (0, 0) _ rfl F4.out hu rfl (by kernel_rfl) (.tmp .nil))) rfl ?_; exact ⟨_, _, rfl, Kd.R_nil _ _ _ _ _, Kd.R_nil _ _ _ _ _, B.out⟩)
 | true =>
  cases hu_ : stB lo hi qs us u2 ct with
  | false =>
   rw [sj_bad (show joinOk ⟨a, b, ps, ss, t, c⟩ ⟨lo, hi, qs, us, u2, ct⟩ = false by unfold joinOk SM.ok; rw [hs, hu_]; rfl)]
   go_enter Try.func41, Try.ntmps41
   go_wp2_with (first
    | ((with_reducible refine gate_dst (N := 2) rfl ?_); refine bx ?hg (N := 2) ?hd (cs := #[.string a, .string b, .slice AP ps.length cP, .slice AS ss.length cS, .bool t, .string c]) (t := 34) ?hr B ?_; (case hd => rfl); (case hg => rfl); (case hr => first | (go_simp; done) | (go_simp; rfl)); intro g2 w101 hb B F2 L2 E2; obtain ⟨c2_0, c2_1, c2_2, c2_3, c2_4, c2_5⟩ := cs6 F2; clear hb E2)
    | ((with_reducible refine gate_dst (N := 3) rfl ?_); refine bx ?hg (N := 3) ?hd (cs := #[.string lo, .string hi, .slice AQ qs.length cQ, .slice AU us.length cU, .bool u2, .string ct]) (t := 34) ?hr B ?_; (case hd => rfl); (case hg => rfl); (case hr => first | (go_simp; done) | (go_simp; rfl)); intro g3 w102 hb B F3 L3 E3; replace F2 := bn F2 hb; clear c2_0 c2_1 c2_2 c2_3 c2_4 c2_5; obtain ⟨c2_0, c2_1, c2_2, c2_3, c2_4, c2_5⟩ := cs6 F2; obtain ⟨c3_0, c3_1, c3_2, c3_3, c3_4, c3_5⟩ := cs6 F3; clear hb E3)
    | ((with_reducible refine gate_dst (N := 4) rfl ?_); refine bx ?hg (N := 4) ?hd (cs := #[.string (⟨#[]⟩ : ByteArray), .string (⟨#[]⟩ : ByteArray), .slice none 0 0, .slice none 0 0, .bool false, .string (⟨#[]⟩ : ByteArray)]) (t := 34) ?hr B ?_; (case hd => rfl); (case hg => rfl); (case hr => first | (go_simp; done) | (go_simp; rfl)); intro g4 w103 hb B F4 L4 E4; have N2_4 := ne1 E4 F2; have N3_4 := ne1 E4 F3; replace F2 := bn F2 hb; replace F3 := bn F3 hb; clear c2_0 c2_1 c2_2 c2_3 c2_4 c2_5; obtain ⟨c2_0, c2_1, c2_2, c2_3, c2_4, c2_5⟩ := cs6 F2; clear c3_0 c3_1 c3_2 c3_3 c3_4 c3_5; obtain ⟨c3_0, c3_1, c3_2, c3_3, c3_4, c3_5⟩ := cs6 F3; clear hb E4)
    | (go_at_call 84; with_reducible refine cl (spec_IntervalJoin.M a b lo hi _) B fun w104 hb B => ?_; replace F2 := bn F2 hb; replace F3 := bn F3 hb; replace F4 := bn F4 hb; clear c2_0 c2_1 c2_2 c2_3 c2_4 c2_5; obtain ⟨c2_0, c2_1, c2_2, c2_3, c2_4, c2_5⟩ := cs6 F2; clear c3_0 c3_1 c3_2 c3_3 c3_4 c3_5; obtain ⟨c3_0, c3_1, c3_2, c3_3, c3_4, c3_5⟩ := cs6 F3; clear hb)
    | ((with_reducible refine gate_dst (N := 6) rfl ?_); refine bx ?hg (N := 6) ?hd (cs := #[.string (⟨#[]⟩ : ByteArray), .string (⟨#[]⟩ : ByteArray)]) (t := 30) ?hr B ?_; (case hd => rfl); (case hg => rfl); (case hr => first | (go_simp; done) | (go_simp; rfl)); intro g6 w105 hb B F6 L6 E6; have N2_6 := ne1 E6 F2; have N3_6 := ne1 E6 F3; have N4_6 := ne1 E6 F4; replace F2 := bn F2 hb; replace F3 := bn F3 hb; replace F4 := bn F4 hb; clear c2_0 c2_1 c2_2 c2_3 c2_4 c2_5; obtain ⟨c2_0, c2_1, c2_2, c2_3, c2_4, c2_5⟩ := cs6 F2; clear c3_0 c3_1 c3_2 c3_3 c3_4 c3_5; obtain ⟨c3_0, c3_1, c3_2, c3_3, c3_4, c3_5⟩ := cs6 F3; clear hb E6)
    | ((with_reducible refine gate_store (t := 30) (p := 6) rfl ?_); obtain ⟨y0, y1⟩ := cs2 F6; have z0 := fz F6 0; have z1 := fz F6 1; refine sx (t := 30) (t' := 30) (p := 6) (v := ?vo106) ?hg ?ho ?hn 0 [.string (ijM a b lo hi).1, .string (ijM a b lo hi).2.1] [.string (ijM a b lo hi).1, .string (ijM a b lo hi).2.1] ?hr B F6 L6 rfl (Nat.le_of_ble_eq_true rfl) ?_; (case ho => rfl); (case hg => rfl); (case hn => rfl); (case hr => first | (go_simp; done) | (go_simp; rfl)); intro w106 hk B G; replace F2 := bk F2 hk N2_6.out; replace F3 := bk F3 hk N3_6.out; replace F4 := bk F4 hk N4_6.out; replace F6 := G; clear c2_0 c2_1 c2_2 c2_3 c2_4 c2_5; obtain ⟨c2_0, c2_1, c2_2, c2_3, c2_4, c2_5⟩ := cs6 F2; clear c3_0 c3_1 c3_2 c3_3 c3_4 c3_5; obtain ⟨c3_0, c3_1, c3_2, c3_3, c3_4, c3_5⟩ := cs6 F3; clear hk y0 z0 y1 z1)
    | (go_at_call 12; with_reducible refine cl (spec_StateValid.M a b _ _ ps _ _ ss t c _ (cb HRP B) (cb HRS B)) B fun w107 hb B => ?_; replace F2 := bn F2 hb; replace F3 := bn F3 hb; replace F4 := bn F4 hb; clear c2_0 c2_1 c2_2 c2_3 c2_4 c2_5; obtain ⟨c2_0, c2_1, c2_2, c2_3, c2_4, c2_5⟩ := cs6 F2; clear c3_0 c3_1 c3_2 c3_3 c3_4 c3_5; obtain ⟨c3_0, c3_1, c3_2, c3_3, c3_4, c3_5⟩ := cs6 F3; clear hb)
    | (go_at_call 12; with_reducible refine cl (spec_StateValid.M lo hi _ _ qs _ _ us u2 ct _ (cb HRQ B) (cb HRU B)) B fun w108 hb B => ?_; replace F2 := bn F2 hb; replace F3 := bn F3 hb; replace F4 := bn F4 hb; clear c2_0 c2_1 c2_2 c2_3 c2_4 c2_5; obtain ⟨c2_0, c2_1, c2_2, c2_3, c2_4, c2_5⟩ := cs6 F2; clear c3_0 c3_1 c3_2 c3_3 c3_4 c3_5; obtain ⟨c3_0, c3_1, c3_2, c3_3, c3_4, c3_5⟩ := cs6 F3; clear hb)
    | ((with_reducible refine gate_store (t := 34) (p := 4) rfl ?_); obtain ⟨y0, y1, y2, y3, y4, y5⟩ := cs6 F4; have z0 := fz F4 0; have z1 := fz F4 1; have z2 := fz F4 2; have z3 := fz F4 3; have z4 := fz F4 4; have z5 := fz F4 5; refine sx (t := 34) (t' := 34) (p := 4) (v := ?vo109) ?hg ?ho ?hn 0 [.string (⟨#[]⟩ : ByteArray), .string (⟨#[]⟩ : ByteArray), .slice none 0 0, .slice none 0 0, .bool false, .string (⟨#[]⟩ : ByteArray)] [.string (⟨#[]⟩ : ByteArray), .string (⟨#[]⟩ : ByteArray), .slice none 0 0, .slice none 0 0, .bool false, .string (⟨#[]⟩ : ByteArray)] ?hr B F4 L4 rfl (Nat.le_of_ble_eq_true rfl) ?_; (case ho => rfl); (case hg => rfl); (case hn => rfl); (case hr => first | (go_simp; done) | (go_simp; rfl)); intro w109 hk B G; replace F2 := bk F2 hk N2_4.out; replace F3 := bk F3 hk N3_4.out; replace F4 := G; clear hk y0 z0 y1 z1 y2 z2 y3 z3 y4 z4 y5 z5))
   all_goals (refine bodyPost_ret (results_list (rs := [.cell 4 34, .tmp 5]) rfl (by simp) (.cell g4 34 _ (0, 0) _ rfl F4.out hu rfl (by kernel_rfl) (.tmp .nil))) rfl ?_; exact ⟨_, _, rfl, Kd.R_nil _ _ _ _ _, Kd.R_nil _ _ _ _ _, B.out⟩)
  | true =>
   obtain ⟨hiv1, hp1, hs1, -, -⟩ := stB_parts.mp hs
   obtain ⟨hiv2, hp2, hs2, -, -⟩ := stB_parts.mp hu_
   have hl1 := prB_len hp1
   have hl2 := prB_len hp2
   by_cases hfl : (t = true ∧ u2 = true) ∧ (c.toList = ([] : List UInt8) ∧ ct.toList = ([] : List UInt8))
   ·obtain ⟨⟨rfl, rfl⟩, hc0, hh0⟩ := hfl
    have dc : (c.toList == ([] : List UInt8)) = true := by simp [hc0]
    have dh : (ct.toList == ([] : List UInt8)) = true := by simp [hh0]
    cases hij : ijB a b lo hi with
    | false =>
     rw [sj_bad (show joinOk ⟨a, b, ps, ss, true, c⟩ ⟨lo, hi, qs, us, true, ct⟩ = false by unfold joinOk SM.ok; rw [hs, hu_, hij, decide_eq_true hc0, decide_eq_true hh0]; rfl)]
     go_enter Try.func41, Try.ntmps41
     go_wp2_with (first
      | ((with_reducible refine gate_dst (N := 2) rfl ?_); refine bx ?hg (N := 2) ?hd (cs := #[.string a, .string b, .slice AP ps.length cP, .slice AS ss.length cS, .bool true, .string c]) (t := 34) ?hr B ?_; (case hd => rfl); (case hg => rfl); (case hr => first | (go_simp; done) | (go_simp; rfl)); intro g2 w301 hb B F2 L2 E2; obtain ⟨c2_0, c2_1, c2_2, c2_3, c2_4, c2_5⟩ := cs6 F2; clear hb E2)
      | ((with_reducible refine gate_dst (N := 3) rfl ?_); refine bx ?hg (N := 3) ?hd (cs := #[.string lo, .string hi, .slice AQ qs.length cQ, .slice AU us.length cU, .bool true, .string ct]) (t := 34) ?hr B ?_; (case hd => rfl); (case hg => rfl); (case hr => first | (go_simp; done) | (go_simp; rfl)); intro g3 w302 hb B F3 L3 E3; replace F2 := bn F2 hb; clear c2_0 c2_1 c2_2 c2_3 c2_4 c2_5; obtain ⟨c2_0, c2_1, c2_2, c2_3, c2_4, c2_5⟩ := cs6 F2; obtain ⟨c3_0, c3_1, c3_2, c3_3, c3_4, c3_5⟩ := cs6 F3; clear hb E3)
      | ((with_reducible refine gate_dst (N := 4) rfl ?_); refine bx ?hg (N := 4) ?hd (cs := #[.string (⟨#[]⟩ : ByteArray), .string (⟨#[]⟩ : ByteArray), .slice none 0 0, .slice none 0 0, .bool false, .string (⟨#[]⟩ : ByteArray)]) (t := 34) ?hr B ?_; (case hd => rfl); (case hg => rfl); (case hr => first | (go_simp; done) | (go_simp; rfl)); intro g4 w303 hb B F4 L4 E4; have N2_4 := ne1 E4 F2; have N3_4 := ne1 E4 F3; replace F2 := bn F2 hb; replace F3 := bn F3 hb; clear c2_0 c2_1 c2_2 c2_3 c2_4 c2_5; obtain ⟨c2_0, c2_1, c2_2, c2_3, c2_4, c2_5⟩ := cs6 F2; clear c3_0 c3_1 c3_2 c3_3 c3_4 c3_5; obtain ⟨c3_0, c3_1, c3_2, c3_3, c3_4, c3_5⟩ := cs6 F3; clear hb E4)
      | (go_at_call 84; with_reducible refine cl (spec_IntervalJoin.Mf a b lo hi hij _) B fun w304 hb B => ?_; replace F2 := bn F2 hb; replace F3 := bn F3 hb; replace F4 := bn F4 hb; clear c2_0 c2_1 c2_2 c2_3 c2_4 c2_5; obtain ⟨c2_0, c2_1, c2_2, c2_3, c2_4, c2_5⟩ := cs6 F2; clear c3_0 c3_1 c3_2 c3_3 c3_4 c3_5; obtain ⟨c3_0, c3_1, c3_2, c3_3, c3_4, c3_5⟩ := cs6 F3; clear hb)
      | ((with_reducible refine gate_dst (N := 6) rfl ?_); refine bx ?hg (N := 6) ?hd (cs := #[.string (⟨#[]⟩ : ByteArray), .string (⟨#[]⟩ : ByteArray)]) (t := 30) ?hr B ?_; (case hd => rfl); (case hg => rfl); (case hr => first | (go_simp; done) | (go_simp; rfl)); intro g6 w305 hb B F6 L6 E6; have N2_6 := ne1 E6 F2; have N3_6 := ne1 E6 F3; have N4_6 := ne1 E6 F4; replace F2 := bn F2 hb; replace F3 := bn F3 hb; replace F4 := bn F4 hb; clear c2_0 c2_1 c2_2 c2_3 c2_4 c2_5; obtain ⟨c2_0, c2_1, c2_2, c2_3, c2_4, c2_5⟩ := cs6 F2; clear c3_0 c3_1 c3_2 c3_3 c3_4 c3_5; obtain ⟨c3_0, c3_1, c3_2, c3_3, c3_4, c3_5⟩ := cs6 F3; clear hb E6)
      | ((with_reducible refine gate_store (t := 30) (p := 6) rfl ?_); obtain ⟨y0, y1⟩ := cs2 F6; have z0 := fz F6 0; have z1 := fz F6 1; refine sx (t := 30) (t' := 30) (p := 6) (v := ?vo306) ?hg ?ho ?hn 0 [.string (⟨#[]⟩ : ByteArray), .string (⟨#[]⟩ : ByteArray)] [.string (⟨#[]⟩ : ByteArray), .string (⟨#[]⟩ : ByteArray)] ?hr B F6 L6 rfl (Nat.le_of_ble_eq_true rfl) ?_; (case ho => rfl); (case hg => rfl); (case hn => rfl); (case hr => first | (go_simp; done) | (go_simp; rfl)); intro w306 hk B G; replace F2 := bk F2 hk N2_6.out; replace F3 := bk F3 hk N3_6.out; replace F4 := bk F4 hk N4_6.out; replace F6 := G; clear c2_0 c2_1 c2_2 c2_3 c2_4 c2_5; obtain ⟨c2_0, c2_1, c2_2, c2_3, c2_4, c2_5⟩ := cs6 F2; clear c3_0 c3_1 c3_2 c3_3 c3_4 c3_5; obtain ⟨c3_0, c3_1, c3_2, c3_3, c3_4, c3_5⟩ := cs6 F3; clear hk y0 z0 y1 z1)
      | (go_at_call 12; with_reducible refine cl (spec_StateValid.M a b _ _ ps _ _ ss true c _ (cb HRP B) (cb HRS B)) B fun w307 hb B => ?_; replace F2 := bn F2 hb; replace F3 := bn F3 hb; replace F4 := bn F4 hb; clear c2_0 c2_1 c2_2 c2_3 c2_4 c2_5; obtain ⟨c2_0, c2_1, c2_2, c2_3, c2_4, c2_5⟩ := cs6 F2; clear c3_0 c3_1 c3_2 c3_3 c3_4 c3_5; obtain ⟨c3_0, c3_1, c3_2, c3_3, c3_4, c3_5⟩ := cs6 F3; clear hb)
      | (go_at_call 12; with_reducible refine cl (spec_StateValid.M lo hi _ _ qs _ _ us true ct _ (cb HRQ B) (cb HRU B)) B fun w308 hb B => ?_; replace F2 := bn F2 hb; replace F3 := bn F3 hb; replace F4 := bn F4 hb; clear c2_0 c2_1 c2_2 c2_3 c2_4 c2_5; obtain ⟨c2_0, c2_1, c2_2, c2_3, c2_4, c2_5⟩ := cs6 F2; clear c3_0 c3_1 c3_2 c3_3 c3_4 c3_5; obtain ⟨c3_0, c3_1, c3_2, c3_3, c3_4, c3_5⟩ := cs6 F3; clear hb)
      | ((with_reducible refine gate_store (t := 34) (p := 4) rfl ?_); obtain ⟨y0, y1, y2, y3, y4, y5⟩ := cs6 F4; have z0 := fz F4 0; have z1 := fz F4 1; have z2 := fz F4 2; have z3 := fz F4 3; have z4 := fz F4 4; have z5 := fz F4 5; refine sx (t := 34) (t' := 34) (p := 4) (v := ?vo309) ?hg ?ho ?hn 0 [.string (⟨#[]⟩ : ByteArray), .string (⟨#[]⟩ : ByteArray), .slice none 0 0, .slice none 0 0, .bool false, .string (⟨#[]⟩ : ByteArray)] [.string (⟨#[]⟩ : ByteArray), .string (⟨#[]⟩ : ByteArray), .slice none 0 0, .slice none 0 0, .bool false, .string (⟨#[]⟩ : ByteArray)] ?hr B F4 L4 rfl (Nat.le_of_ble_eq_true rfl) ?_; (case ho => rfl); (case hg => rfl); (case hn => rfl); (case hr => first | (go_simp; done) | (go_simp; rfl)); intro w309 hk B G; replace F2 := bk F2 hk N2_4.out; replace F3 := bk F3 hk N3_4.out; replace F4 := G; clear hk y0 z0 y1 z1 y2 z2 y3 z3 y4 z4 y5 z5))
     all_goals (refine bodyPost_ret (results_list (rs := [.cell 4 34, .tmp 5]) rfl (by simp) (.cell g4 34 _ (0, 0) _ rfl F4.out hu rfl (by kernel_rfl) (.tmp .nil))) rfl ?_; exact ⟨_, _, rfl, Kd.R_nil _ _ _ _ _, Kd.R_nil _ _ _ _ _, B.out⟩)
    | true =>
     cases hpj : pjB ps qs with
     | false =>
      rw [sj_bad (show joinOk ⟨a, b, ps, ss, true, c⟩ ⟨lo, hi, qs, us, true, ct⟩ = false by unfold joinOk SM.ok; rw [hs, hu_, hij, hpj, decide_eq_true hc0, decide_eq_true hh0]; rfl)]
      go_enter Try.func41, Try.ntmps41
      go_wp2_with (first
       | ((with_reducible refine gate_dst (N := 2) rfl ?_); refine bx ?hg (N := 2) ?hd (cs := #[.string a, .string b, .slice AP ps.length cP, .slice AS ss.length cS, .bool true, .string c]) (t := 34) ?hr B ?_; (case hd => rfl); (case hg => rfl); (case hr => first | (go_simp; done) | (go_simp; rfl)); intro g2 w401 hb B F2 L2 E2; obtain ⟨c2_0, c2_1, c2_2, c2_3, c2_4, c2_5⟩ := cs6 F2; clear hb E2)
       | ((with_reducible refine gate_dst (N := 3) rfl ?_); refine bx ?hg (N := 3) ?hd (cs := #[.string lo, .string hi, .slice AQ qs.length cQ, .slice AU us.length cU, .bool true, .string ct]) (t := 34) ?hr B ?_; (case hd => rfl); (case hg => rfl); (case hr => first | (go_simp; done) | (go_simp; rfl)); intro g3 w402 hb B F3 L3 E3; replace F2 := bn F2 hb; clear c2_0 c2_1 c2_2 c2_3 c2_4 c2_5; obtain ⟨c2_0, c2_1, c2_2, c2_3, c2_4, c2_5⟩ := cs6 F2; obtain ⟨c3_0, c3_1, c3_2, c3_3, c3_4, c3_5⟩ := cs6 F3; clear hb E3)
       | ((with_reducible refine gate_dst (N := 4) rfl ?_); refine bx ?hg (N := 4) ?hd (cs := #[.string (⟨#[]⟩ : ByteArray), .string (⟨#[]⟩ : ByteArray), .slice none 0 0, .slice none 0 0, .bool false, .string (⟨#[]⟩ : ByteArray)]) (t := 34) ?hr B ?_; (case hd => rfl); (case hg => rfl); (case hr => first | (go_simp; done) | (go_simp; rfl)); intro g4 w403 hb B F4 L4 E4; have N2_4 := ne1 E4 F2; have N3_4 := ne1 E4 F3; replace F2 := bn F2 hb; replace F3 := bn F3 hb; clear c2_0 c2_1 c2_2 c2_3 c2_4 c2_5; obtain ⟨c2_0, c2_1, c2_2, c2_3, c2_4, c2_5⟩ := cs6 F2; clear c3_0 c3_1 c3_2 c3_3 c3_4 c3_5; obtain ⟨c3_0, c3_1, c3_2, c3_3, c3_4, c3_5⟩ := cs6 F3; clear hb E4)
       | (go_at_call 84; with_reducible refine cl (spec_IntervalJoin.Mt a b lo hi hij _) B fun w404 hb B => ?_; replace F2 := bn F2 hb; replace F3 := bn F3 hb; replace F4 := bn F4 hb; clear c2_0 c2_1 c2_2 c2_3 c2_4 c2_5; obtain ⟨c2_0, c2_1, c2_2, c2_3, c2_4, c2_5⟩ := cs6 F2; clear c3_0 c3_1 c3_2 c3_3 c3_4 c3_5; obtain ⟨c3_0, c3_1, c3_2, c3_3, c3_4, c3_5⟩ := cs6 F3; clear hb)
       | ((with_reducible refine gate_dst (N := 6) rfl ?_); refine bx ?hg (N := 6) ?hd (cs := #[.string (⟨#[]⟩ : ByteArray), .string (⟨#[]⟩ : ByteArray)]) (t := 30) ?hr B ?_; (case hd => rfl); (case hg => rfl); (case hr => first | (go_simp; done) | (go_simp; rfl)); intro g6 w405 hb B F6 L6 E6; have N2_6 := ne1 E6 F2; have N3_6 := ne1 E6 F3; have N4_6 := ne1 E6 F4; replace F2 := bn F2 hb; replace F3 := bn F3 hb; replace F4 := bn F4 hb; clear c2_0 c2_1 c2_2 c2_3 c2_4 c2_5; obtain ⟨c2_0, c2_1, c2_2, c2_3, c2_4, c2_5⟩ := cs6 F2; clear c3_0 c3_1 c3_2 c3_3 c3_4 c3_5; obtain ⟨c3_0, c3_1, c3_2, c3_3, c3_4, c3_5⟩ := cs6 F3; clear hb E6)
       | ((with_reducible refine gate_store (t := 30) (p := 6) rfl ?_); obtain ⟨y0, y1⟩ := cs2 F6; have z0 := fz F6 0; have z1 := fz F6 1; refine sx (t := 30) (t' := 30) (p := 6) (v := ?vo406) ?hg ?ho ?hn 0 [.string a, .string hi] [.string a, .string hi] ?hr B F6 L6 rfl (Nat.le_of_ble_eq_true rfl) ?_; (case ho => rfl); (case hg => rfl); (case hn => rfl); (case hr => first | (go_simp; done) | (go_simp; rfl)); intro w406 hk B G; replace F2 := bk F2 hk N2_6.out; replace F3 := bk F3 hk N3_6.out; replace F4 := bk F4 hk N4_6.out; replace F6 := G; clear c2_0 c2_1 c2_2 c2_3 c2_4 c2_5; obtain ⟨c2_0, c2_1, c2_2, c2_3, c2_4, c2_5⟩ := cs6 F2; clear c3_0 c3_1 c3_2 c3_3 c3_4 c3_5; obtain ⟨c3_0, c3_1, c3_2, c3_3, c3_4, c3_5⟩ := cs6 F3; clear hk y0 z0 y1 z1)
       | (go_at_call 12; with_reducible refine cl (spec_StateValid.M a b _ _ ps _ _ ss true c _ (cb HRP B) (cb HRS B)) B fun w407 hb B => ?_; replace F2 := bn F2 hb; replace F3 := bn F3 hb; replace F4 := bn F4 hb; clear c2_0 c2_1 c2_2 c2_3 c2_4 c2_5; obtain ⟨c2_0, c2_1, c2_2, c2_3, c2_4, c2_5⟩ := cs6 F2; clear c3_0 c3_1 c3_2 c3_3 c3_4 c3_5; obtain ⟨c3_0, c3_1, c3_2, c3_3, c3_4, c3_5⟩ := cs6 F3; clear hb)
       | (go_at_call 12; with_reducible refine cl (spec_StateValid.M lo hi _ _ qs _ _ us true ct _ (cb HRQ B) (cb HRU B)) B fun w408 hb B => ?_; replace F2 := bn F2 hb; replace F3 := bn F3 hb; replace F4 := bn F4 hb; clear c2_0 c2_1 c2_2 c2_3 c2_4 c2_5; obtain ⟨c2_0, c2_1, c2_2, c2_3, c2_4, c2_5⟩ := cs6 F2; clear c3_0 c3_1 c3_2 c3_3 c3_4 c3_5; obtain ⟨c3_0, c3_1, c3_2, c3_3, c3_4, c3_5⟩ := cs6 F3; clear hb)
       | (go_at_call 85; with_reducible refine crz (spec_PairsJoin.Mf _ _ ps _ _ qs hpj _ (cb HRP B) HCP.out (cb HRQ B) HCQ.out (by omega) (by omega)) B fun zJ409 hzJ409 AJ409 kJ409 w409 hb B RJ409 QJ409 => ?_; replace F2 := bn F2 hb; replace F3 := bn F3 hb; replace F4 := bn F4 hb; clear QJ409; clear hb)
       | ((with_reducible refine gate_store (t := 34) (p := 4) rfl ?_); obtain ⟨y0, y1, y2, y3, y4, y5⟩ := cs6 F4; have z0 := fz F4 0; have z1 := fz F4 1; have z2 := fz F4 2; have z3 := fz F4 3; have z4 := fz F4 4; have z5 := fz F4 5; refine sx (t := 34) (t' := 34) (p := 4) (v := ?vo410) ?hg ?ho ?hn 0 [.string (⟨#[]⟩ : ByteArray), .string (⟨#[]⟩ : ByteArray), .slice none 0 0, .slice none 0 0, .bool false, .string (⟨#[]⟩ : ByteArray)] [.string (⟨#[]⟩ : ByteArray), .string (⟨#[]⟩ : ByteArray), .slice none 0 0, .slice none 0 0, .bool false, .string (⟨#[]⟩ : ByteArray)] ?hr B F4 L4 rfl (Nat.le_of_ble_eq_true rfl) ?_; (case ho => rfl); (case hg => rfl); (case hn => rfl); (case hr => first | (go_simp; done) | (go_simp; rfl)); intro w410 hk B G; replace F2 := bk F2 hk N2_4.out; replace F3 := bk F3 hk N3_4.out; replace RJ409 := rk RJ409 F4 (by decide) hk; replace F4 := G; clear hk y0 z0 y1 z1 y2 z2 y3 z3 y4 z4 y5 z5))
      all_goals (refine bodyPost_ret (results_list (rs := [.cell 4 34, .tmp 5]) rfl (by simp) (.cell g4 34 _ (0, 0) _ rfl F4.out hu rfl (by kernel_rfl) (.tmp .nil))) rfl ?_; exact ⟨_, _, rfl, Kd.R_nil _ _ _ _ _, Kd.R_nil _ _ _ _ _, B.out⟩)
     | true =>
      rw [sj_good (show joinOk ⟨a, b, ps, ss, true, c⟩ ⟨lo, hi, qs, us, true, ct⟩ = true by unfold joinOk SM.ok; rw [hs, hu_, hij, hpj, decide_eq_true hc0, decide_eq_true hh0]; rfl)]
      go_enter Try.func41, Try.ntmps41
      go_wp2_with (first
       | ((with_reducible refine gate_dst (N := 2) rfl ?_); refine bx ?hg (N := 2) ?hd (cs := #[.string a, .string b, .slice AP ps.length cP, .slice AS ss.length cS, .bool true, .string c]) (t := 34) ?hr B ?_; (case hd => rfl); (case hg => rfl); (case hr => first | (go_simp; done) | (go_simp; rfl)); intro g2 w501 hb B F2 L2 E2; obtain ⟨c2_0, c2_1, c2_2, c2_3, c2_4, c2_5⟩ := cs6 F2; clear hb E2)
       | ((with_reducible refine gate_dst (N := 3) rfl ?_); refine bx ?hg (N := 3) ?hd (cs := #[.string lo, .string hi, .slice AQ qs.length cQ, .slice AU us.length cU, .bool true, .string ct]) (t := 34) ?hr B ?_; (case hd => rfl); (case hg => rfl); (case hr => first | (go_simp; done) | (go_simp; rfl)); intro g3 w502 hb B F3 L3 E3; replace F2 := bn F2 hb; clear c2_0 c2_1 c2_2 c2_3 c2_4 c2_5; obtain ⟨c2_0, c2_1, c2_2, c2_3, c2_4, c2_5⟩ := cs6 F2; obtain ⟨c3_0, c3_1, c3_2, c3_3, c3_4, c3_5⟩ := cs6 F3; clear hb E3)
       | ((with_reducible refine gate_dst (N := 4) rfl ?_); refine bx ?hg (N := 4) ?hd (cs := #[.string (⟨#[]⟩ : ByteArray), .string (⟨#[]⟩ : ByteArray), .slice none 0 0, .slice none 0 0, .bool false, .string (⟨#[]⟩ : ByteArray)]) (t := 34) ?hr B ?_; (case hd => rfl); (case hg => rfl); (case hr => first | (go_simp; done) | (go_simp; rfl)); intro g4 w503 hb B F4 L4 E4; have N2_4 := ne1 E4 F2; have N3_4 := ne1 E4 F3; replace F2 := bn F2 hb; replace F3 := bn F3 hb; clear c2_0 c2_1 c2_2 c2_3 c2_4 c2_5; obtain ⟨c2_0, c2_1, c2_2, c2_3, c2_4, c2_5⟩ := cs6 F2; clear c3_0 c3_1 c3_2 c3_3 c3_4 c3_5; obtain ⟨c3_0, c3_1, c3_2, c3_3, c3_4, c3_5⟩ := cs6 F3; clear hb E4)
       | (go_at_call 84; with_reducible refine cl (spec_IntervalJoin.Mt a b lo hi hij _) B fun w504 hb B => ?_; replace F2 := bn F2 hb; replace F3 := bn F3 hb; replace F4 := bn F4 hb; clear c2_0 c2_1 c2_2 c2_3 c2_4 c2_5; obtain ⟨c2_0, c2_1, c2_2, c2_3, c2_4, c2_5⟩ := cs6 F2; clear c3_0 c3_1 c3_2 c3_3 c3_4 c3_5; obtain ⟨c3_0, c3_1, c3_2, c3_3, c3_4, c3_5⟩ := cs6 F3; clear hb)
       | ((with_reducible refine gate_dst (N := 6) rfl ?_); refine bx ?hg (N := 6) ?hd (cs := #[.string (⟨#[]⟩ : ByteArray), .string (⟨#[]⟩ : ByteArray)]) (t := 30) ?hr B ?_; (case hd => rfl); (case hg => rfl); (case hr => first | (go_simp; done) | (go_simp; rfl)); intro g6 w505 hb B F6 L6 E6; have N2_6 := ne1 E6 F2; have N3_6 := ne1 E6 F3; have N4_6 := ne1 E6 F4; replace F2 := bn F2 hb; replace F3 := bn F3 hb; replace F4 := bn F4 hb; clear c2_0 c2_1 c2_2 c2_3 c2_4 c2_5; obtain ⟨c2_0, c2_1, c2_2, c2_3, c2_4, c2_5⟩ := cs6 F2; clear c3_0 c3_1 c3_2 c3_3 c3_4 c3_5; obtain ⟨c3_0, c3_1, c3_2, c3_3, c3_4, c3_5⟩ := cs6 F3; obtain ⟨c6_0, c6_1⟩ := cs2 F6; clear hb E6)
       | ((with_reducible refine gate_store (t := 30) (p := 6) rfl ?_); obtain ⟨y0, y1⟩ := cs2 F6; have z0 := fz F6 0; have z1 := fz F6 1; refine sx (t := 30) (t' := 30) (p := 6) (v := ?vo506) ?hg ?ho ?hn 0 [.string a, .string hi] [.string a, .string hi] ?hr B F6 L6 rfl (Nat.le_of_ble_eq_true rfl) ?_; (case ho => rfl); (case hg => rfl); (case hn => rfl); (case hr => first | (go_simp; done) | (go_simp; rfl)); intro w506 hk B G; replace F2 := bk F2 hk N2_6.out; replace F3 := bk F3 hk N3_6.out; replace F4 := bk F4 hk N4_6.out; replace F6 := G; clear c2_0 c2_1 c2_2 c2_3 c2_4 c2_5; obtain ⟨c2_0, c2_1, c2_2, c2_3, c2_4, c2_5⟩ := cs6 F2; clear c3_0 c3_1 c3_2 c3_3 c3_4 c3_5; obtain ⟨c3_0, c3_1, c3_2, c3_3, c3_4, c3_5⟩ := cs6 F3; clear c6_0 c6_1; obtain ⟨c6_0, c6_1⟩ := cs2 F6; clear hk y0 z0 y1 z1)
       | (go_at_call 12; with_reducible refine cl (spec_StateValid.M a b _ _ ps _ _ ss true c _ (cb HRP B) (cb HRS B)) B fun w507 hb B => ?_; replace F2 := bn F2 hb; replace F3 := bn F3 hb; replace F4 := bn F4 hb; replace F6 := bn F6 hb; clear c2_0 c2_1 c2_2 c2_3 c2_4 c2_5; obtain ⟨c2_0, c2_1, c2_2, c2_3, c2_4, c2_5⟩ := cs6 F2; clear c3_0 c3_1 c3_2 c3_3 c3_4 c3_5; obtain ⟨c3_0, c3_1, c3_2, c3_3, c3_4, c3_5⟩ := cs6 F3; clear c6_0 c6_1; obtain ⟨c6_0, c6_1⟩ := cs2 F6; clear hb)
       | (go_at_call 12; with_reducible refine cl (spec_StateValid.M lo hi _ _ qs _ _ us true ct _ (cb HRQ B) (cb HRU B)) B fun w508 hb B => ?_; replace F2 := bn F2 hb; replace F3 := bn F3 hb; replace F4 := bn F4 hb; replace F6 := bn F6 hb; clear c2_0 c2_1 c2_2 c2_3 c2_4 c2_5; obtain ⟨c2_0, c2_1, c2_2, c2_3, c2_4, c2_5⟩ := cs6 F2; clear c3_0 c3_1 c3_2 c3_3 c3_4 c3_5; obtain ⟨c3_0, c3_1, c3_2, c3_3, c3_4, c3_5⟩ := cs6 F3; clear c6_0 c6_1; obtain ⟨c6_0, c6_1⟩ := cs2 F6; clear hb)
       | (go_at_call 85; with_reducible refine crz (spec_PairsJoin.Mt _ _ ps _ _ qs hpj _ (cb HRP B) HCP.out (cb HRQ B) HCQ.out (by omega) (by omega)) B fun zJ509 hzJ509 AJ509 kJ509 w509 hb B RJ509 QJ509 => ?_; replace F2 := bn F2 hb; replace F3 := bn F3 hb; replace F4 := bn F4 hb; replace F6 := bn F6 hb; clear QJ509; clear c2_0 c2_1 c2_2 c2_3 c2_4 c2_5; obtain ⟨c2_0, c2_1, c2_2, c2_3, c2_4, c2_5⟩ := cs6 F2; clear c3_0 c3_1 c3_2 c3_3 c3_4 c3_5; obtain ⟨c3_0, c3_1, c3_2, c3_3, c3_4, c3_5⟩ := cs6 F3; clear c6_0 c6_1; obtain ⟨c6_0, c6_1⟩ := cs2 F6; clear hb))
      all_goals (
       refine rg (n := 10) (S := fun W => W.heap[g6]? = some (.cells #[.string a, .string hi] 30 (0, 0)) ∧ W.heap[g2]? = some (.cells #[.string a, .string b, .slice AP ps.length cP, .slice AS ss.length cS, .bool true, .string c] 34 (0, 0)) ∧ W.heap[g3]? = some (.cells #[.string lo, .string hi, .slice AQ qs.length cQ, .slice AU us.length cU, .bool true, .string ct] 34 (0, 0))) (ds := []) #[false, false, false, false, false, false, false, false, false, false] (by kernel_rfl) rfl rfl ⟨F6.out, F2.out, F3.out⟩ id B (fun w510 hb B hHeld => ?_)
       refine with_tabW spec_StateJoin.tab7 spec_StateJoin.bits7 (fun HT_ HW_ => ?_)
       replace F2 := bn F2 hb
       replace F3 := bn F3 hb
       replace F4 := bn F4 hb
       replace F6 := bn F6 hb
       replace RJ509 := rn RJ509 hb
       clear hb
       refine ta (i := 0) (N := some 62) (v := ?_) (bits 10 1) rfl rfl (take_ofW HT_.out HW_.out (by kernel_rfl)) (fun _ _ _ h => h) (by kernel_rfl) hHeld ?_ ?_; rotate_left; (intro w' hS; obtain ⟨s0, s1, s2⟩ := hS; obtain ⟨q0, q1⟩ := cs2 (Aside0.mk s0); go_simp; with_reducible rfl)
       refine pu (i := 1) (N := some 63) (v := ?_) (bits 10 3) rfl rfl (any_of HT_.out (by kernel_rfl)) (fun _ _ _ h => h) (by kernel_rfl) ?_ ?_; rotate_left; (intro w'; go_simp; with_reducible rfl)
       refine pu (i := 2) (N := some 64) (v := ?_) (bits 10 7) rfl rfl (any_of HT_.out (by kernel_rfl)) (fun _ _ _ h => h) (by kernel_rfl) ?_ ?_; rotate_left; (intro w'; go_simp; with_reducible rfl)
       refine ta (i := 3) (N := some 65) (v := ?_) (bits 10 15) rfl rfl (take_ofW HT_.out HW_.out (by kernel_rfl)) (fun _ _ _ h => h) (by kernel_rfl) hHeld ?_ ?_; rotate_left; (intro w' hS; obtain ⟨s0, s1, s2⟩ := hS; obtain ⟨q0, q1, q2, q3, q4, q5⟩ := cs6 (Aside0.mk s1); go_simp; with_reducible rfl)
       refine pu (i := 4) (N := some 66) (v := ?_) (bits 10 31) rfl rfl (any_of HT_.out (by kernel_rfl)) (fun _ _ _ h => h) (by kernel_rfl) ?_ ?_; rotate_left; (intro w'; go_simp; with_reducible rfl)
       refine ta (i := 5) (N := some 67) (v := ?_) (bits 10 63) rfl rfl (take_ofW HT_.out HW_.out (by kernel_rfl)) (fun _ _ _ h => h) (by kernel_rfl) hHeld ?_ ?_; rotate_left; (intro w' hS; obtain ⟨s0, s1, s2⟩ := hS; obtain ⟨q0, q1, q2, q3, q4, q5⟩ := cs6 (Aside0.mk s2); go_simp; with_reducible rfl)
       refine norm_ (a' := ?_) ?_ ?_
       rotate_left
       ·simp only [Act.put, List.setIfInBounds_toArray, List.set_cons_zero, List.set_cons_succ, i64_w, i32_w]
        rfl
       refine one_ (i := 6) (N := some 68) (bits 10 127) rfl rfl (one_of HT_.out (by kernel_rfl)) (by decide) (fun K hK => ?_)
       refine goes_ Try.func86 (by kernel_rfl) rfl #[.slice AS ss.length cS, .slice AU us.length cU] (by rfl) rfl rfl (by (try simp only [List.map_toArray, List.map_cons, List.map_nil]); rfl) ?_
       with_reducible refine cr (spec_SessionsJoin.M _ _ ss _ _ us _ (cb HRS B) HCS.out (cb HRU B) HCU.out) B fun AJ511 kJ511 w511 hb B RJ511 QJ511 => ?_
       replace F2 := bn F2 hb
       replace F3 := bn F3 hb
       replace F4 := bn F4 hb
       replace F6 := bn F6 hb
       replace RJ509 := rn RJ509 hb
       clear hb
       refine ⟨_, rfl, ?_⟩
       refine hK.out _ _ ⟨F6.out, F2.out, F3.out⟩ (fun hHeld => ?_)
       clear hK K
       refine norm_ (a' := ?_) ?_ ?_
       rotate_left
       ·show Act.put _ (some 68) _ = _
        simp only [Act.put, List.setIfInBounds_toArray, List.set_cons_zero, List.set_cons_succ, i64_w, i32_w]
        rfl
       clear QJ511
       refine pu (i := 7) (N := some 69) (v := ?_) (bits 10 255) rfl rfl (any_of HT_.out (by kernel_rfl)) (fun _ _ _ h => h) (by kernel_rfl) ?_ ?_; rotate_left; (intro w'; go_simp; with_reducible rfl)
       refine norm_ (a' := ?_) ?_ ?_
       rotate_left
       ·simp only [Act.put, List.setIfInBounds_toArray, List.set_cons_zero, List.set_cons_succ, i64_w, i32_w]
        rfl
       refine one_ (i := 8) (N := none) (bits 10 511) rfl rfl (one_of HT_.out (by kernel_rfl)) (by decide) (fun K hK => ?_)
       obtain ⟨y0, y1, y2, y3, y4, y5⟩ := cs6 F4
       have z0 := fz F4 0
       have z1 := fz F4 1
       have z2 := fz F4 2
       have z3 := fz F4 3
       have z4 := fz F4 4
       have z5 := fz F4 5
       refine sxs (g := g4) 0 [.string a, .string hi, .slice AJ509 zJ509.length kJ509, .slice AJ511 (joinB ss us).length kJ511, .bool false, .string (⟨#[]⟩ : ByteArray)] [.string a, .string hi, .slice AJ509 zJ509.length kJ509, .slice AJ511 (joinB ss us).length kJ511, .bool false, .string (⟨#[]⟩ : ByteArray)] (by rfl) rfl ?hr B F4 L4 rfl (Nat.le_of_ble_eq_true rfl) (fun w512 hk B G => ?_)
       (case hr => first | (go_simp; done) | (go_simp; rfl))
       replace F2 := bk F2 hk N2_4.out
       replace F3 := bk F3 hk N3_4.out
       replace F6 := bk F6 hk N4_6.out.symm
       replace RJ509 := rk RJ509 F4 (by decide) hk
       replace RJ511 := rk RJ511 F4 (by decide) hk
       replace F4 := G
       clear hk y0 z0 y1 z1 y2 z2 y3 z3 y4 z4 y5 z5
       refine hK.out _ _ ⟨F6.out, F2.out, F3.out⟩ (fun hHeld => ?_)
       clear hK K
       refine pu (i := 9) (N := some 5) (v := ?_) (bits 10 1023) rfl rfl (any_of HT_.out (by kernel_rfl)) (fun _ _ _ h => h) (by kernel_rfl) ?_ ?_; rotate_left; (intro w'; go_simp; with_reducible rfl)
       refine norm_ (a' := ?_) ?_ ?_
       rotate_left
       ·simp only [Act.put, List.setIfInBounds_toArray, List.set_cons_zero, List.set_cons_succ, i64_w, i32_w]
        rfl
       refine done_ (done_of HT_.out (by kernel_rfl)) ?_)
      all_goals try go_wp2
      all_goals (refine bodyPost_ret (results_list (rs := [.cell 4 34, .tmp 5]) rfl (by simp) (.cell g4 34 _ (0, 0) _ rfl F4.out hu rfl (by kernel_rfl) (.tmp .nil))) rfl ?_; subst hzJ509; exact ⟨_, _, rfl, RJ509.out, RJ511.out, B.out⟩)
   ·rw [sj_bad (show joinOk ⟨a, b, ps, ss, t, c⟩ ⟨lo, hi, qs, us, u2, ct⟩ = false by cases hj : joinOk ⟨a, b, ps, ss, t, c⟩ ⟨lo, hi, qs, us, u2, ct⟩ with | false => rfl | true => exact absurd (by obtain ⟨_, _, h1, h2, h3, h4, _⟩ := joinOk_parts hj; exact ⟨⟨h1, h2⟩, h3, h4⟩) hfl)]
    go_enter Try.func41, Try.ntmps41
    go_wp2_with (first
     | ((with_reducible refine gate_dst (N := 2) rfl ?_); refine bx ?hg (N := 2) ?hd (cs := #[.string a, .string b, .slice AP ps.length cP, .slice AS ss.length cS, .bool t, .string c]) (t := 34) ?hr B ?_; (case hd => rfl); (case hg => rfl); (case hr => first | (go_simp; done) | (go_simp; rfl)); intro g2 w201 hb B F2 L2 E2; obtain ⟨c2_0, c2_1, c2_2, c2_3, c2_4, c2_5⟩ := cs6 F2; clear hb E2)
     | ((with_reducible refine gate_dst (N := 3) rfl ?_); refine bx ?hg (N := 3) ?hd (cs := #[.string lo, .string hi, .slice AQ qs.length cQ, .slice AU us.length cU, .bool u2, .string ct]) (t := 34) ?hr B ?_; (case hd => rfl); (case hg => rfl); (case hr => first | (go_simp; done) | (go_simp; rfl)); intro g3 w202 hb B F3 L3 E3; replace F2 := bn F2 hb; clear c2_0 c2_1 c2_2 c2_3 c2_4 c2_5; obtain ⟨c2_0, c2_1, c2_2, c2_3, c2_4, c2_5⟩ := cs6 F2; obtain ⟨c3_0, c3_1, c3_2, c3_3, c3_4, c3_5⟩ := cs6 F3; clear hb E3)
     | ((with_reducible refine gate_dst (N := 4) rfl ?_); refine bx ?hg (N := 4) ?hd (cs := #[.string (⟨#[]⟩ : ByteArray), .string (⟨#[]⟩ : ByteArray), .slice none 0 0, .slice none 0 0, .bool false, .string (⟨#[]⟩ : ByteArray)]) (t := 34) ?hr B ?_; (case hd => rfl); (case hg => rfl); (case hr => first | (go_simp; done) | (go_simp; rfl)); intro g4 w203 hb B F4 L4 E4; have N2_4 := ne1 E4 F2; have N3_4 := ne1 E4 F3; replace F2 := bn F2 hb; replace F3 := bn F3 hb; clear c2_0 c2_1 c2_2 c2_3 c2_4 c2_5; obtain ⟨c2_0, c2_1, c2_2, c2_3, c2_4, c2_5⟩ := cs6 F2; clear c3_0 c3_1 c3_2 c3_3 c3_4 c3_5; obtain ⟨c3_0, c3_1, c3_2, c3_3, c3_4, c3_5⟩ := cs6 F3; clear hb E4)
     | (go_at_call 84; with_reducible refine cl (spec_IntervalJoin.M a b lo hi _) B fun w204 hb B => ?_; replace F2 := bn F2 hb; replace F3 := bn F3 hb; replace F4 := bn F4 hb; clear c2_0 c2_1 c2_2 c2_3 c2_4 c2_5; obtain ⟨c2_0, c2_1, c2_2, c2_3, c2_4, c2_5⟩ := cs6 F2; clear c3_0 c3_1 c3_2 c3_3 c3_4 c3_5; obtain ⟨c3_0, c3_1, c3_2, c3_3, c3_4, c3_5⟩ := cs6 F3; clear hb)
     | ((with_reducible refine gate_dst (N := 6) rfl ?_); refine bx ?hg (N := 6) ?hd (cs := #[.string (⟨#[]⟩ : ByteArray), .string (⟨#[]⟩ : ByteArray)]) (t := 30) ?hr B ?_; (case hd => rfl); (case hg => rfl); (case hr => first | (go_simp; done) | (go_simp; rfl)); intro g6 w205 hb B F6 L6 E6; have N2_6 := ne1 E6 F2; have N3_6 := ne1 E6 F3; have N4_6 := ne1 E6 F4; replace F2 := bn F2 hb; replace F3 := bn F3 hb; replace F4 := bn F4 hb; clear c2_0 c2_1 c2_2 c2_3 c2_4 c2_5; obtain ⟨c2_0, c2_1, c2_2, c2_3, c2_4, c2_5⟩ := cs6 F2; clear c3_0 c3_1 c3_2 c3_3 c3_4 c3_5; obtain ⟨c3_0, c3_1, c3_2, c3_3, c3_4, c3_5⟩ := cs6 F3; clear hb E6)
     | ((with_reducible refine gate_store (t := 30) (p := 6) rfl ?_); obtain ⟨y0, y1⟩ := cs2 F6; have z0 := fz F6 0; have z1 := fz F6 1; refine sx (t := 30) (t' := 30) (p := 6) (v := ?vo206) ?hg ?ho ?hn 0 [.string (ijM a b lo hi).1, .string (ijM a b lo hi).2.1] [.string (ijM a b lo hi).1, .string (ijM a b lo hi).2.1] ?hr B F6 L6 rfl (Nat.le_of_ble_eq_true rfl) ?_; (case ho => rfl); (case hg => rfl); (case hn => rfl); (case hr => first | (go_simp; done) | (go_simp; rfl)); intro w206 hk B G; replace F2 := bk F2 hk N2_6.out; replace F3 := bk F3 hk N3_6.out; replace F4 := bk F4 hk N4_6.out; replace F6 := G; clear c2_0 c2_1 c2_2 c2_3 c2_4 c2_5; obtain ⟨c2_0, c2_1, c2_2, c2_3, c2_4, c2_5⟩ := cs6 F2; clear c3_0 c3_1 c3_2 c3_3 c3_4 c3_5; obtain ⟨c3_0, c3_1, c3_2, c3_3, c3_4, c3_5⟩ := cs6 F3; clear hk y0 z0 y1 z1)
     | (go_at_call 12; with_reducible refine cl (spec_StateValid.M a b _ _ ps _ _ ss t c _ (cb HRP B) (cb HRS B)) B fun w207 hb B => ?_; replace F2 := bn F2 hb; replace F3 := bn F3 hb; replace F4 := bn F4 hb; clear c2_0 c2_1 c2_2 c2_3 c2_4 c2_5; obtain ⟨c2_0, c2_1, c2_2, c2_3, c2_4, c2_5⟩ := cs6 F2; clear c3_0 c3_1 c3_2 c3_3 c3_4 c3_5; obtain ⟨c3_0, c3_1, c3_2, c3_3, c3_4, c3_5⟩ := cs6 F3; clear hb)
     | (go_at_call 12; with_reducible refine cl (spec_StateValid.M lo hi _ _ qs _ _ us u2 ct _ (cb HRQ B) (cb HRU B)) B fun w208 hb B => ?_; replace F2 := bn F2 hb; replace F3 := bn F3 hb; replace F4 := bn F4 hb; clear c2_0 c2_1 c2_2 c2_3 c2_4 c2_5; obtain ⟨c2_0, c2_1, c2_2, c2_3, c2_4, c2_5⟩ := cs6 F2; clear c3_0 c3_1 c3_2 c3_3 c3_4 c3_5; obtain ⟨c3_0, c3_1, c3_2, c3_3, c3_4, c3_5⟩ := cs6 F3; clear hb)
     | ((with_reducible refine gate_store (t := 34) (p := 4) rfl ?_); obtain ⟨y0, y1, y2, y3, y4, y5⟩ := cs6 F4; have z0 := fz F4 0; have z1 := fz F4 1; have z2 := fz F4 2; have z3 := fz F4 3; have z4 := fz F4 4; have z5 := fz F4 5; refine sx (t := 34) (t' := 34) (p := 4) (v := ?vo209) ?hg ?ho ?hn 0 [.string (⟨#[]⟩ : ByteArray), .string (⟨#[]⟩ : ByteArray), .slice none 0 0, .slice none 0 0, .bool false, .string (⟨#[]⟩ : ByteArray)] [.string (⟨#[]⟩ : ByteArray), .string (⟨#[]⟩ : ByteArray), .slice none 0 0, .slice none 0 0, .bool false, .string (⟨#[]⟩ : ByteArray)] ?hr B F4 L4 rfl (Nat.le_of_ble_eq_true rfl) ?_; (case ho => rfl); (case hg => rfl); (case hn => rfl); (case hr => first | (go_simp; done) | (go_simp; rfl)); intro w209 hk B G; replace F2 := bk F2 hk N2_4.out; replace F3 := bk F3 hk N3_4.out; replace F4 := G; clear hk y0 z0 y1 z1 y2 z2 y3 z3 y4 z4 y5 z5))
    all_goals first
     | (refine bodyPost_ret (results_list (rs := [.cell 4 34, .tmp 5]) rfl (by simp) (.cell g4 34 _ (0, 0) _ rfl F4.out hu rfl (by kernel_rfl) (.tmp .nil))) rfl ?_; exact ⟨_, _, rfl, Kd.R_nil _ _ _ _ _, Kd.R_nil _ _ _ _ _, B.out⟩)
     | (exfalso; apply hfl; simp_all)

/-- sessions as cells of a row that is read are sessions as cells of a row of one's own -/
theorem own_Session (W : World) (base : Nat) (x : S100) (cs : List Value) (h : k100.K W x cs) : k100.M W base (fun _ => False) x cs := by
 obtain rfl := k100_open h
 exact k100_mkM _ _ _ x

theorem impl_copyOfSession.M (A0 : Option Addr) (c0 : Nat) (l : List S100) (w : World) (hr0 : Kd.C k100 w A0 l.length l) (hc0 : l.length ≤ c0) (hs : l.length ≤ 1000000) :
  Calls Try.prog 107 #[.slice A0 l.length c0] w fun e w' => ∃ v0_ : Value, e = .returned v0_ ∧ Kd.R k100 100 w' w.heap.size (fun _ => True) v0_ l ∧ Below w.heap.size w w' := by
 have HR0 := Aside0.mk hr0
 clear hr0
 go_enter Try.func107, Try.ntmps107
 go_wp2_with ((with_reducible refine gate_builtin (b := .append) (xs := #[.const (.slice none 0 0), .tmp 3]) rfl ?_); at_builtin; refine Kd.R_append_rows k100 (w0 := w) w.heap.size rfl (.const (.slice none 0 0)) (.tmp 3) 32 100 (.agg #[.int .i64 0, .int .i64 0, .int .i64 0]) 24 rfl Try.underlying32 info100 rfl (by decide) (by omega) (.slice none 0 0) [] l _ _ _ (fun _ => True) (fun _ => False) rfl rfl (Kd.R_nil _ _ _ _ _) HR0.out (fun x cs h => own_Session _ _ x cs h) (fun _ h => h.elim) (fun _ _ => trivial) (Below.refl _ _) (Nat.le_refl _) (by simp only [List.length_nil]; omega) ?_; intro v1 w1 ho hb hg hat; rw [List.nil_append] at ho; have O := Aside0.mk ho; have B := Aside0.mk hb; clear ho hb hg hat)
 go_ret
 exact ⟨_, rfl, O.out, B.out⟩


theorem impl_replacedSession.M (A0 : Option Addr) (c0 : Nat) (l : List S100) (at_ many : Nat) (A1 : Option Addr) (c1 : Nat) (by_ : List S100) (w : World) (hr0 : Kd.C k100 w A0 l.length l) (hc0 : l.length ≤ c0) (hr1 : Kd.C k100 w A1 by_.length by_) (hc1 : by_.length ≤ c1)
  (hs : l.length ≤ 1000000) (hs1 : by_.length ≤ 1000000) (ham : at_ + many ≤ l.length) :
  Calls Try.prog 120 #[.slice A0 l.length c0, .int .i64 (at_ : Int), .int .i64 (many : Int), .slice A1 by_.length c1] w fun e w' => ∃ v0_ : Value, e = .returned v0_ ∧ Kd.R k100 100 w' w.heap.size (fun _ => True) v0_ ((l.take at_ ++ by_) ++ l.drop (at_ + many)) ∧ Below w.heap.size w w' := by
 have HR0 := Aside0.mk hr0
 have HR1 := Aside0.mk hr1
 clear hr0 hr1
 have hsum : (l.length : Int) - (many : Int) + (by_.length : Int) = ((l.length - many + by_.length : Nat) : Int) := by omega
 obtain ⟨i0, hif, _, hsz, _⟩ := info_parts info100
 have hcut1 := cut_to (P := Try.prog) 32 100 .i64 Try.underlying32 hif A0 l.length c0 (at_ : Int) (by omega) (by omega) hc0
 have hcut2 := cut_from (P := Try.prog) 32 100 .i64 Try.underlying32 hif 3 hsz A0 l.length c0 ((at_ : Int) + (many : Int)) (by omega) (by omega)
 rw [Int.toNat_natCast] at hcut1
 rw [show ((at_ : Int) + (many : Int)).toNat = at_ + many by omega] at hcut2
 have C1 := Aside0.mk (fun {W : World} (h : Kd.C k100 W A0 l.length l) => show Kd.C k100 W A0 at_ (l.take at_) from by
  have := Kd.C_take h (m := at_) (by omega)
  rwa [List.length_take, Nat.min_eq_left (by omega)] at this)
 obtain ⟨A2, hA2⟩ : ∃ A2, A2 = (if c0 = at_ + many then A0 else A0.map (·.add ((at_ + many) * 3))) := ⟨_, rfl⟩
 rw [← hA2] at hcut2
 have C2 := Aside0.mk (fun {W : World} (h : Kd.C k100 W A0 l.length l) => show Kd.C k100 W A2 (l.length - (at_ + many)) (l.drop (at_ + many)) from by
  have := Kd.C_drop h (m := at_ + many) (c := c0) (by omega) hc0
  rw [List.length_drop] at this
  rw [hA2]
  exact this)
 have SUM := Aside0.mk hsum
 clear hsum hif hsz hA2
 go_enter Try.func120, Try.ntmps120
 go_wp2_with (first
  | ((with_reducible refine gate_dst (N := 17) rfl ?_); refine make_cap k100 (w0 := w) w.heap.size 100 rfl (N := 17) rfl 32 _ _ rfl (l.length - many + by_.length) rfl (congrArg (Value.int .i64) SUM.out) Try.underlying32 (.agg #[.int .i64 0, .int .i64 0, .int .i64 0]) 24 info100 (by omega) (by omega) (Below.refl _ _) (Nat.le_refl _) ?_; intro v1 w1 ho hb; have O1 := Aside0.mk ho; have B1 := Aside0.mk hb; clear ho hb)
  | ((with_reducible refine gate_builtin (b := .append) (xs := #[.tmp 18, .tmp 21]) rfl ?_); at_builtin; refine Kd.R_append_rows k100 (w0 := w) w.heap.size rfl (.tmp 18) (.tmp 21) 32 100 (.agg #[.int .i64 0, .int .i64 0, .int .i64 0]) 24 rfl Try.underlying32 info100 rfl (by decide) (by omega) v1 [] (l.take at_) _ _ _ (fun _ => True) (fun _ => False) rfl rfl O1.out (C1.out (Kd.C_below HR0.out B1.out)) (fun x cs h => own_Session _ _ x cs h) (fun _ h => h.elim) (fun _ _ => trivial) B1.out (below_size B1.out) (by simp only [List.length_nil]; omega) ?_; intro v2 w2 ho hb hg hat; rw [List.nil_append] at ho; have O2 := Aside0.mk ho; have B2 := Aside0.mk hb; clear ho hb hg hat)
  | ((with_reducible refine gate_builtin (b := .append) (xs := #[.tmp 23, .tmp 24]) rfl ?_); at_builtin; refine Kd.R_append_rows k100 (w0 := w) w.heap.size rfl (.tmp 23) (.tmp 24) 32 100 (.agg #[.int .i64 0, .int .i64 0, .int .i64 0]) 24 rfl Try.underlying32 info100 rfl (by decide) (by omega) v2 (l.take at_) by_ _ _ _ (fun _ => True) (fun _ => False) rfl rfl O2.out (Kd.C_below HR1.out B2.out) (fun x cs h => own_Session _ _ x cs h) (fun _ h => h.elim) (fun _ _ => trivial) B2.out (below_size B2.out) (by simp only [List.length_take]; omega) ?_; intro v3 w3 ho hb hg hat; have O3 := Aside0.mk ho; have B3 := Aside0.mk hb; clear ho hb hg hat)
  | ((with_reducible refine gate_builtin (b := .append) (xs := #[.tmp 26, .tmp 31]) rfl ?_); at_builtin; refine Kd.R_append_rows k100 (w0 := w) w.heap.size rfl (.tmp 26) (.tmp 31) 32 100 (.agg #[.int .i64 0, .int .i64 0, .int .i64 0]) 24 rfl Try.underlying32 info100 rfl (by decide) (by omega) v3 (l.take at_ ++ by_) (l.drop (at_ + many)) _ _ _ (fun _ => True) (fun _ => False) rfl rfl O3.out (C2.out (Kd.C_below HR0.out B3.out)) (fun x cs h => own_Session _ _ x cs h) (fun _ h => h.elim) (fun _ _ => trivial) B3.out (below_size B3.out) (by simp only [List.length_append, List.length_take]; omega) ?_; intro v4 w4 ho hb hg hat; have O4 := Aside0.mk ho; have B4 := Aside0.mk hb; clear ho hb hg hat))
 go_ret
 exact ⟨_, rfl, O4.out, B4.out⟩
theorem impl_replacedSession.M0 (A0 : Option Addr) (c0 : Nat) (l : List S100) (at_ : Nat) (A1 : Option Addr) (c1 : Nat) (by_ : List S100) (w : World) (hr0 : Kd.C k100 w A0 l.length l) (hc0 : l.length ≤ c0) (hr1 : Kd.C k100 w A1 by_.length by_) (hc1 : by_.length ≤ c1) (hs : l.length ≤ 1000000) (hs1 : by_.length ≤ 1000000) (ham : at_ ≤ l.length) : Calls Try.prog 120 #[.slice A0 l.length c0, .int .i64 (at_ : Int), .int .i64 0, .slice A1 by_.length c1] w fun e w' => ∃ v0_ : Value, e = .returned v0_ ∧ Kd.R k100 100 w' w.heap.size (fun _ => True) v0_ ((l.take at_ ++ by_) ++ l.drop at_) ∧ Below w.heap.size w w' := impl_replacedSession.M A0 c0 l at_ 0 A1 c1 by_ w hr0 hc0 hr1 hc1 hs hs1 ham
theorem impl_replacedSession.M1 (A0 : Option Addr) (c0 : Nat) (l : List S100) (at_ : Nat) (A1 : Option Addr) (c1 : Nat) (by_ : List S100) (w : World) (hr0 : Kd.C k100 w A0 l.length l) (hc0 : l.length ≤ c0) (hr1 : Kd.C k100 w A1 by_.length by_) (hc1 : by_.length ≤ c1) (hs : l.length ≤ 1000000) (hs1 : by_.length ≤ 1000000) (ham : at_ + 1 ≤ l.length) : Calls Try.prog 120 #[.slice A0 l.length c0, .int .i64 (at_ : Int), .int .i64 1, .slice A1 by_.length c1] w fun e w' => ∃ v0_ : Value, e = .returned v0_ ∧ Kd.R k100 100 w' w.heap.size (fun _ => True) v0_ ((l.take at_ ++ by_) ++ l.drop (at_ + 1)) ∧ Below w.heap.size w w' := impl_replacedSession.M A0 c0 l at_ 1 A1 c1 by_ w hr0 hc0 hr1 hc1 hs hs1 ham
theorem impl_replacedSession.M1n (A0 : Option Addr) (c0 : Nat) (l : List S100) (at_ : Nat) (w : World) (hr0 : Kd.C k100 w A0 l.length l) (hc0 : l.length ≤ c0) (hs : l.length ≤ 1000000) (ham : at_ + 1 ≤ l.length) : Calls Try.prog 120 #[.slice A0 l.length c0, .int .i64 (at_ : Int), .int .i64 1, .slice none 0 0] w fun e w' => ∃ v0_ : Value, e = .returned v0_ ∧ Kd.R k100 100 w' w.heap.size (fun _ => True) v0_ (l.take at_ ++ l.drop (at_ + 1)) ∧ Below w.heap.size w w' := by
 have h := impl_replacedSession.M A0 c0 l at_ 1 none 0 [] w hr0 hc0 (nilC _ _) (Nat.le_refl 0) hs (by simp) ham
 rw [List.append_nil] at h
 exact h

theorem put_hit {l : List S100} {a b c : Int} (hv : sesB l = true) (ho : okS (⟨a, b, c⟩ : S100) = true) : putB l ⟨a, b, c⟩ = if hitOf l a = true then (if (rd_T100 l ((plOf l a : Nat) : Int)).f1 ≥ b then (l, false) else ((l.take (plOf l a) ++ [⟨a, b, c⟩]) ++ l.drop (plOf l a + 1), true)) else ((l.take (plOf l a) ++ [⟨a, b, c⟩]) ++ l.drop (plOf l a), true) := by
 have hs : sesB [(⟨a, b, c⟩ : S100)] = true := by rw [sesOne]; exact ho
 have hcl := okS_client ho
 have hsq : 1 ≤ b := by unfold okS l1B at ho; simp only [Bool.and_eq_true, decide_eq_true_eq] at ho; omega
 have hor := sesG_order l none hv
 obtain ⟨p1, p2, p3⟩ := placeOf_spec hor a l.length 0 l.length (Nat.zero_le _) (Nat.le_refl _) (by omega) (fun i _ hi => absurd hi (Nat.not_lt_zero _)) (fun i hil hi => by omega)
 have hpl := putL_place (⟨a, b, c⟩ : S100) l (plOf l a) hor p1 p2 p3
 have hq := seq_hit hv hcl
 have hh : hitOf l a = true ↔ ∃ h : plOf l a < l.length, l[plOf l a].f0 = a := by
  constructor
  ·intro h
   obtain ⟨h1, h2⟩ := plhit h
   rw [ses_nat h1] at h2
   exact ⟨h1, h2⟩
  ·rintro ⟨h1, h2⟩
   unfold hitOf
   rw [Bool.and_eq_true, decide_eq_true_eq, decide_eq_true_eq]
   exact ⟨h1, by rw [← ses_nat h1] at h2; exact h2⟩
 unfold putB
 rw [if_pos ⟨hv, hs⟩]
 show (if b ≤ seqB l a then (l, false) else (putL l ⟨a, b, c⟩ false, true)) = _
 rw [hq]
 by_cases hit : hitOf l a = true
 ·rw [if_pos hit, if_pos hit]
  rw [if_pos (hh.mp hit)] at hpl
  by_cases hle : b ≤ (rd_T100 l ((plOf l a : Nat) : Int)).f1
  ·rw [if_pos hle, if_pos (show (rd_T100 l ((plOf l a : Nat) : Int)).f1 ≥ b from hle)]
  ·rw [if_neg hle, if_neg (show ¬ (rd_T100 l ((plOf l a : Nat) : Int)).f1 ≥ b from hle), hpl]
 ·rw [if_neg hit, if_neg hit]
  rw [if_neg (fun h => hit (hh.mpr h))] at hpl
  rw [if_neg (by omega), hpl]
  rfl
def impl_SessionPut.T6 : Bool × List (List Nat × List Nat) := (true, [([], []), ([], []), ([0, 1], [0, 1]), ([2], [2]), ([3], [3]), ([], []), ([5], [5]), ([4, 6], [4, 6])])
def impl_SessionPut.B6 : List Nat := [0, 0, 3, 7, 15, 0, 32, 127]
theorem impl_SessionPut.tab6 : rtab .any (opsOf Try.f109 6) = impl_SessionPut.T6 := by kernel_rfl
theorem impl_SessionPut.bits6 : waitsOk impl_SessionPut.T6.2 impl_SessionPut.B6 = true := by kernel_rfl
theorem impl_SessionPut.M (A0 : Option Addr) (c0 : Nat) (l : List S100) (a b c : Int) (w : World) (hr0 : Kd.C k100 w A0 l.length l) (hc0 : l.length ≤ c0) : Calls Try.prog 109 #[.slice A0 l.length c0, .agg #[.int .i64 a, .int .i64 b, .int .i64 c]] w fun e w' => ∃ v0, e = .returned (.tuple #[v0, .bool (putB l ⟨a, b, c⟩).2]) ∧ Kd.R k100 100 w' w.heap.size (fun _ => True) v0 (putB l ⟨a, b, c⟩).1 ∧ Below w.heap.size w w' := by
 have B := Aside0.mk (Below.refl w.heap.size w)
 have hu := Try.underlying100
 have HR0 := Aside0.mk hr0
 have HC0 := Aside0.mk hc0
 have L63 := Aside0.mk hr0.2.1
 clear hr0 hc0
 by_cases hv : sesB l = true
 ·have h4 := sesB_len hv
  cases ho : okS (⟨a, b, c⟩ : S100) with
  | true =>
   have hone : sesB [(⟨a, b, c⟩ : S100)] = true := by rw [sesOne]; exact ho
   have hM := put_hit hv ho
   cases hh : hitOf l a with
   | true =>
    rw [hh, if_pos rfl] at hM
    obtain ⟨hlt, hf0⟩ := plhit hh
    have j1 := eq_true (show ((plOf l a : Nat) : Int) < (l.length : Int) by omega)
    have j2 := eq_true hlt
    by_cases hb : (rd_T100 l ((plOf l a : Nat) : Int)).f1 ≥ b
    ·rw [if_pos hb] at hM
     have db : decide ((rd_T100 l ((plOf l a : Nat) : Int)).f1 ≥ b) = true := decide_eq_true hb
     go_enter Try.func109, Try.ntmps109
     go_wp2_with (first
      | ((with_reducible refine gate_dst (N := 3) rfl ?_); refine bx ?hg (N := 3) ?hd (cs := #[.int .i64 (a), .int .i64 (b), .int .i64 (c)]) (t := 100) ?hr B ?_; (case hd => rfl); (case hg => rfl); (case hr => first | (go_simp; done) | (go_simp; rfl)); intro g3 w301 hb B F3 L3 E3; obtain ⟨c3_0, c3_1, c3_2⟩ := cs3 F3; clear hb E3)
      | (go_at_call 57; with_reducible refine cl (impl_SessionsValid.M _ _ l _ (cb HR0 B)) B fun w302 hb B => ?_; replace F3 := bn F3 hb; clear c3_0 c3_1 c3_2; obtain ⟨c3_0, c3_1, c3_2⟩ := cs3 F3; clear hb)
      | ((with_reducible refine gate_dst (N := 13) rfl ?_); refine ungate ?hw ?_; (case hw => first | (go_simp; done) | rfl); refine lt k100 100 ?hg (N := 13) ?hd ([⟨a, b, c⟩] : List S100) [.int .i64 (a), .int .i64 (b), .int .i64 (c)] ?hr (Reps.c3 (k100_mkM _ _ _ ⟨a, b, c⟩) (Reps.none _ _)) (by simp) B ?_; (case hd => rfl); (case hg => rfl); (case hr => first | (go_simp; done) | (go_simp; rfl)); intro z13 hz13 AL13 kL13 w303 hb B RL13 QL13; have NB3_L13 := nb QL13 F3; replace F3 := bn F3 hb; clear c3_0 c3_1 c3_2; obtain ⟨c3_0, c3_1, c3_2⟩ := cs3 F3; clear hb QL13)
      | (go_at_call 57; with_reducible refine cl (clv (impl_SessionsValid.M _ _ z13 _ (rc RL13)) (congrArg Value.bool (show sesB z13 = true by rw [← hz13]; exact hone))) B fun w304 hb B => ?_; replace F3 := bn F3 hb; clear c3_0 c3_1 c3_2; obtain ⟨c3_0, c3_1, c3_2⟩ := cs3 F3; clear hb; clear hz13)
      | (go_at_call 87; with_reducible refine cl (impl_sessionPlace.M _ _ l a _ (cb HR0 B) HC0.out hv) B fun w305 hb B => ?_; replace F3 := bn F3 hb; clear c3_0 c3_1 c3_2; obtain ⟨c3_0, c3_1, c3_2⟩ := cs3 F3; clear hb; (obtain ⟨ad, hA, y0, y1, y2⟩ := at_T100 (cb HR0 B) ((plOf l a : Nat) : Int) (Int.natCast_nonneg _) (Int.ofNat_lt.mpr hlt); cases hA; rw [Int.toNat_natCast] at y0 y1 y2)))
     all_goals (
      refine rg (n := 8) (S := fun W => Kd.C k100 W (some ad) l.length l ∧ W.heap[g3]? = some (.cells #[.int .i64 (a), .int .i64 (b), .int .i64 (c)] 100 (0, 0))) (ds := []) #[false, false, false, false, false, false, false, false] (by kernel_rfl) rfl rfl ⟨(cb HR0 B), F3.out⟩ id B (fun w306 hb B hHeld => ?_)
      refine with_tabW impl_SessionPut.tab6 impl_SessionPut.bits6 (fun HT_ HW_ => ?_)
      replace F3 := bn F3 hb
      clear hb
      refine pu (i := 0) (N := some 31) (v := ?_) (bits 8 1) rfl rfl (any_of HT_.out (by kernel_rfl)) (fun _ _ _ h => h) (by kernel_rfl) ?_ ?_; rotate_left; (intro w'; go_simp; with_reducible rfl)
      refine pu (i := 1) (N := some 32) (v := ?_) (bits 8 3) rfl rfl (any_of HT_.out (by kernel_rfl)) (fun _ _ _ h => h) (by kernel_rfl) ?_ ?_; rotate_left; (intro w'; go_simp; with_reducible rfl)
      refine pu (i := 2) (N := some 33) (v := ?_) (bits 8 7) rfl rfl (any_of HT_.out (by kernel_rfl)) (fun _ _ _ h => h) (by kernel_rfl) ?_ ?_; rotate_left; (intro w'; go_simp; with_reducible rfl)
      refine pu (i := 3) (N := some 34) (v := ?_) (bits 8 15) rfl rfl (any_of HT_.out (by kernel_rfl)) (fun _ _ _ h => h) (by kernel_rfl) ?_ ?_; rotate_left; (intro w'; go_simp; with_reducible rfl)
      refine ta (i := 4) (N := some 35) (v := ?_) (bits 8 31) rfl rfl (take_ofW HT_.out HW_.out (by kernel_rfl)) (fun _ _ _ h => h) (by kernel_rfl) hHeld ?_ ?_; rotate_left; (intro w' hS; obtain ⟨s0, s1⟩ := hS; obtain ⟨_, hA, q0, q1, q2⟩ := at_T100 s0 ((plOf l a : Nat) : Int) (by omega) (by omega); cases hA; rw [Int.toNat_natCast] at q0 q1 q2; go_simp; with_reducible rfl)
      refine pu (i := 5) (N := some 36) (v := ?_) (bits 8 63) rfl rfl (any_of HT_.out (by kernel_rfl)) (fun _ _ _ h => h) (by kernel_rfl) ?_ ?_; rotate_left; (intro w'; go_simp; with_reducible rfl)
      refine ta (i := 6) (N := some 37) (v := ?_) (bits 8 127) rfl rfl (take_ofW HT_.out HW_.out (by kernel_rfl)) (fun _ _ _ h => h) (by kernel_rfl) hHeld ?_ ?_; rotate_left; (intro w' hS; obtain ⟨s0, s1⟩ := hS; obtain ⟨q0, q1, q2⟩ := cs3 (Aside0.mk s1); go_simp; with_reducible rfl)
      refine pu (i := 7) (N := some 38) (v := ?_) (bits 8 255) rfl rfl (any_of HT_.out (by kernel_rfl)) (fun _ _ _ h => h) (by kernel_rfl) ?_ ?_; rotate_left; (intro w'; go_simp; with_reducible rfl)
      refine norm_ (a' := ?_) ?_ ?_
      rotate_left
      ·simp only [Act.put, List.setIfInBounds_toArray, List.set_cons_zero, List.set_cons_succ, i64_w, i32_w]
       rfl
      refine done_ (done_of HT_.out (by kernel_rfl)) ?_)
     all_goals go_wp2_with (first
      | (go_at_call 107; with_reducible refine cr (impl_copyOfSession.M _ _ l _ (cb HR0 B) HC0.out (by omega)) B fun AC307 kC307 w307 hb B RC307 QC307 => ?_; clear QC307; clear hb))
     go_ret2; exact ⟨_, by rw [hM]; rfl, by rw [hM]; exact RC307.out, B.out⟩
    ·rw [if_neg hb] at hM
     have db : decide ((rd_T100 l ((plOf l a : Nat) : Int)).f1 ≥ b) = false := decide_eq_false hb
     go_enter Try.func109, Try.ntmps109
     go_wp2_with (first
      | ((with_reducible refine gate_dst (N := 3) rfl ?_); refine bx ?hg (N := 3) ?hd (cs := #[.int .i64 (a), .int .i64 (b), .int .i64 (c)]) (t := 100) ?hr B ?_; (case hd => rfl); (case hg => rfl); (case hr => first | (go_simp; done) | (go_simp; rfl)); intro g3 w401 hb B F3 L3 E3; obtain ⟨c3_0, c3_1, c3_2⟩ := cs3 F3; clear hb E3)
      | (go_at_call 57; with_reducible refine cl (impl_SessionsValid.M _ _ l _ (cb HR0 B)) B fun w402 hb B => ?_; replace F3 := bn F3 hb; clear c3_0 c3_1 c3_2; obtain ⟨c3_0, c3_1, c3_2⟩ := cs3 F3; clear hb)
      | ((with_reducible refine gate_dst (N := 13) rfl ?_); refine ungate ?hw ?_; (case hw => first | (go_simp; done) | rfl); refine lt k100 100 ?hg (N := 13) ?hd ([⟨a, b, c⟩] : List S100) [.int .i64 (a), .int .i64 (b), .int .i64 (c)] ?hr (Reps.c3 (k100_mkM _ _ _ ⟨a, b, c⟩) (Reps.none _ _)) (by simp) B ?_; (case hd => rfl); (case hg => rfl); (case hr => first | (go_simp; done) | (go_simp; rfl)); intro z13 hz13 AL13 kL13 w403 hb B RL13 QL13; have NB3_L13 := nb QL13 F3; replace F3 := bn F3 hb; clear c3_0 c3_1 c3_2; obtain ⟨c3_0, c3_1, c3_2⟩ := cs3 F3; clear hb QL13)
      | (go_at_call 57; with_reducible refine cl (clv (impl_SessionsValid.M _ _ z13 _ (rc RL13)) (congrArg Value.bool (show sesB z13 = true by rw [← hz13]; exact hone))) B fun w404 hb B => ?_; replace F3 := bn F3 hb; clear c3_0 c3_1 c3_2; obtain ⟨c3_0, c3_1, c3_2⟩ := cs3 F3; clear hb; clear hz13)
      | (go_at_call 87; with_reducible refine cl (impl_sessionPlace.M _ _ l a _ (cb HR0 B) HC0.out hv) B fun w405 hb B => ?_; replace F3 := bn F3 hb; clear c3_0 c3_1 c3_2; obtain ⟨c3_0, c3_1, c3_2⟩ := cs3 F3; clear hb; (obtain ⟨ad, hA, y0, y1, y2⟩ := at_T100 (cb HR0 B) ((plOf l a : Nat) : Int) (Int.natCast_nonneg _) (Int.ofNat_lt.mpr hlt); cases hA; rw [Int.toNat_natCast] at y0 y1 y2)))
     all_goals (
      refine rg (n := 8) (S := fun W => Kd.C k100 W (some ad) l.length l ∧ W.heap[g3]? = some (.cells #[.int .i64 (a), .int .i64 (b), .int .i64 (c)] 100 (0, 0))) (ds := []) #[false, false, false, false, false, false, false, false] (by kernel_rfl) rfl rfl ⟨(cb HR0 B), F3.out⟩ id B (fun w406 hb B hHeld => ?_)
      refine with_tabW impl_SessionPut.tab6 impl_SessionPut.bits6 (fun HT_ HW_ => ?_)
      replace F3 := bn F3 hb
      clear hb
      refine pu (i := 0) (N := some 31) (v := ?_) (bits 8 1) rfl rfl (any_of HT_.out (by kernel_rfl)) (fun _ _ _ h => h) (by kernel_rfl) ?_ ?_; rotate_left; (intro w'; go_simp; with_reducible rfl)
      refine pu (i := 1) (N := some 32) (v := ?_) (bits 8 3) rfl rfl (any_of HT_.out (by kernel_rfl)) (fun _ _ _ h => h) (by kernel_rfl) ?_ ?_; rotate_left; (intro w'; go_simp; with_reducible rfl)
      refine pu (i := 2) (N := some 33) (v := ?_) (bits 8 7) rfl rfl (any_of HT_.out (by kernel_rfl)) (fun _ _ _ h => h) (by kernel_rfl) ?_ ?_; rotate_left; (intro w'; go_simp; with_reducible rfl)
      refine pu (i := 3) (N := some 34) (v := ?_) (bits 8 15) rfl rfl (any_of HT_.out (by kernel_rfl)) (fun _ _ _ h => h) (by kernel_rfl) ?_ ?_; rotate_left; (intro w'; go_simp; with_reducible rfl)
      refine ta (i := 4) (N := some 35) (v := ?_) (bits 8 31) rfl rfl (take_ofW HT_.out HW_.out (by kernel_rfl)) (fun _ _ _ h => h) (by kernel_rfl) hHeld ?_ ?_; rotate_left; (intro w' hS; obtain ⟨s0, s1⟩ := hS; obtain ⟨_, hA, q0, q1, q2⟩ := at_T100 s0 ((plOf l a : Nat) : Int) (by omega) (by omega); cases hA; rw [Int.toNat_natCast] at q0 q1 q2; go_simp; with_reducible rfl)
      refine pu (i := 5) (N := some 36) (v := ?_) (bits 8 63) rfl rfl (any_of HT_.out (by kernel_rfl)) (fun _ _ _ h => h) (by kernel_rfl) ?_ ?_; rotate_left; (intro w'; go_simp; with_reducible rfl)
      refine ta (i := 6) (N := some 37) (v := ?_) (bits 8 127) rfl rfl (take_ofW HT_.out HW_.out (by kernel_rfl)) (fun _ _ _ h => h) (by kernel_rfl) hHeld ?_ ?_; rotate_left; (intro w' hS; obtain ⟨s0, s1⟩ := hS; obtain ⟨q0, q1, q2⟩ := cs3 (Aside0.mk s1); go_simp; with_reducible rfl)
      refine pu (i := 7) (N := some 38) (v := ?_) (bits 8 255) rfl rfl (any_of HT_.out (by kernel_rfl)) (fun _ _ _ h => h) (by kernel_rfl) ?_ ?_; rotate_left; (intro w'; go_simp; with_reducible rfl)
      refine norm_ (a' := ?_) ?_ ?_
      rotate_left
      ·simp only [Act.put, List.setIfInBounds_toArray, List.set_cons_zero, List.set_cons_succ, i64_w, i32_w]
       rfl
      refine done_ (done_of HT_.out (by kernel_rfl)) ?_
      clear c3_0 c3_1 c3_2
      obtain ⟨c3_0, c3_1, c3_2⟩ := cs3 F3)
     all_goals go_wp2_with (first
      | ((with_reducible refine gate_dst (N := 44) rfl ?_); refine lt k100 100 ?hg (N := 44) ?hd ([⟨a, b, c⟩] : List S100) [.int .i64 (a), .int .i64 (b), .int .i64 (c)] ?hr (Reps.c3 (k100_mkM _ _ _ ⟨a, b, c⟩) (Reps.none _ _)) (by simp) B ?_; (case hd => rfl); (case hg => rfl); (case hr => first | (go_simp; done) | (go_simp; rfl)); intro z44 hz44 AL44 kL44 w407 hb B RL44 QL44; clear hb QL44)
      | (go_at_call 120; with_reducible refine crz (impl_replacedSession.M1 _ _ l (plOf l a) _ _ z44 _ (cb HR0 B) HC0.out (rc RL44) (rl RL44) (by omega) (by rw [← hz44]; simp) (by omega)) B fun zC408 hzC408 AC408 kC408 w408 hb B RC408 QC408 => ?_; clear QC408; clear hb))
     go_ret2; exact ⟨_, by rw [hM]; rfl, by rw [hM, hz44, hzC408]; exact RC408.out, B.out⟩
   | false =>
    rw [hh, if_neg (by simp)] at hM
    have hle : plOf l a ≤ l.length := (placeOf_spec (sesG_order l none hv) a l.length 0 l.length (Nat.zero_le _) (Nat.le_refl _) (by omega) (fun i _ hi => absurd hi (Nat.not_lt_zero _)) (fun i hil hi => by omega)).1
    go_enter Try.func109, Try.ntmps109
    go_wp2_with (first
     | ((with_reducible refine gate_dst (N := 3) rfl ?_); refine bx ?hg (N := 3) ?hd (cs := #[.int .i64 (a), .int .i64 (b), .int .i64 (c)]) (t := 100) ?hr B ?_; (case hd => rfl); (case hg => rfl); (case hr => first | (go_simp; done) | (go_simp; rfl)); intro g3 w201 hb B F3 L3 E3; obtain ⟨c3_0, c3_1, c3_2⟩ := cs3 F3; clear hb E3)
     | (go_at_call 57; with_reducible refine cl (impl_SessionsValid.M _ _ l _ (cb HR0 B)) B fun w202 hb B => ?_; replace F3 := bn F3 hb; clear c3_0 c3_1 c3_2; obtain ⟨c3_0, c3_1, c3_2⟩ := cs3 F3; clear hb)
     | ((with_reducible refine gate_dst (N := 13) rfl ?_); refine ungate ?hw ?_; (case hw => first | (go_simp; done) | rfl); refine lt k100 100 ?hg (N := 13) ?hd ([⟨a, b, c⟩] : List S100) [.int .i64 (a), .int .i64 (b), .int .i64 (c)] ?hr (Reps.c3 (k100_mkM _ _ _ ⟨a, b, c⟩) (Reps.none _ _)) (by simp) B ?_; (case hd => rfl); (case hg => rfl); (case hr => first | (go_simp; done) | (go_simp; rfl)); intro z13 hz13 AL13 kL13 w203 hb B RL13 QL13; have NB3_L13 := nb QL13 F3; replace F3 := bn F3 hb; clear c3_0 c3_1 c3_2; obtain ⟨c3_0, c3_1, c3_2⟩ := cs3 F3; clear hb QL13)
     | (go_at_call 57; with_reducible refine cl (clv (impl_SessionsValid.M _ _ z13 _ (rc RL13)) (congrArg Value.bool (show sesB z13 = true by rw [← hz13]; exact hone))) B fun w204 hb B => ?_; replace F3 := bn F3 hb; clear c3_0 c3_1 c3_2; obtain ⟨c3_0, c3_1, c3_2⟩ := cs3 F3; clear hb; clear hz13)
     | (go_at_call 87; with_reducible refine cl (impl_sessionPlace.M _ _ l a _ (cb HR0 B) HC0.out hv) B fun w205 hb B => ?_; replace F3 := bn F3 hb; clear c3_0 c3_1 c3_2; obtain ⟨c3_0, c3_1, c3_2⟩ := cs3 F3; clear hb)
     | ((with_reducible refine gate_dst (N := 29) rfl ?_); refine lt k100 100 ?hg (N := 29) ?hd ([⟨a, b, c⟩] : List S100) [.int .i64 (a), .int .i64 (b), .int .i64 (c)] ?hr (Reps.c3 (k100_mkM _ _ _ ⟨a, b, c⟩) (Reps.none _ _)) (by simp) B ?_; (case hd => rfl); (case hg => rfl); (case hr => first | (go_simp; done) | (go_simp; rfl)); intro z29 hz29 AL29 kL29 w206 hb B RL29 QL29; clear hb QL29)
     | (go_at_call 120; with_reducible refine crz (impl_replacedSession.M0 _ _ l (plOf l a) _ _ z29 _ (cb HR0 B) HC0.out (rc RL29) (rl RL29) (by omega) (by rw [← hz29]; simp) (by omega)) B fun zC207 hzC207 AC207 kC207 w207 hb B RC207 QC207 => ?_; clear QC207; clear hb))
    go_ret2; exact ⟨_, by rw [hM]; rfl, by rw [hM, hz29, hzC207]; exact RC207.out, B.out⟩
  | false =>
   have hone : sesB [(⟨a, b, c⟩ : S100)] = false := by rw [sesOne]; exact ho
   have hM : putB l ⟨a, b, c⟩ = ([], false) := put_bad (.inr hone)
   go_enter Try.func109, Try.ntmps109
   go_wp2_with (first
    | ((with_reducible refine gate_dst (N := 3) rfl ?_); refine bx ?hg (N := 3) ?hd (cs := #[.int .i64 (a), .int .i64 (b), .int .i64 (c)]) (t := 100) ?hr B ?_; (case hd => rfl); (case hg => rfl); (case hr => first | (go_simp; done) | (go_simp; rfl)); intro g3 w101 hb B F3 L3 E3; obtain ⟨c3_0, c3_1, c3_2⟩ := cs3 F3; clear hb E3)
    | (go_at_call 57; with_reducible refine cl (impl_SessionsValid.M _ _ l _ (cb HR0 B)) B fun w102 hb B => ?_; replace F3 := bn F3 hb; clear c3_0 c3_1 c3_2; obtain ⟨c3_0, c3_1, c3_2⟩ := cs3 F3; clear hb)
    | ((with_reducible refine gate_dst (N := 13) rfl ?_); refine ungate ?hw ?_; (case hw => first | (go_simp; done) | rfl); refine lt k100 100 ?hg (N := 13) ?hd ([⟨a, b, c⟩] : List S100) [.int .i64 (a), .int .i64 (b), .int .i64 (c)] ?hr (Reps.c3 (k100_mkM _ _ _ ⟨a, b, c⟩) (Reps.none _ _)) (by simp) B ?_; (case hd => rfl); (case hg => rfl); (case hr => first | (go_simp; done) | (go_simp; rfl)); intro z13 hz13 AL13 kL13 w103 hb B RL13 QL13; clear hb QL13)
    | (go_at_call 57; with_reducible refine cl (clv (impl_SessionsValid.M _ _ z13 _ (rc RL13)) (congrArg Value.bool (show sesB z13 = false by rw [← hz13]; exact hone))) B fun w104 hb B => ?_; clear hb; clear hz13))
   go_ret2; exact ⟨_, by rw [hM]; rfl, by rw [hM]; exact Kd.R_nil _ _ _ _ _, B.out⟩
 ·replace hv := Bool.eq_false_iff.mpr hv
  have hM : putB l ⟨a, b, c⟩ = ([], false) := put_bad (.inl hv)
  have hone := hv
  go_enter Try.func109, Try.ntmps109
  go_wp2_with (first
   | ((with_reducible refine gate_dst (N := 3) rfl ?_); refine bx ?hg (N := 3) ?hd (cs := #[.int .i64 (a), .int .i64 (b), .int .i64 (c)]) (t := 100) ?hr B ?_; (case hd => rfl); (case hg => rfl); (case hr => first | (go_simp; done) | (go_simp; rfl)); intro g3 w1 hb B F3 L3 E3; obtain ⟨c3_0, c3_1, c3_2⟩ := cs3 F3; clear hb E3)
   | (go_at_call 57; with_reducible refine cl (impl_SessionsValid.M _ _ l _ (cb HR0 B)) B fun w2 hb B => ?_; replace F3 := bn F3 hb; clear c3_0 c3_1 c3_2; obtain ⟨c3_0, c3_1, c3_2⟩ := cs3 F3; clear hb)
   | ((with_reducible refine gate_dst (N := 13) rfl ?_); refine ungate ?hw ?_; (case hw => first | (go_simp; done) | rfl); refine lt k100 100 ?hg (N := 13) ?hd ([⟨a, b, c⟩] : List S100) [.int .i64 (a), .int .i64 (b), .int .i64 (c)] ?hr (Reps.c3 (k100_mkM _ _ _ ⟨a, b, c⟩) (Reps.none _ _)) (by simp) B ?_; (case hd => rfl); (case hg => rfl); (case hr => first | (go_simp; done) | (go_simp; rfl)); intro z13 hz13 AL13 kL13 w3 hb B RL13 QL13; clear hb QL13)
   | (go_at_call 57; with_reducible refine cl (clv (impl_SessionsValid.M _ _ z13 _ (rc RL13)) (congrArg Value.bool (show sesB z13 = false by rw [← hz13]; exact hone))) B fun w4 hb B => ?_; clear hb; clear hz13))
  go_ret2; exact ⟨_, by rw [hM]; rfl, by rw [hM]; exact Kd.R_nil _ _ _ _ _, B.out⟩

theorem impl_SessionsJoin.M (A0 : Option Addr) (c0 : Nat) (l : List S100) (A1 : Option Addr) (c1 : Nat) (m : List S100) (w : World) (hr0 : Kd.C k100 w A0 l.length l) (hc0 : l.length ≤ c0) (hr1 : Kd.C k100 w A1 m.length m) (hc1 : m.length ≤ c1) : Calls Try.prog 83 #[.slice A0 l.length c0, .slice A1 m.length c1] w fun e w' => ∃ v0, e = .returned v0 ∧ Kd.R k100 100 w' w.heap.size (fun _ => True) v0 (joinB l m) ∧ Below w.heap.size w w' := by
 have B := Aside0.mk (Below.refl w.heap.size w)
 have hu := Try.underlying100
 have HR0 := Aside0.mk hr0
 have HC0 := Aside0.mk hc0
 have L63 := Aside0.mk hr0.2.1
 clear hr0 hc0
 have HR1 := Aside0.mk hr1
 have M63 := Aside0.mk hr1.2.1
 clear hr1 hc1
 by_cases hv : sesB l = true ∧ sesB m = true
 ·obtain ⟨hv1, hv2⟩ := hv
  have h4 := sesB_len hv1
  have h5 := sesB_len hv2
  have hok := sesG_ok m none hv2
  rw [show joinB l m = joinL l m from if_pos ⟨hv1, hv2⟩]
  obtain ⟨r, hr⟩ : ∃ r, joinL l m = r := ⟨_, rfl⟩
  rw [hr]
  have H := Aside0.mk (show sesB l = true ∧ joinL l (m.drop 0) = r from ⟨hv1, hr⟩)
  have OK := Aside0.mk hok
  clear hr hok
  go_enter Try.func83, Try.ntmps83
  go_wp2_with (first
   | (go_at_call 57; with_reducible refine cl (impl_SessionsValid.M _ _ l _ (cb HR0 B)) B fun w1 hb B => ?_; clear hb)
   | (go_at_call 57; with_reducible refine cl (impl_SessionsValid.M _ _ m _ (cb HR1 B)) B fun w2 hb B => ?_; clear hb)
   | (go_at_call 107; with_reducible refine cr (impl_copyOfSession.M _ _ l _ (cb HR0 B) HC0.out (by omega)) B fun AC3 kC3 w3 hb B RC3 QC3 => ?_; clear QC3; clear hb))
  clear hv1 hv2
  go_loopg [5, 22] (m.length + 1) (fun kx v5 v22 wr => ∃ (j : Nat) (p : List S100), v22 = .int .i64 (j : Int) ∧ j ≤ m.length ∧ m.length < j + kx ∧ Aside0 (Below w.heap.size w wr) ∧ Aside0 (Ow k100 100 wr w.heap.size v5 p) ∧ Aside0 (sesB p = true ∧ joinL p (m.drop j) = r))
  case atStart => exact ⟨0, l, rfl, by omega, by omega, B, RC3, H⟩
  case round =>
   clear H B RC3
   obtain ⟨j, p, rfl, hj, hk, B, Rp6, H⟩ := hrel
   obtain ⟨A6, k6, rfl⟩ := Kd.R_slice Rp6.out
   by_cases hlt : j < m.length
   ·obtain ⟨hpv, HS⟩ := H.out
    have hp4 := sesB_len hpv
    rw [ses_drop hlt] at HS
    have hyo : okS (rd_T100 m (j : Int)) = true := OK.out _ (by rw [ses_nat hlt]; exact List.getElem_mem hlt)
    clear H
    obtain ⟨d, rfl⟩ : ∃ d, gk = d + 1 := ⟨gk - 1, by omega⟩
    have cj : decide ((j : Int) < (m.length : Int)) = true := decide_eq_true (by omega)
    obtain ⟨ad, hA, y0, y1, y2⟩ := at_T100 (cb HR1 B) (j : Int) (by omega) (by omega)
    cases hA
    rw [Int.toNat_natCast] at y0 y1 y2
    have j1 := eq_true (show (j : Int) < (m.length : Int) by omega)
    have j2 := eq_true hlt
    generalize hy : rd_T100 m (j : Int) = y at *
    obtain ⟨hnv, hne⟩ := putB_valid hpv hyo
    have HT := Aside0.mk (show sesB (putB p y).1 = true ∧ joinL (putB p y).1 (m.drop (j + 1)) = r from ⟨hnv, HS⟩)
    clear HS hpv hnv hyo
    cases hx : (putB p y).2 with
    | true =>
     go_wp2_with (first
      | ((with_reducible refine gate_dst (N := 7) rfl ?_); refine bx ?hg (N := 7) ?hd (cs := #[.int .i64 (0), .int .i64 (0), .int .i64 (0)]) (t := 100) ?hr B ?_; (case hd => rfl); (case hg => rfl); (case hr => first | (go_simp; done) | (go_simp; rfl)); intro g7 w301 hb B F7 L7 E7; have NB7_p6 := nbx E7 Rp6; replace Rp6 := rn Rp6 hb; obtain ⟨c7_0, c7_1, c7_2⟩ := cs3 F7; clear hb E7)
      | ((with_reducible refine gate_store (t := 100) (p := 7) rfl ?_); obtain ⟨y0, y1, y2⟩ := cs3 F7; have z0 := fz F7 0; have z1 := fz F7 1; have z2 := fz F7 2; refine sx (t := 100) (t' := 100) (p := 7) (v := ?vo302) ?hg ?ho ?hn 0 [.int .i64 (y.f0), .int .i64 (y.f1), .int .i64 (y.f2)] [.int .i64 (y.f0), .int .i64 (y.f1), .int .i64 (y.f2)] ?hr B F7 L7 rfl (Nat.le_of_ble_eq_true rfl) ?_; (case ho => rfl); (case hg => rfl); (case hn => rfl); (case hr => first | (go_simp; done) | (go_simp; rfl)); intro w302 hk B G; replace Rp6 := rkn Rp6 hk NB7_p6; replace F7 := G; clear c7_0 c7_1 c7_2; obtain ⟨c7_0, c7_1, c7_2⟩ := cs3 F7; clear hk y0 z0 y1 z1 y2 z2)
      | (go_at_call 109; with_reducible refine cr (impl_SessionPut.M _ _ p y.f0 y.f1 y.f2 _ (rc Rp6) (rl Rp6)) B fun AU303 kU303 w303 hb B RU303 QU303 => ?_; replace Rp6 := rn Rp6 hb; clear QU303; clear hb))
     go_roundg d
     case measure => omega
     case rel => exact ⟨j + 1, _, congrArg (Value.int .i64) (Int.natCast_succ _).symm, by omega, by omega, B, RU303, HT⟩
    | false =>
     rw [hx, if_neg (by simp)] at hne
     rw [← hne] at HT
     clear hne
     go_wp2_with (first
      | ((with_reducible refine gate_dst (N := 7) rfl ?_); refine bx ?hg (N := 7) ?hd (cs := #[.int .i64 (0), .int .i64 (0), .int .i64 (0)]) (t := 100) ?hr B ?_; (case hd => rfl); (case hg => rfl); (case hr => first | (go_simp; done) | (go_simp; rfl)); intro g7 w401 hb B F7 L7 E7; have NB7_p6 := nbx E7 Rp6; replace Rp6 := rn Rp6 hb; obtain ⟨c7_0, c7_1, c7_2⟩ := cs3 F7; clear hb E7)
      | ((with_reducible refine gate_store (t := 100) (p := 7) rfl ?_); obtain ⟨y0, y1, y2⟩ := cs3 F7; have z0 := fz F7 0; have z1 := fz F7 1; have z2 := fz F7 2; refine sx (t := 100) (t' := 100) (p := 7) (v := ?vo402) ?hg ?ho ?hn 0 [.int .i64 (y.f0), .int .i64 (y.f1), .int .i64 (y.f2)] [.int .i64 (y.f0), .int .i64 (y.f1), .int .i64 (y.f2)] ?hr B F7 L7 rfl (Nat.le_of_ble_eq_true rfl) ?_; (case ho => rfl); (case hg => rfl); (case hn => rfl); (case hr => first | (go_simp; done) | (go_simp; rfl)); intro w402 hk B G; replace Rp6 := rkn Rp6 hk NB7_p6; replace F7 := G; clear c7_0 c7_1 c7_2; obtain ⟨c7_0, c7_1, c7_2⟩ := cs3 F7; clear hk y0 z0 y1 z1 y2 z2)
      | (go_at_call 109; with_reducible refine cr (impl_SessionPut.M _ _ p y.f0 y.f1 y.f2 _ (rc Rp6) (rl Rp6)) B fun AU403 kU403 w403 hb B RU403 QU403 => ?_; replace Rp6 := rn Rp6 hb; clear QU403; clear hb))
     go_roundg d
     case measure => omega
     case rel => exact ⟨j + 1, p, congrArg (Value.int .i64) (Int.natCast_succ _).symm, by omega, by omega, B, Rp6, HT⟩
   ·have cj : decide ((j : Int) < (m.length : Int)) = false := decide_eq_false (by omega)
    have hr := H.out.2
    rw [List.drop_of_length_le (by omega)] at hr
    have hr2 : p = r := hr
    subst hr2
    clear hr H
    go_wp2
    go_ret
    exact ⟨_, rfl, Rp6.out, B.out⟩
 ·rw [show joinB l m = [] from if_neg hv]
  have hvn : (!sesB l || !sesB m) = true := by cases h1 : sesB l <;> cases h2 : sesB m <;> simp_all
  cases h1 : sesB l with
  | false =>
   go_enter Try.func83, Try.ntmps83
   go_wp2_with (first
    | (go_at_call 57; with_reducible refine cl (impl_SessionsValid.M _ _ l _ (cb HR0 B)) B fun w1 hb B => ?_; clear hb)
    | (go_at_call 57; with_reducible refine cl (impl_SessionsValid.M _ _ m _ (cb HR1 B)) B fun w2 hb B => ?_; clear hb))
   go_ret
   exact ⟨_, rfl, Kd.R_nil _ _ _ _ _, B.out⟩
  | true =>
   have h2 : sesB m = false := by cases h2 : sesB m <;> simp_all
   clear hvn hv
   go_enter Try.func83, Try.ntmps83
   go_wp2_with (first
    | (go_at_call 57; with_reducible refine cl (impl_SessionsValid.M _ _ l _ (cb HR0 B)) B fun w1 hb B => ?_; clear hb)
    | (go_at_call 57; with_reducible refine cl (impl_SessionsValid.M _ _ m _ (cb HR1 B)) B fun w2 hb B => ?_; clear hb))
   go_ret
   exact ⟨_, rfl, Kd.R_nil _ _ _ _ _, B.out⟩

def impl_IntervalCut.T7 : Bool × List (List Nat × List Nat) := (true, [([], []), ([], []), ([0, 0], [0]), ([1, 2, 0, 1, 2], [1]), ([3, 0, 1, 2, 3], [])])
def impl_IntervalCut.B7 : List Nat := [0, 0, 1, 7, 15]
theorem impl_IntervalCut.tab7 : rtab .any (opsOf Try.f59 7) = impl_IntervalCut.T7 := by kernel_rfl
theorem impl_IntervalCut.bits7 : waitsOk impl_IntervalCut.T7.2 impl_IntervalCut.B7 = true := by kernel_rfl
theorem impl_IntervalCut.M (a b c : ByteArray) (w : World) : Calls Try.prog 59 #[.agg #[.string a, .string b], .string c] w fun e w' => e = .returned (.tuple #[.agg #[.string (cutV a b c).1, .string (cutV a b c).2.1], .agg #[.string (cutV a b c).2.2.1, .string (cutV a b c).2.2.2.1], .bool (cutV a b c).2.2.2.2]) ∧ Below w.heap.size w w' := by
 have B := Aside0.mk (Below.refl w.heap.size w)
 have hu := Try.underlying30
 go_enter Try.func59, Try.ntmps59
 go_wp2_with (first
  | ((with_reducible refine gate_dst (N := 2) rfl ?_); refine bx ?hg (N := 2) ?hd (cs := #[.string a, .string b]) (t := 30) ?hr B ?_; (case hd => rfl); (case hg => rfl); (case hr => first | (go_simp; done) | (go_simp; rfl)); intro g2 w1 hb B F2 L2 E2; obtain ⟨c2_0, c2_1⟩ := cs2 F2; clear hb E2)
  | ((with_reducible refine gate_dst (N := 4) rfl ?_); refine bx ?hg (N := 4) ?hd (cs := #[.string (⟨#[]⟩ : ByteArray), .string (⟨#[]⟩ : ByteArray)]) (t := 30) ?hr B ?_; (case hd => rfl); (case hg => rfl); (case hr => first | (go_simp; done) | (go_simp; rfl)); intro g4 w2 hb B F4 L4 E4; have N2_4 := ne1 E4 F2; replace F2 := bn F2 hb; clear c2_0 c2_1; obtain ⟨c2_0, c2_1⟩ := cs2 F2; clear hb E4)
  | ((with_reducible refine gate_dst (N := 5) rfl ?_); refine bx ?hg (N := 5) ?hd (cs := #[.string (⟨#[]⟩ : ByteArray), .string (⟨#[]⟩ : ByteArray)]) (t := 30) ?hr B ?_; (case hd => rfl); (case hg => rfl); (case hr => first | (go_simp; done) | (go_simp; rfl)); intro g5 w3 hb B F5 L5 E5; have N2_5 := ne1 E5 F2; have N4_5 := ne1 E5 F4; replace F2 := bn F2 hb; replace F4 := bn F4 hb; clear c2_0 c2_1; obtain ⟨c2_0, c2_1⟩ := cs2 F2; clear hb E5)
  | (go_at_call 55; with_reducible refine cl (impl_IntervalValid.M a b _) B fun w4 hb B => ?_; replace F2 := bn F2 hb; replace F4 := bn F4 hb; replace F5 := bn F5 hb; clear c2_0 c2_1; obtain ⟨c2_0, c2_1⟩ := cs2 F2; clear hb)
  | (go_at_call 80; with_reducible refine cl (impl_KeyValid.M c _) B fun w5 hb B => ?_; replace F2 := bn F2 hb; replace F4 := bn F4 hb; replace F5 := bn F5 hb; clear c2_0 c2_1; obtain ⟨c2_0, c2_1⟩ := cs2 F2; clear hb)
  | ((with_reducible refine gate_store (t := 30) (p := 4) rfl ?_); obtain ⟨y0, y1⟩ := cs2 F4; have z0 := fz F4 0; have z1 := fz F4 1; refine sx (t := 30) (t' := 30) (p := 4) (v := ?vo6) ?hg ?ho ?hn 0 [.string (⟨#[]⟩ : ByteArray), .string (⟨#[]⟩ : ByteArray)] [.string (⟨#[]⟩ : ByteArray), .string (⟨#[]⟩ : ByteArray)] ?hr B F4 L4 rfl (Nat.le_of_ble_eq_true rfl) ?_; (case ho => rfl); (case hg => rfl); (case hn => rfl); (case hr => first | (go_simp; done) | (go_simp; rfl)); intro w6 hk B G; replace F2 := bk F2 hk N2_4.out; replace F5 := bk F5 hk N4_5.out.symm; replace F4 := G; clear c2_0 c2_1; obtain ⟨c2_0, c2_1⟩ := cs2 F2; clear hk y0 z0 y1 z1)
  | ((with_reducible refine gate_store (t := 30) (p := 5) rfl ?_); obtain ⟨y0, y1⟩ := cs2 F5; have z0 := fz F5 0; have z1 := fz F5 1; refine sx (t := 30) (t' := 30) (p := 5) (v := ?vo7) ?hg ?ho ?hn 0 [.string (⟨#[]⟩ : ByteArray), .string (⟨#[]⟩ : ByteArray)] [.string (⟨#[]⟩ : ByteArray), .string (⟨#[]⟩ : ByteArray)] ?hr B F5 L5 rfl (Nat.le_of_ble_eq_true rfl) ?_; (case ho => rfl); (case hg => rfl); (case hn => rfl); (case hr => first | (go_simp; done) | (go_simp; rfl)); intro w7 hk B G; replace F2 := bk F2 hk N2_5.out; replace F4 := bk F4 hk N4_5.out; replace F5 := G; clear c2_0 c2_1; obtain ⟨c2_0, c2_1⟩ := cs2 F2; clear hk y0 z0 y1 z1)
  | ((with_reducible refine gate_dst (N := 7) rfl ?_); refine bx ?hg (N := 7) ?hd (cs := #[.string (⟨#[]⟩ : ByteArray), .string (⟨#[]⟩ : ByteArray)]) (t := 30) ?hr B ?_; (case hd => rfl); (case hg => rfl); (case hr => first | (go_simp; done) | (go_simp; rfl)); intro g7 w8 hb B F7 L7 E7; have N2_7 := ne1 E7 F2; have N4_7 := ne1 E7 F4; have N5_7 := ne1 E7 F5; replace F2 := bn F2 hb; replace F4 := bn F4 hb; replace F5 := bn F5 hb; clear c2_0 c2_1; obtain ⟨c2_0, c2_1⟩ := cs2 F2; obtain ⟨c7_0, c7_1⟩ := cs2 F7; clear hb E7)
  | ((with_reducible refine gate_store (t := 30) (p := 7) rfl ?_); obtain ⟨y0, y1⟩ := cs2 F7; have z0 := fz F7 0; have z1 := fz F7 1; refine sx (t := 30) (t' := 30) (p := 7) (v := ?vo9) ?hg ?ho ?hn 0 [.string a, .string c] [.string a, .string c] ?hr B F7 L7 rfl (Nat.le_of_ble_eq_true rfl) ?_; (case ho => rfl); (case hg => rfl); (case hn => rfl); (case hr => first | (go_simp; done) | (go_simp; rfl)); intro w9 hk B G; replace F2 := bk F2 hk N2_7.out; replace F4 := bk F4 hk N4_7.out; replace F5 := bk F5 hk N5_7.out; replace F7 := G; clear c2_0 c2_1; obtain ⟨c2_0, c2_1⟩ := cs2 F2; clear c7_0 c7_1; obtain ⟨c7_0, c7_1⟩ := cs2 F7; clear hk y0 z0 y1 z1)
  | ((with_reducible refine gate_dst (N := 8) rfl ?_); refine bx ?hg (N := 8) ?hd (cs := #[.string (⟨#[]⟩ : ByteArray), .string (⟨#[]⟩ : ByteArray)]) (t := 30) ?hr B ?_; (case hd => rfl); (case hg => rfl); (case hr => first | (go_simp; done) | (go_simp; rfl)); intro g8 w10 hb B F8 L8 E8; have N4_8 := ne1 E8 F4; have N5_8 := ne1 E8 F5; have N7_8 := ne1 E8 F7; replace F4 := bn F4 hb; replace F5 := bn F5 hb; replace F7 := bn F7 hb; clear c7_0 c7_1; obtain ⟨c7_0, c7_1⟩ := cs2 F7; obtain ⟨c8_0, c8_1⟩ := cs2 F8; clear hb E8)
  | ((with_reducible refine gate_store (t := 30) (p := 8) rfl ?_); obtain ⟨y0, y1⟩ := cs2 F8; have z0 := fz F8 0; have z1 := fz F8 1; refine sx (t := 30) (t' := 30) (p := 8) (v := ?vo11) ?hg ?ho ?hn 0 [.string c, .string b] [.string c, .string b] ?hr B F8 L8 rfl (Nat.le_of_ble_eq_true rfl) ?_; (case ho => rfl); (case hg => rfl); (case hn => rfl); (case hr => first | (go_simp; done) | (go_simp; rfl)); intro w11 hk B G; replace F4 := bk F4 hk N4_8.out; replace F5 := bk F5 hk N5_8.out; replace F7 := bk F7 hk N7_8.out; replace F8 := G; clear c7_0 c7_1; obtain ⟨c7_0, c7_1⟩ := cs2 F7; clear c8_0 c8_1; obtain ⟨c8_0, c8_1⟩ := cs2 F8; clear hk y0 z0 y1 z1)
  | (go_at_call 55; with_reducible refine cl (impl_IntervalValid.M a c _) B fun w12 hb B => ?_; replace F4 := bn F4 hb; replace F5 := bn F5 hb; replace F7 := bn F7 hb; replace F8 := bn F8 hb; clear c7_0 c7_1; obtain ⟨c7_0, c7_1⟩ := cs2 F7; clear c8_0 c8_1; obtain ⟨c8_0, c8_1⟩ := cs2 F8; clear hb)
  | (go_at_call 55; with_reducible refine cl (impl_IntervalValid.M c b _) B fun w13 hb B => ?_; replace F4 := bn F4 hb; replace F5 := bn F5 hb; replace F7 := bn F7 hb; replace F8 := bn F8 hb; clear c7_0 c7_1; obtain ⟨c7_0, c7_1⟩ := cs2 F7; clear c8_0 c8_1; obtain ⟨c8_0, c8_1⟩ := cs2 F8; clear hb)
  | ((with_reducible refine gate_store (t := 30) (p := 4) rfl ?_); obtain ⟨y0, y1⟩ := cs2 F4; have z0 := fz F4 0; have z1 := fz F4 1; refine sx (t := 30) (t' := 30) (p := 4) (v := ?vo14) ?hg ?ho ?hn 0 [.string (⟨#[]⟩ : ByteArray), .string (⟨#[]⟩ : ByteArray)] [.string (⟨#[]⟩ : ByteArray), .string (⟨#[]⟩ : ByteArray)] ?hr B F4 L4 rfl (Nat.le_of_ble_eq_true rfl) ?_; (case ho => rfl); (case hg => rfl); (case hn => rfl); (case hr => first | (go_simp; done) | (go_simp; rfl)); intro w14 hk B G; replace F5 := bk F5 hk N4_5.out.symm; replace F7 := bk F7 hk N4_7.out.symm; replace F8 := bk F8 hk N4_8.out.symm; replace F4 := G; clear c7_0 c7_1; obtain ⟨c7_0, c7_1⟩ := cs2 F7; clear c8_0 c8_1; obtain ⟨c8_0, c8_1⟩ := cs2 F8; clear hk y0 z0 y1 z1)
  | ((with_reducible refine gate_store (t := 30) (p := 5) rfl ?_); obtain ⟨y0, y1⟩ := cs2 F5; have z0 := fz F5 0; have z1 := fz F5 1; refine sx (t := 30) (t' := 30) (p := 5) (v := ?vo15) ?hg ?ho ?hn 0 [.string (⟨#[]⟩ : ByteArray), .string (⟨#[]⟩ : ByteArray)] [.string (⟨#[]⟩ : ByteArray), .string (⟨#[]⟩ : ByteArray)] ?hr B F5 L5 rfl (Nat.le_of_ble_eq_true rfl) ?_; (case ho => rfl); (case hg => rfl); (case hn => rfl); (case hr => first | (go_simp; done) | (go_simp; rfl)); intro w15 hk B G; replace F4 := bk F4 hk N4_5.out; replace F7 := bk F7 hk N5_7.out.symm; replace F8 := bk F8 hk N5_8.out.symm; replace F5 := G; clear c7_0 c7_1; obtain ⟨c7_0, c7_1⟩ := cs2 F7; clear c8_0 c8_1; obtain ⟨c8_0, c8_1⟩ := cs2 F8; clear hk y0 z0 y1 z1))
 all_goals try (refine bodyPost_ret (results_list (rs := [.cell 4 30, .cell 5 30, .tmp 6]) rfl (by simp) (.cell g4 30 _ (0, 0) _ rfl F4.out hu rfl (by kernel_rfl) (.cell g5 30 _ (0, 0) _ rfl F5.out hu rfl (by kernel_rfl) (.tmp .nil)))) rfl ?_; refine ⟨?_, B.out⟩; unfold cutV cutB; simp_all; done)
 all_goals (
  refine rg (n := 5) (S := fun W => W.heap[g7]? = some (.cells #[.string a, .string c] 30 (0, 0)) ∧ W.heap[g8]? = some (.cells #[.string c, .string b] 30 (0, 0))) (ds := []) #[false, false, false, false, false] (by kernel_rfl) rfl rfl ⟨F7.out, F8.out⟩ id B (fun w16 hb B hHeld => ?_)
  refine with_tabW impl_IntervalCut.tab7 impl_IntervalCut.bits7 (fun HT_ HW_ => ?_)
  replace F4 := bn F4 hb
  replace F5 := bn F5 hb
  replace F7 := bn F7 hb
  replace F8 := bn F8 hb
  clear hb
  refine ta (i := 0) (N := some 37) (v := ?_) (bits 5 1) rfl rfl (take_ofW HT_.out HW_.out (by kernel_rfl)) (fun _ _ _ h => h) (by kernel_rfl) hHeld ?_ ?_; rotate_left; (intro w' hS; obtain ⟨s0, s1⟩ := hS; obtain ⟨q0, q1⟩ := cs2 (Aside0.mk s0); go_simp; with_reducible rfl)
  refine ta (i := 1) (N := some 38) (v := ?_) (bits 5 3) rfl rfl (take_ofW HT_.out HW_.out (by kernel_rfl)) (fun _ _ _ h => h) (by kernel_rfl) hHeld ?_ ?_; rotate_left; (intro w' hS; obtain ⟨s0, s1⟩ := hS; obtain ⟨q0, q1⟩ := cs2 (Aside0.mk s1); go_simp; with_reducible rfl)
  refine norm_ (a' := ?_) ?_ ?_
  rotate_left
  ·simp only [Act.put, List.setIfInBounds_toArray, List.set_cons_zero, List.set_cons_succ, i64_w, i32_w]
   rfl
  refine one_ (i := 2) (N := none) (bits 5 7) rfl rfl (one_of HT_.out (by kernel_rfl)) (by decide) (fun K hK => ?_)
  obtain ⟨y0, y1⟩ := cs2 F4
  have z0 := fz F4 0
  have z1 := fz F4 1
  refine sxs (g := g4) 0 [.string a, .string c] [.string a, .string c] (by rfl) rfl ?hr B F4 L4 rfl (Nat.le_of_ble_eq_true rfl) (fun w17 hk B G => ?_)
  (case hr => first | (go_simp; done) | (go_simp; rfl))
  replace F5 := bk F5 hk N4_5.out.symm
  replace F7 := bk F7 hk N4_7.out.symm
  replace F8 := bk F8 hk N4_8.out.symm
  replace F4 := G
  clear hk y0 z0 y1 z1
  refine hK.out _ _ ⟨F7.out, F8.out⟩ (fun hHeld => ?_)
  clear hK K
  refine one_ (i := 3) (N := none) (bits 5 15) rfl rfl (one_of HT_.out (by kernel_rfl)) (by decide) (fun K hK => ?_)
  obtain ⟨y0, y1⟩ := cs2 F5
  have z0 := fz F5 0
  have z1 := fz F5 1
  refine sxs (g := g5) 0 [.string c, .string b] [.string c, .string b] (by rfl) rfl ?hr B F5 L5 rfl (Nat.le_of_ble_eq_true rfl) (fun w18 hk B G => ?_)
  (case hr => first | (go_simp; done) | (go_simp; rfl))
  replace F4 := bk F4 hk N4_5.out
  replace F7 := bk F7 hk N5_7.out.symm
  replace F8 := bk F8 hk N5_8.out.symm
  replace F5 := G
  clear hk y0 z0 y1 z1
  refine hK.out _ _ ⟨F7.out, F8.out⟩ (fun hHeld => ?_)
  clear hK K
  refine pu (i := 4) (N := some 6) (v := ?_) (bits 5 31) rfl rfl (any_of HT_.out (by kernel_rfl)) (fun _ _ _ h => h) (by kernel_rfl) ?_ ?_; rotate_left; (intro w'; go_simp; with_reducible rfl)
  refine norm_ (a' := ?_) ?_ ?_
  rotate_left
  ·simp only [Act.put, List.setIfInBounds_toArray, List.set_cons_zero, List.set_cons_succ, i64_w, i32_w]
   rfl
  refine done_ (done_of HT_.out (by kernel_rfl)) ?_)
 all_goals try go_wp2
 all_goals try (refine bodyPost_ret (results_list (rs := [.cell 4 30, .cell 5 30, .tmp 6]) rfl (by simp) (.cell g4 30 _ (0, 0) _ rfl F4.out hu rfl (by kernel_rfl) (.cell g5 30 _ (0, 0) _ rfl F5.out hu rfl (by kernel_rfl) (.tmp .nil)))) rfl ?_; refine ⟨?_, B.out⟩; unfold cutV cutB; simp_all; done)

theorem impl_StateValid.M (a b : ByteArray) (AP : Option Addr) (cP : Nat) (ps : List S61) (AS : Option Addr) (cS : Nat) (ss : List S100) (t : Bool) (c : ByteArray) (w : World) (hrp : Kd.C k61 w AP ps.length ps) (hrs : Kd.C k100 w AS ss.length ss) : Calls Try.prog 14 #[.agg #[.string a, .string b, .slice AP ps.length cP, .slice AS ss.length cS, .bool t, .string c]] w fun e w' => e = .returned (.bool (stB a b ps ss t c)) ∧ Below w.heap.size w w' := by
 have B := Aside0.mk (Below.refl w.heap.size w)
 have hu := Try.underlying34
 have hu2 := Try.underlying30
 have HRP := Aside0.mk hrp
 have HRS := Aside0.mk hrs
 clear hrp hrs
 go_enter Try.func14, Try.ntmps14
 go_wp2_with (first
  | ((with_reducible refine gate_dst (N := 1) rfl ?_); refine bx ?hg (N := 1) ?hd (cs := #[.string a, .string b, .slice AP ps.length cP, .slice AS ss.length cS, .bool t, .string c]) (t := 34) ?hr B ?_; (case hd => rfl); (case hg => rfl); (case hr => first | (go_simp; done) | (go_simp; rfl)); intro g1 w1 hb B F1 L1 E1; obtain ⟨c1_0, c1_1, c1_2, c1_3, c1_4, c1_5⟩ := cs6 F1; clear hb E1)
  | (go_at_call 55; with_reducible refine cl (impl_IntervalValid.M a b _) B fun w2 hb B => ?_; replace F1 := bn F1 hb; clear c1_0 c1_1 c1_2 c1_3 c1_4 c1_5; obtain ⟨c1_0, c1_1, c1_2, c1_3, c1_4, c1_5⟩ := cs6 F1; clear hb)
  | (go_at_call 56; with_reducible refine cl (impl_PairsValid.M _ _ ps _ (cb HRP B)) B fun w3 hb B => ?_; replace F1 := bn F1 hb; clear c1_0 c1_1 c1_2 c1_3 c1_4 c1_5; obtain ⟨c1_0, c1_1, c1_2, c1_3, c1_4, c1_5⟩ := cs6 F1; clear hb)
  | (go_at_call 57; with_reducible refine cl (impl_SessionsValid.M _ _ ss _ (cb HRS B)) B fun w4 hb B => ?_; replace F1 := bn F1 hb; clear c1_0 c1_1 c1_2 c1_3 c1_4 c1_5; obtain ⟨c1_0, c1_1, c1_2, c1_3, c1_4, c1_5⟩ := cs6 F1; clear hb))
 all_goals try (go_ret; exact ⟨congrArg (fun b => Ending.returned (Value.bool b)) (by grind [stB]), B.out⟩)
 have hv : ivB a b = true ∧ prB ps = true ∧ sesB ss = true := by grind
 have hst : stB a b ps ss t c = ((ps.all fun p => insB a b p.f0) && tailB a b t c) := by
  unfold stB
  rw [hv.1, hv.2.1, hv.2.2]
  rfl
 (try simp only [hv.1, hv.2.1, hv.2.2, Bool.not_true])
 obtain ⟨q, hq⟩ : ∃ q, (ps.all fun p => insB a b p.f0) = q := ⟨_, rfl⟩
 rw [hq] at hst
 have H := Aside0.mk (show ((ps.drop 0).all fun p => insB a b p.f0) = q from hq)
 have L48 := Aside0.mk (prB_len hv.2.1)
 clear hq hv c1_0 c1_1 c1_2 c1_3 c1_4 c1_5
 have HST := Aside0.mk hst
 clear hst
 go_loopg [27] (ps.length + 1) (fun kx v27 wr => ∃ j : Nat, v27 = .int .i64 (j : Int) ∧ j ≤ ps.length ∧ ps.length < j + kx ∧ Aside0 (Below w.heap.size w wr) ∧ Aside0 (wr.heap[g1]? = some (.cells #[.string a, .string b, .slice AP ps.length cP, .slice AS ss.length cS, .bool t, .string c] 34 (0, 0))) ∧ Aside0 (((ps.drop j).all fun p => insB a b p.f0) = q))
 case atStart => exact ⟨0, rfl, by omega, by omega, B, F1, H⟩
 case round =>
  clear H B F1
  obtain ⟨j, rfl, hj, hk, B, F1, H⟩ := hrel
  have hst := HST.out
  obtain ⟨c1_0, c1_1, c1_2, c1_3, c1_4, c1_5⟩ := cs6 F1
  by_cases hlt : j < ps.length
  ·have HS := H.out
   rw [pr_drop hlt, List.all_cons] at HS
   clear H
   obtain ⟨d, rfl⟩ : ∃ d, gk = d + 1 := ⟨gk - 1, by omega⟩
   have h48 := L48.out
   have cj : decide ((j : Int) < (ps.length : Int)) = true := decide_eq_true (by omega)
   obtain ⟨ad, hA, y0, y1⟩ := at_T61 (cb HRP B) (j : Int) (by omega) (by omega)
   cases hA
   rw [Int.toNat_natCast] at y0 y1
   have j1 := eq_true (show (j : Int) < (ps.length : Int) by omega)
   have j2 := eq_true hlt
   generalize hy : rd_T61 ps (j : Int) = y at *
   go_wp2_with (first
    | ((with_reducible refine gate_dst (N := 4) rfl ?_); refine bx ?hg (N := 4) ?hd (cs := #[.string (⟨#[]⟩ : ByteArray), .int .i64 (0)]) (t := 61) ?hr B ?_; (case hd => rfl); (case hg => rfl); (case hr => first | (go_simp; done) | (go_simp; rfl)); intro g4 w5 hb B F4 L4 E4; have N1_4 := ne1 E4 F1; replace F1 := bn F1 hb; clear c1_0 c1_1 c1_2 c1_3 c1_4 c1_5; obtain ⟨c1_0, c1_1, c1_2, c1_3, c1_4, c1_5⟩ := cs6 F1; obtain ⟨c4_0, c4_1⟩ := cs2 F4; clear hb E4)
    | ((with_reducible refine gate_store (t := 61) (p := 4) rfl ?_); obtain ⟨y0, y1⟩ := cs2 F4; have z0 := fz F4 0; have z1 := fz F4 1; refine sx (t := 61) (t' := 61) (p := 4) (v := ?vo6) ?hg ?ho ?hn 0 [.string y.f0, .int .i64 (y.f1)] [.string y.f0, .int .i64 (y.f1)] ?hr B F4 L4 rfl (Nat.le_of_ble_eq_true rfl) ?_; (case ho => rfl); (case hg => rfl); (case hn => rfl); (case hr => first | (go_simp; done) | (go_simp; rfl)); intro w6 hk B G; replace F1 := bk F1 hk N1_4.out; replace F4 := G; clear c1_0 c1_1 c1_2 c1_3 c1_4 c1_5; obtain ⟨c1_0, c1_1, c1_2, c1_3, c1_4, c1_5⟩ := cs6 F1; clear c4_0 c4_1; obtain ⟨c4_0, c4_1⟩ := cs2 F4; clear hk y0 z0 y1 z1)
    | (go_at_call 58; with_reducible refine cl (impl_inside.M a b y.f0 _) B fun w7 hb B => ?_; replace F1 := bn F1 hb; clear hb))
   all_goals first
    | (go_roundg d; (case measure => omega); (case rel => exact ⟨j + 1, congrArg (Value.int .i64) (Int.natCast_succ _).symm, by omega, by omega, B, F1, ⟨andT HS (by grind)⟩⟩))
    | (go_ret; exact ⟨congrArg (fun b => Ending.returned (Value.bool b)) (by grind), B.out⟩)
  ·have cj : decide ((j : Int) < (ps.length : Int)) = false := decide_eq_false (by omega)
   have hr : q = true := by rw [← H.out, List.drop_of_length_le (by omega)]; rfl
   clear H
   go_wp2_with (first
    | (go_at_call 59; with_reducible refine cl (impl_IntervalCut.M a b c _) B fun w1 hb B => ?_; replace F1 := bn F1 hb; clear c1_0 c1_1 c1_2 c1_3 c1_4 c1_5; obtain ⟨c1_0, c1_1, c1_2, c1_3, c1_4, c1_5⟩ := cs6 F1; clear hb)
    | ((with_reducible refine gate_dst (N := 5) rfl ?_); refine bx ?hg (N := 5) ?hd (cs := #[.string (⟨#[]⟩ : ByteArray), .string (⟨#[]⟩ : ByteArray)]) (t := 30) ?hr B ?_; (case hd => rfl); (case hg => rfl); (case hr => first | (go_simp; done) | (go_simp; rfl)); intro g5 w2 hb B F5 L5 E5; have N1_5 := ne1 E5 F1; replace F1 := bn F1 hb; clear c1_0 c1_1 c1_2 c1_3 c1_4 c1_5; obtain ⟨c1_0, c1_1, c1_2, c1_3, c1_4, c1_5⟩ := cs6 F1; clear hb E5)
    | ((with_reducible refine gate_dst (N := 6) rfl ?_); refine bx ?hg (N := 6) ?hd (cs := #[.string (⟨#[]⟩ : ByteArray), .string (⟨#[]⟩ : ByteArray)]) (t := 30) ?hr B ?_; (case hd => rfl); (case hg => rfl); (case hr => first | (go_simp; done) | (go_simp; rfl)); intro g6 w3 hb B F6 L6 E6; have N1_6 := ne1 E6 F1; have N5_6 := ne1 E6 F5; replace F1 := bn F1 hb; replace F5 := bn F5 hb; clear c1_0 c1_1 c1_2 c1_3 c1_4 c1_5; obtain ⟨c1_0, c1_1, c1_2, c1_3, c1_4, c1_5⟩ := cs6 F1; clear hb E6)
    | ((with_reducible refine gate_store (t := 30) (p := 5) rfl ?_); obtain ⟨y0, y1⟩ := cs2 F5; have z0 := fz F5 0; have z1 := fz F5 1; refine sx (t := 30) (t' := 30) (p := 5) (v := ?vo4) ?hg ?ho ?hn 0 [.string (cutV a b c).1, .string (cutV a b c).2.1] [.string (cutV a b c).1, .string (cutV a b c).2.1] ?hr B F5 L5 rfl (Nat.le_of_ble_eq_true rfl) ?_; (case ho => rfl); (case hg => rfl); (case hn => rfl); (case hr => first | (go_simp; done) | (go_simp; rfl)); intro w4 hk B G; replace F1 := bk F1 hk N1_5.out; replace F6 := bk F6 hk N5_6.out.symm; replace F5 := G; clear c1_0 c1_1 c1_2 c1_3 c1_4 c1_5; obtain ⟨c1_0, c1_1, c1_2, c1_3, c1_4, c1_5⟩ := cs6 F1; clear hk y0 z0 y1 z1)
    | ((with_reducible refine gate_store (t := 30) (p := 6) rfl ?_); obtain ⟨y0, y1⟩ := cs2 F6; have z0 := fz F6 0; have z1 := fz F6 1; refine sx (t := 30) (t' := 30) (p := 6) (v := ?vo5) ?hg ?ho ?hn 0 [.string (cutV a b c).2.2.1, .string (cutV a b c).2.2.2.1] [.string (cutV a b c).2.2.1, .string (cutV a b c).2.2.2.1] ?hr B F6 L6 rfl (Nat.le_of_ble_eq_true rfl) ?_; (case ho => rfl); (case hg => rfl); (case hn => rfl); (case hr => first | (go_simp; done) | (go_simp; rfl)); intro w5 hk B G; replace F1 := bk F1 hk N1_6.out; replace F6 := G; clear c1_0 c1_1 c1_2 c1_3 c1_4 c1_5; obtain ⟨c1_0, c1_1, c1_2, c1_3, c1_4, c1_5⟩ := cs6 F1; clear hk y0 z0 y1 z1))
   all_goals go_ret
   all_goals
    refine ⟨congrArg (fun b => Ending.returned (Value.bool b)) ?_, B.out⟩
    rw [hst, hr, Bool.true_and]
    unfold tailB
    grind [cutV_ok]

def impl_StateJoin.T9 : Bool × List (List Nat × List Nat) := (true, [([], []), ([], []), ([], []), ([2], [2]), ([], []), ([4], [4]), ([3, 5], [3, 5]), ([0, 1, 6], [0, 1, 6]), ([7, 6, 0, 1, 2, 3, 4, 5, 6, 7], [7]), ([8, 0, 1, 2, 3, 4, 5, 6, 7, 8], [])])
def impl_StateJoin.B9 : List Nat := [0, 0, 0, 4, 0, 16, 60, 127, 255, 511]
theorem impl_StateJoin.tab9 : rtab .any (opsOf Try.f40 9) = impl_StateJoin.T9 := by kernel_rfl
theorem impl_StateJoin.bits9 : waitsOk impl_StateJoin.T9.2 impl_StateJoin.B9 = true := by kernel_rfl
theorem impl_StateJoin.M (a b : ByteArray) (AP : Option Addr) (cP : Nat) (ps : List S61) (AS : Option Addr) (cS : Nat) (ss : List S100) (t : Bool) (c : ByteArray) (lo hi : ByteArray) (AQ : Option Addr) (cQ : Nat) (qs : List S61) (AU : Option Addr) (cU : Nat) (us : List S100) (u2 : Bool) (ct : ByteArray) (w : World) (hrp : Kd.C k61 w AP ps.length ps) (hrs : Kd.C k100 w AS ss.length ss) (hrq : Kd.C k61 w AQ qs.length qs) (hru : Kd.C k100 w AU us.length us) (hcp : ps.length ≤ cP) (hcs : ss.length ≤ cS) (hcq : qs.length ≤ cQ) (hcu : us.length ≤ cU) : Calls Try.prog 40 #[.agg #[.string a, .string b, .slice AP ps.length cP, .slice AS ss.length cS, .bool t, .string c], .agg #[.string lo, .string hi, .slice AQ qs.length cQ, .slice AU us.length cU, .bool u2, .string ct]] w fun e w' => ∃ v2 v3, e = .returned (.tuple #[.agg #[.string (sjM ⟨a, b, ps, ss, t, c⟩ ⟨lo, hi, qs, us, u2, ct⟩).1.a, .string (sjM ⟨a, b, ps, ss, t, c⟩ ⟨lo, hi, qs, us, u2, ct⟩).1.b, v2, v3, .bool (sjM ⟨a, b, ps, ss, t, c⟩ ⟨lo, hi, qs, us, u2, ct⟩).1.t, .string (sjM ⟨a, b, ps, ss, t, c⟩ ⟨lo, hi, qs, us, u2, ct⟩).1.c], .bool (sjM ⟨a, b, ps, ss, t, c⟩ ⟨lo, hi, qs, us, u2, ct⟩).2]) ∧ Kd.R k61 61 w' w.heap.size (fun _ => True) v2 (sjM ⟨a, b, ps, ss, t, c⟩ ⟨lo, hi, qs, us, u2, ct⟩).1.ps ∧ Kd.R k100 100 w' w.heap.size (fun _ => True) v3 (sjM ⟨a, b, ps, ss, t, c⟩ ⟨lo, hi, qs, us, u2, ct⟩).1.ss ∧ Below w.heap.size w w' := by
 have B := Aside0.mk (Below.refl w.heap.size w)
 have hu := Try.underlying34
 have hu2 := Try.underlying30
 have HRP := Aside0.mk hrp
 have HRS := Aside0.mk hrs
 have HRQ := Aside0.mk hrq
 have HRU := Aside0.mk hru
 have HCP := Aside0.mk hcp
 have HCS := Aside0.mk hcs
 have HCQ := Aside0.mk hcq
 have HCU := Aside0.mk hcu
 clear hrp hrs hrq hru hcp hcs hcq hcu
 cases hs : stB a b ps ss t c with
 | false =>
  rw [sj_bad (show joinOk ⟨a, b, ps, ss, t, c⟩ ⟨lo, hi, qs, us, u2, ct⟩ = false by unfold joinOk SM.ok; rw [hs]; rfl)]
  go_enter Try.func40, Try.ntmps40
  go_wp2_with (first
   | ((with_reducible refine gate_dst (N := 2) rfl ?_); refine bx ?hg (N := 2) ?hd (cs := #[.string a, .string b, .slice AP ps.length cP, .slice AS ss.length cS, .bool t, .string c]) (t := 34) ?hr B ?_; (case hd => rfl); (case hg => rfl); (case hr => first | (go_simp; done) | (go_simp; rfl)); intro g2 w1 hb B F2 L2 E2; obtain ⟨c2_0, c2_1, c2_2, c2_3, c2_4, c2_5⟩ := cs6 F2; clear hb E2)
   | ((with_reducible refine gate_dst (N := 3) rfl ?_); refine bx ?hg (N := 3) ?hd (cs := #[.string lo, .string hi, .slice AQ qs.length cQ, .slice AU us.length cU, .bool u2, .string ct]) (t := 34) ?hr B ?_; (case hd => rfl); (case hg => rfl); (case hr => first | (go_simp; done) | (go_simp; rfl)); intro g3 w2 hb B F3 L3 E3; replace F2 := bn F2 hb; clear c2_0 c2_1 c2_2 c2_3 c2_4 c2_5; obtain ⟨c2_0, c2_1, c2_2, c2_3, c2_4, c2_5⟩ := cs6 F2; obtain ⟨c3_0, c3_1, c3_2, c3_3, c3_4, c3_5⟩ := cs6 F3; clear hb E3)
   | ((with_reducible refine gate_dst (N := 4) rfl ?_); refine bx ?hg (N := 4) ?hd (cs := #[.string (⟨#[]⟩ : ByteArray), .string (⟨#[]⟩ : ByteArray), .slice none 0 0, .slice none 0 0, .bool false, .string (⟨#[]⟩ : ByteArray)]) (t := 34) ?hr B ?_; (case hd => rfl); (case hg => rfl); (case hr => first | (go_simp; done) | (go_simp; rfl)); intro g4 w3 hb B F4 L4 E4; have N2_4 := ne1 E4 F2; have N3_4 := ne1 E4 F3; replace F2 := bn F2 hb; replace F3 := bn F3 hb; clear c2_0 c2_1 c2_2 c2_3 c2_4 c2_5; obtain ⟨c2_0, c2_1, c2_2, c2_3, c2_4, c2_5⟩ := cs6 F2; clear c3_0 c3_1 c3_2 c3_3 c3_4 c3_5; obtain ⟨c3_0, c3_1, c3_2, c3_3, c3_4, c3_5⟩ := cs6 F3; clear hb E4)
   | (go_at_call 14; with_reducible refine cl (impl_StateValid.M a b _ _ ps _ _ ss t c _ (cb HRP B) (cb HRS B)) B fun w4 hb B => ?_; replace F2 := bn F2 hb; replace F3 := bn F3 hb; replace F4 := bn F4 hb; clear c2_0 c2_1 c2_2 c2_3 c2_4 c2_5; obtain ⟨c2_0, c2_1, c2_2, c2_3, c2_4, c2_5⟩ := cs6 F2; clear c3_0 c3_1 c3_2 c3_3 c3_4 c3_5; obtain ⟨c3_0, c3_1, c3_2, c3_3, c3_4, c3_5⟩ := cs6 F3; clear hb)
   | (go_at_call 14; with_reducible refine cl (impl_StateValid.M lo hi _ _ qs _ _ us u2 ct _ (cb HRQ B) (cb HRU B)) B fun w5 hb B => ?_; replace F2 := bn F2 hb; replace F3 := bn F3 hb; replace F4 := bn F4 hb; clear c2_0 c2_1 c2_2 c2_3 c2_4 c2_5; obtain ⟨c2_0, c2_1, c2_2, c2_3, c2_4, c2_5⟩ := cs6 F2; clear c3_0 c3_1 c3_2 c3_3 c3_4 c3_5; obtain ⟨c3_0, c3_1, c3_2, c3_3, c3_4, c3_5⟩ := cs6 F3; clear hb)
   | ((with_reducible refine gate_store (t := 34) (p := 4) rfl ?_); obtain ⟨y0, y1, y2, y3, y4, y5⟩ := cs6 F4; have z0 := fz F4 0; have z1 := fz F4 1; have z2 := fz F4 2; have z3 := fz F4 3; have z4 := fz F4 4; have z5 := fz F4 5; refine sx (t := 34) (t' := 34) (p := 4) (v := ?vo6) ?hg ?ho ?hn 0 [.string (⟨#[]⟩ : ByteArray), .string (⟨#[]⟩ : ByteArray), .slice none 0 0, .slice none 0 0, .bool false, .string (⟨#[]⟩ : ByteArray)] [.string (⟨#[]⟩ : ByteArray), .string (⟨#[]⟩ : ByteArray), .slice none 0 0, .slice none 0 0, .bool false, .string (⟨#[]⟩ : ByteArray)] ?hr B F4 L4 rfl (Nat.le_of_ble_eq_true rfl) ?_; (case ho => rfl); (case hg => rfl); (case hn => rfl); (case hr => first | (go_simp; done) | (go_simp; rfl)); intro w6 hk B G; replace F2 := bk F2 hk N2_4.out; replace F3 := bk F3 hk N3_4.out; replace F4 := G; clear hk y0 z0 y1 z1 y2 z2 y3 z3 y4 z4 y5 z5))
  all_goals (refine bodyPost_ret (results_list (rs := [.cell 4 34, .tmp 5]) rfl (by simp) (.cell g4 34 _ (0, 0) _ rfl F4.out hu rfl (by kernel_rfl) (.tmp .nil))) rfl ?_; exact ⟨_, _, rfl, Kd.R_nil _ _ _ _ _, Kd.R_nil _ _ _ _ _, B.out⟩)
 | true =>
  cases hu_ : stB lo hi qs us u2 ct with
  | false =>
   rw [sj_bad (show joinOk ⟨a, b, ps, ss, t, c⟩ ⟨lo, hi, qs, us, u2, ct⟩ = false by unfold joinOk SM.ok; rw [hs, hu_]; rfl)]
   go_enter Try.func40, Try.ntmps40
   go_wp2_with (first
    | ((with_reducible refine gate_dst (N := 2) rfl ?_); refine bx ?hg (N := 2) ?hd (cs := #[.string a, .string b, .slice AP ps.length cP, .slice AS ss.length cS, .bool t, .string c]) (t := 34) ?hr B ?_; (case hd => rfl); (case hg => rfl); (case hr => first | (go_simp; done) | (go_simp; rfl)); intro g2 w101 hb B F2 L2 E2; obtain ⟨c2_0, c2_1, c2_2, c2_3, c2_4, c2_5⟩ := cs6 F2; clear hb E2)
    | ((with_reducible refine gate_dst (N := 3) rfl ?_); refine bx ?hg (N := 3) ?hd (cs := #[.string lo, .string hi, .slice AQ qs.length cQ, .slice AU us.length cU, .bool u2, .string ct]) (t := 34) ?hr B ?_; (case hd => rfl); (case hg => rfl); (case hr => first | (go_simp; done) | (go_simp; rfl)); intro g3 w102 hb B F3 L3 E3; replace F2 := bn F2 hb; clear c2_0 c2_1 c2_2 c2_3 c2_4 c2_5; obtain ⟨c2_0, c2_1, c2_2, c2_3, c2_4, c2_5⟩ := cs6 F2; obtain ⟨c3_0, c3_1, c3_2, c3_3, c3_4, c3_5⟩ := cs6 F3; clear hb E3)
    | ((with_reducible refine gate_dst (N := 4) rfl ?_); refine bx ?hg (N := 4) ?hd (cs := #[.string (⟨#[]⟩ : ByteArray), .string (⟨#[]⟩ : ByteArray), .slice none 0 0, .slice none 0 0, .bool false, .string (⟨#[]⟩ : ByteArray)]) (t := 34) ?hr B ?_; (case hd => rfl); (case hg => rfl); (case hr => first | (go_simp; done) | (go_simp; rfl)); intro g4 w103 hb B F4 L4 E4; have N2_4 := ne1 E4 F2; have N3_4 := ne1 E4 F3; replace F2 := bn F2 hb; replace F3 := bn F3 hb; clear c2_0 c2_1 c2_2 c2_3 c2_4 c2_5; obtain ⟨c2_0, c2_1, c2_2, c2_3, c2_4, c2_5⟩ := cs6 F2; clear c3_0 c3_1 c3_2 c3_3 c3_4 c3_5; obtain ⟨c3_0, c3_1, c3_2, c3_3, c3_4, c3_5⟩ := cs6 F3; clear hb E4)
    | (go_at_call 14; with_reducible refine cl (impl_StateValid.M a b _ _ ps _ _ ss t c _ (cb HRP B) (cb HRS B)) B fun w104 hb B => ?_; replace F2 := bn F2 hb; replace F3 := bn F3 hb; replace F4 := bn F4 hb; clear c2_0 c2_1 c2_2 c2_3 c2_4 c2_5; obtain ⟨c2_0, c2_1, c2_2, c2_3, c2_4, c2_5⟩ := cs6 F2; clear c3_0 c3_1 c3_2 c3_3 c3_4 c3_5; obtain ⟨c3_0, c3_1, c3_2, c3_3, c3_4, c3_5⟩ := cs6 F3; clear hb)
    | (go_at_call 14; with_reducible refine cl (impl_StateValid.M lo hi _ _ qs _ _ us u2 ct _ (cb HRQ B) (cb HRU B)) B fun w105 hb B => ?_; replace F2 := bn F2 hb; replace F3 := bn F3 hb; replace F4 := bn F4 hb; clear c2_0 c2_1 c2_2 c2_3 c2_4 c2_5; obtain ⟨c2_0, c2_1, c2_2, c2_3, c2_4, c2_5⟩ := cs6 F2; clear c3_0 c3_1 c3_2 c3_3 c3_4 c3_5; obtain ⟨c3_0, c3_1, c3_2, c3_3, c3_4, c3_5⟩ := cs6 F3; clear hb)
    | ((with_reducible refine gate_store (t := 34) (p := 4) rfl ?_); obtain ⟨y0, y1, y2, y3, y4, y5⟩ := cs6 F4; have z0 := fz F4 0; have z1 := fz F4 1; have z2 := fz F4 2; have z3 := fz F4 3; have z4 := fz F4 4; have z5 := fz F4 5; refine sx (t := 34) (t' := 34) (p := 4) (v := ?vo106) ?hg ?ho ?hn 0 [.string (⟨#[]⟩ : ByteArray), .string (⟨#[]⟩ : ByteArray), .slice none 0 0, .slice none 0 0, .bool false, .string (⟨#[]⟩ : ByteArray)] [.string (⟨#[]⟩ : ByteArray), .string (⟨#[]⟩ : ByteArray), .slice none 0 0, .slice none 0 0, .bool false, .string (⟨#[]⟩ : ByteArray)] ?hr B F4 L4 rfl (Nat.le_of_ble_eq_true rfl) ?_; (case ho => rfl); (case hg => rfl); (case hn => rfl); (case hr => first | (go_simp; done) | (go_simp; rfl)); intro w106 hk B G; replace F2 := bk F2 hk N2_4.out; replace F3 := bk F3 hk N3_4.out; replace F4 := G; clear hk y0 z0 y1 z1 y2 z2 y3 z3 y4 z4 y5 z5))
   all_goals (refine bodyPost_ret (results_list (rs := [.cell 4 34, .tmp 5]) rfl (by simp) (.cell g4 34 _ (0, 0) _ rfl F4.out hu rfl (by kernel_rfl) (.tmp .nil))) rfl ?_; exact ⟨_, _, rfl, Kd.R_nil _ _ _ _ _, Kd.R_nil _ _ _ _ _, B.out⟩)
  | true =>
   obtain ⟨hiv1, hp1, hs1, -, -⟩ := stB_parts.mp hs
   obtain ⟨hiv2, hp2, hs2, -, -⟩ := stB_parts.mp hu_
   have hl1 := prB_len hp1
   have hl2 := prB_len hp2
   by_cases hfl : (t = true ∧ u2 = true) ∧ (c.toList = ([] : List UInt8) ∧ ct.toList = ([] : List UInt8))
   ·obtain ⟨⟨rfl, rfl⟩, hc0, hh0⟩ := hfl
    have dc : (c.toList == ([] : List UInt8)) = true := by simp [hc0]
    have dh : (ct.toList == ([] : List UInt8)) = true := by simp [hh0]
    cases hij : ijB a b lo hi with
    | false =>
     rw [sj_bad (show joinOk ⟨a, b, ps, ss, true, c⟩ ⟨lo, hi, qs, us, true, ct⟩ = false by unfold joinOk SM.ok; rw [hs, hu_, hij, decide_eq_true hc0, decide_eq_true hh0]; rfl)]
     go_enter Try.func40, Try.ntmps40
     go_wp2_with (first
      | ((with_reducible refine gate_dst (N := 2) rfl ?_); refine bx ?hg (N := 2) ?hd (cs := #[.string a, .string b, .slice AP ps.length cP, .slice AS ss.length cS, .bool true, .string c]) (t := 34) ?hr B ?_; (case hd => rfl); (case hg => rfl); (case hr => first | (go_simp; done) | (go_simp; rfl)); intro g2 w301 hb B F2 L2 E2; obtain ⟨c2_0, c2_1, c2_2, c2_3, c2_4, c2_5⟩ := cs6 F2; clear hb E2)
      | ((with_reducible refine gate_dst (N := 3) rfl ?_); refine bx ?hg (N := 3) ?hd (cs := #[.string lo, .string hi, .slice AQ qs.length cQ, .slice AU us.length cU, .bool true, .string ct]) (t := 34) ?hr B ?_; (case hd => rfl); (case hg => rfl); (case hr => first | (go_simp; done) | (go_simp; rfl)); intro g3 w302 hb B F3 L3 E3; replace F2 := bn F2 hb; clear c2_0 c2_1 c2_2 c2_3 c2_4 c2_5; obtain ⟨c2_0, c2_1, c2_2, c2_3, c2_4, c2_5⟩ := cs6 F2; obtain ⟨c3_0, c3_1, c3_2, c3_3, c3_4, c3_5⟩ := cs6 F3; clear hb E3)
      | ((with_reducible refine gate_dst (N := 4) rfl ?_); refine bx ?hg (N := 4) ?hd (cs := #[.string (⟨#[]⟩ : ByteArray), .string (⟨#[]⟩ : ByteArray), .slice none 0 0, .slice none 0 0, .bool false, .string (⟨#[]⟩ : ByteArray)]) (t := 34) ?hr B ?_; (case hd => rfl); (case hg => rfl); (case hr => first | (go_simp; done) | (go_simp; rfl)); intro g4 w303 hb B F4 L4 E4; have N2_4 := ne1 E4 F2; have N3_4 := ne1 E4 F3; replace F2 := bn F2 hb; replace F3 := bn F3 hb; clear c2_0 c2_1 c2_2 c2_3 c2_4 c2_5; obtain ⟨c2_0, c2_1, c2_2, c2_3, c2_4, c2_5⟩ := cs6 F2; clear c3_0 c3_1 c3_2 c3_3 c3_4 c3_5; obtain ⟨c3_0, c3_1, c3_2, c3_3, c3_4, c3_5⟩ := cs6 F3; clear hb E4)
      | (go_at_call 14; with_reducible refine cl (impl_StateValid.M a b _ _ ps _ _ ss true c _ (cb HRP B) (cb HRS B)) B fun w304 hb B => ?_; replace F2 := bn F2 hb; replace F3 := bn F3 hb; replace F4 := bn F4 hb; clear c2_0 c2_1 c2_2 c2_3 c2_4 c2_5; obtain ⟨c2_0, c2_1, c2_2, c2_3, c2_4, c2_5⟩ := cs6 F2; clear c3_0 c3_1 c3_2 c3_3 c3_4 c3_5; obtain ⟨c3_0, c3_1, c3_2, c3_3, c3_4, c3_5⟩ := cs6 F3; clear hb)
      | (go_at_call 14; with_reducible refine cl (impl_StateValid.M lo hi _ _ qs _ _ us true ct _ (cb HRQ B) (cb HRU B)) B fun w305 hb B => ?_; replace F2 := bn F2 hb; replace F3 := bn F3 hb; replace F4 := bn F4 hb; clear c2_0 c2_1 c2_2 c2_3 c2_4 c2_5; obtain ⟨c2_0, c2_1, c2_2, c2_3, c2_4, c2_5⟩ := cs6 F2; clear c3_0 c3_1 c3_2 c3_3 c3_4 c3_5; obtain ⟨c3_0, c3_1, c3_2, c3_3, c3_4, c3_5⟩ := cs6 F3; clear hb)
      | (go_at_call 81; with_reducible refine cl (impl_IntervalJoin.Mf a b lo hi hij _) B fun w306 hb B => ?_; replace F2 := bn F2 hb; replace F3 := bn F3 hb; replace F4 := bn F4 hb; clear hb)
      | ((with_reducible refine gate_dst (N := 6) rfl ?_); refine bx ?hg (N := 6) ?hd (cs := #[.string (⟨#[]⟩ : ByteArray), .string (⟨#[]⟩ : ByteArray)]) (t := 30) ?hr B ?_; (case hd => rfl); (case hg => rfl); (case hr => first | (go_simp; done) | (go_simp; rfl)); intro g6 w307 hb B F6 L6 E6; have N2_6 := ne1 E6 F2; have N3_6 := ne1 E6 F3; have N4_6 := ne1 E6 F4; replace F2 := bn F2 hb; replace F3 := bn F3 hb; replace F4 := bn F4 hb; clear hb E6)
      | ((with_reducible refine gate_store (t := 30) (p := 6) rfl ?_); obtain ⟨y0, y1⟩ := cs2 F6; have z0 := fz F6 0; have z1 := fz F6 1; refine sx (t := 30) (t' := 30) (p := 6) (v := ?vo308) ?hg ?ho ?hn 0 [.string (⟨#[]⟩ : ByteArray), .string (⟨#[]⟩ : ByteArray)] [.string (⟨#[]⟩ : ByteArray), .string (⟨#[]⟩ : ByteArray)] ?hr B F6 L6 rfl (Nat.le_of_ble_eq_true rfl) ?_; (case ho => rfl); (case hg => rfl); (case hn => rfl); (case hr => first | (go_simp; done) | (go_simp; rfl)); intro w308 hk B G; replace F2 := bk F2 hk N2_6.out; replace F3 := bk F3 hk N3_6.out; replace F4 := bk F4 hk N4_6.out; replace F6 := G; clear hk y0 z0 y1 z1)
      | ((with_reducible refine gate_store (t := 34) (p := 4) rfl ?_); obtain ⟨y0, y1, y2, y3, y4, y5⟩ := cs6 F4; have z0 := fz F4 0; have z1 := fz F4 1; have z2 := fz F4 2; have z3 := fz F4 3; have z4 := fz F4 4; have z5 := fz F4 5; refine sx (t := 34) (t' := 34) (p := 4) (v := ?vo309) ?hg ?ho ?hn 0 [.string (⟨#[]⟩ : ByteArray), .string (⟨#[]⟩ : ByteArray), .slice none 0 0, .slice none 0 0, .bool false, .string (⟨#[]⟩ : ByteArray)] [.string (⟨#[]⟩ : ByteArray), .string (⟨#[]⟩ : ByteArray), .slice none 0 0, .slice none 0 0, .bool false, .string (⟨#[]⟩ : ByteArray)] ?hr B F4 L4 rfl (Nat.le_of_ble_eq_true rfl) ?_; (case ho => rfl); (case hg => rfl); (case hn => rfl); (case hr => first | (go_simp; done) | (go_simp; rfl)); intro w309 hk B G; replace F2 := bk F2 hk N2_4.out; replace F3 := bk F3 hk N3_4.out; replace F4 := G; clear hk y0 z0 y1 z1 y2 z2 y3 z3 y4 z4 y5 z5))
     all_goals (refine bodyPost_ret (results_list (rs := [.cell 4 34, .tmp 5]) rfl (by simp) (.cell g4 34 _ (0, 0) _ rfl F4.out hu rfl (by kernel_rfl) (.tmp .nil))) rfl ?_; exact ⟨_, _, rfl, Kd.R_nil _ _ _ _ _, Kd.R_nil _ _ _ _ _, B.out⟩)
    | true =>
     cases hpj : pjB ps qs with
     | false =>
      rw [sj_bad (show joinOk ⟨a, b, ps, ss, true, c⟩ ⟨lo, hi, qs, us, true, ct⟩ = false by unfold joinOk SM.ok; rw [hs, hu_, hij, hpj, decide_eq_true hc0, decide_eq_true hh0]; rfl)]
      go_enter Try.func40, Try.ntmps40
      go_wp2_with (first
       | ((with_reducible refine gate_dst (N := 2) rfl ?_); refine bx ?hg (N := 2) ?hd (cs := #[.string a, .string b, .slice AP ps.length cP, .slice AS ss.length cS, .bool true, .string c]) (t := 34) ?hr B ?_; (case hd => rfl); (case hg => rfl); (case hr => first | (go_simp; done) | (go_simp; rfl)); intro g2 w401 hb B F2 L2 E2; obtain ⟨c2_0, c2_1, c2_2, c2_3, c2_4, c2_5⟩ := cs6 F2; clear hb E2)
       | ((with_reducible refine gate_dst (N := 3) rfl ?_); refine bx ?hg (N := 3) ?hd (cs := #[.string lo, .string hi, .slice AQ qs.length cQ, .slice AU us.length cU, .bool true, .string ct]) (t := 34) ?hr B ?_; (case hd => rfl); (case hg => rfl); (case hr => first | (go_simp; done) | (go_simp; rfl)); intro g3 w402 hb B F3 L3 E3; replace F2 := bn F2 hb; clear c2_0 c2_1 c2_2 c2_3 c2_4 c2_5; obtain ⟨c2_0, c2_1, c2_2, c2_3, c2_4, c2_5⟩ := cs6 F2; obtain ⟨c3_0, c3_1, c3_2, c3_3, c3_4, c3_5⟩ := cs6 F3; clear hb E3)
       | ((with_reducible refine gate_dst (N := 4) rfl ?_); refine bx ?hg (N := 4) ?hd (cs := #[.string (⟨#[]⟩ : ByteArray), .string (⟨#[]⟩ : ByteArray), .slice none 0 0, .slice none 0 0, .bool false, .string (⟨#[]⟩ : ByteArray)]) (t := 34) ?hr B ?_; (case hd => rfl); (case hg => rfl); (case hr => first | (go_simp; done) | (go_simp; rfl)); intro g4 w403 hb B F4 L4 E4; have N2_4 := ne1 E4 F2; have N3_4 := ne1 E4 F3; replace F2 := bn F2 hb; replace F3 := bn F3 hb; clear c2_0 c2_1 c2_2 c2_3 c2_4 c2_5; obtain ⟨c2_0, c2_1, c2_2, c2_3, c2_4, c2_5⟩ := cs6 F2; clear c3_0 c3_1 c3_2 c3_3 c3_4 c3_5; obtain ⟨c3_0, c3_1, c3_2, c3_3, c3_4, c3_5⟩ := cs6 F3; clear hb E4)
       | (go_at_call 14; with_reducible refine cl (impl_StateValid.M a b _ _ ps _ _ ss true c _ (cb HRP B) (cb HRS B)) B fun w404 hb B => ?_; replace F2 := bn F2 hb; replace F3 := bn F3 hb; replace F4 := bn F4 hb; clear c2_0 c2_1 c2_2 c2_3 c2_4 c2_5; obtain ⟨c2_0, c2_1, c2_2, c2_3, c2_4, c2_5⟩ := cs6 F2; clear c3_0 c3_1 c3_2 c3_3 c3_4 c3_5; obtain ⟨c3_0, c3_1, c3_2, c3_3, c3_4, c3_5⟩ := cs6 F3; clear hb)
       | (go_at_call 14; with_reducible refine cl (impl_StateValid.M lo hi _ _ qs _ _ us true ct _ (cb HRQ B) (cb HRU B)) B fun w405 hb B => ?_; replace F2 := bn F2 hb; replace F3 := bn F3 hb; replace F4 := bn F4 hb; clear c2_0 c2_1 c2_2 c2_3 c2_4 c2_5; obtain ⟨c2_0, c2_1, c2_2, c2_3, c2_4, c2_5⟩ := cs6 F2; clear c3_0 c3_1 c3_2 c3_3 c3_4 c3_5; obtain ⟨c3_0, c3_1, c3_2, c3_3, c3_4, c3_5⟩ := cs6 F3; clear hb)
       | (go_at_call 81; with_reducible refine cl (impl_IntervalJoin.Mt a b lo hi hij _) B fun w406 hb B => ?_; replace F2 := bn F2 hb; replace F3 := bn F3 hb; replace F4 := bn F4 hb; clear c2_0 c2_1 c2_2 c2_3 c2_4 c2_5; obtain ⟨c2_0, c2_1, c2_2, c2_3, c2_4, c2_5⟩ := cs6 F2; clear c3_0 c3_1 c3_2 c3_3 c3_4 c3_5; obtain ⟨c3_0, c3_1, c3_2, c3_3, c3_4, c3_5⟩ := cs6 F3; clear hb)
       | ((with_reducible refine gate_dst (N := 6) rfl ?_); refine bx ?hg (N := 6) ?hd (cs := #[.string (⟨#[]⟩ : ByteArray), .string (⟨#[]⟩ : ByteArray)]) (t := 30) ?hr B ?_; (case hd => rfl); (case hg => rfl); (case hr => first | (go_simp; done) | (go_simp; rfl)); intro g6 w407 hb B F6 L6 E6; have N2_6 := ne1 E6 F2; have N3_6 := ne1 E6 F3; have N4_6 := ne1 E6 F4; replace F2 := bn F2 hb; replace F3 := bn F3 hb; replace F4 := bn F4 hb; clear c2_0 c2_1 c2_2 c2_3 c2_4 c2_5; obtain ⟨c2_0, c2_1, c2_2, c2_3, c2_4, c2_5⟩ := cs6 F2; clear c3_0 c3_1 c3_2 c3_3 c3_4 c3_5; obtain ⟨c3_0, c3_1, c3_2, c3_3, c3_4, c3_5⟩ := cs6 F3; clear hb E6)
       | ((with_reducible refine gate_store (t := 30) (p := 6) rfl ?_); obtain ⟨y0, y1⟩ := cs2 F6; have z0 := fz F6 0; have z1 := fz F6 1; refine sx (t := 30) (t' := 30) (p := 6) (v := ?vo408) ?hg ?ho ?hn 0 [.string a, .string hi] [.string a, .string hi] ?hr B F6 L6 rfl (Nat.le_of_ble_eq_true rfl) ?_; (case ho => rfl); (case hg => rfl); (case hn => rfl); (case hr => first | (go_simp; done) | (go_simp; rfl)); intro w408 hk B G; replace F2 := bk F2 hk N2_6.out; replace F3 := bk F3 hk N3_6.out; replace F4 := bk F4 hk N4_6.out; replace F6 := G; clear c2_0 c2_1 c2_2 c2_3 c2_4 c2_5; obtain ⟨c2_0, c2_1, c2_2, c2_3, c2_4, c2_5⟩ := cs6 F2; clear c3_0 c3_1 c3_2 c3_3 c3_4 c3_5; obtain ⟨c3_0, c3_1, c3_2, c3_3, c3_4, c3_5⟩ := cs6 F3; clear hk y0 z0 y1 z1)
       | (go_at_call 82; with_reducible refine crz (impl_PairsJoin.Mf _ _ ps _ _ qs hpj _ (cb HRP B) HCP.out (cb HRQ B) HCQ.out (by omega) (by omega)) B fun zJ409 hzJ409 AJ409 kJ409 w409 hb B RJ409 QJ409 => ?_; replace F2 := bn F2 hb; replace F3 := bn F3 hb; replace F4 := bn F4 hb; clear QJ409; clear hb)
       | ((with_reducible refine gate_store (t := 34) (p := 4) rfl ?_); obtain ⟨y0, y1, y2, y3, y4, y5⟩ := cs6 F4; have z0 := fz F4 0; have z1 := fz F4 1; have z2 := fz F4 2; have z3 := fz F4 3; have z4 := fz F4 4; have z5 := fz F4 5; refine sx (t := 34) (t' := 34) (p := 4) (v := ?vo410) ?hg ?ho ?hn 0 [.string (⟨#[]⟩ : ByteArray), .string (⟨#[]⟩ : ByteArray), .slice none 0 0, .slice none 0 0, .bool false, .string (⟨#[]⟩ : ByteArray)] [.string (⟨#[]⟩ : ByteArray), .string (⟨#[]⟩ : ByteArray), .slice none 0 0, .slice none 0 0, .bool false, .string (⟨#[]⟩ : ByteArray)] ?hr B F4 L4 rfl (Nat.le_of_ble_eq_true rfl) ?_; (case ho => rfl); (case hg => rfl); (case hn => rfl); (case hr => first | (go_simp; done) | (go_simp; rfl)); intro w410 hk B G; replace F2 := bk F2 hk N2_4.out; replace F3 := bk F3 hk N3_4.out; replace RJ409 := rk RJ409 F4 (by decide) hk; replace F4 := G; clear hk y0 z0 y1 z1 y2 z2 y3 z3 y4 z4 y5 z5))
      all_goals (refine bodyPost_ret (results_list (rs := [.cell 4 34, .tmp 5]) rfl (by simp) (.cell g4 34 _ (0, 0) _ rfl F4.out hu rfl (by kernel_rfl) (.tmp .nil))) rfl ?_; exact ⟨_, _, rfl, Kd.R_nil _ _ _ _ _, Kd.R_nil _ _ _ _ _, B.out⟩)
     | true =>
      rw [sj_good (show joinOk ⟨a, b, ps, ss, true, c⟩ ⟨lo, hi, qs, us, true, ct⟩ = true by unfold joinOk SM.ok; rw [hs, hu_, hij, hpj, decide_eq_true hc0, decide_eq_true hh0]; rfl)]
      go_enter Try.func40, Try.ntmps40
      go_wp2_with (first
       | ((with_reducible refine gate_dst (N := 2) rfl ?_); refine bx ?hg (N := 2) ?hd (cs := #[.string a, .string b, .slice AP ps.length cP, .slice AS ss.length cS, .bool true, .string c]) (t := 34) ?hr B ?_; (case hd => rfl); (case hg => rfl); (case hr => first | (go_simp; done) | (go_simp; rfl)); intro g2 w501 hb B F2 L2 E2; obtain ⟨c2_0, c2_1, c2_2, c2_3, c2_4, c2_5⟩ := cs6 F2; clear hb E2)
       | ((with_reducible refine gate_dst (N := 3) rfl ?_); refine bx ?hg (N := 3) ?hd (cs := #[.string lo, .string hi, .slice AQ qs.length cQ, .slice AU us.length cU, .bool true, .string ct]) (t := 34) ?hr B ?_; (case hd => rfl); (case hg => rfl); (case hr => first | (go_simp; done) | (go_simp; rfl)); intro g3 w502 hb B F3 L3 E3; replace F2 := bn F2 hb; clear c2_0 c2_1 c2_2 c2_3 c2_4 c2_5; obtain ⟨c2_0, c2_1, c2_2, c2_3, c2_4, c2_5⟩ := cs6 F2; obtain ⟨c3_0, c3_1, c3_2, c3_3, c3_4, c3_5⟩ := cs6 F3; clear hb E3)
       | ((with_reducible refine gate_dst (N := 4) rfl ?_); refine bx ?hg (N := 4) ?hd (cs := #[.string (⟨#[]⟩ : ByteArray), .string (⟨#[]⟩ : ByteArray), .slice none 0 0, .slice none 0 0, .bool false, .string (⟨#[]⟩ : ByteArray)]) (t := 34) ?hr B ?_; (case hd => rfl); (case hg => rfl); (case hr => first | (go_simp; done) | (go_simp; rfl)); intro g4 w503 hb B F4 L4 E4; have N2_4 := ne1 E4 F2; have N3_4 := ne1 E4 F3; replace F2 := bn F2 hb; replace F3 := bn F3 hb; clear c2_0 c2_1 c2_2 c2_3 c2_4 c2_5; obtain ⟨c2_0, c2_1, c2_2, c2_3, c2_4, c2_5⟩ := cs6 F2; clear c3_0 c3_1 c3_2 c3_3 c3_4 c3_5; obtain ⟨c3_0, c3_1, c3_2, c3_3, c3_4, c3_5⟩ := cs6 F3; clear hb E4)
       | (go_at_call 14; with_reducible refine cl (impl_StateValid.M a b _ _ ps _ _ ss true c _ (cb HRP B) (cb HRS B)) B fun w504 hb B => ?_; replace F2 := bn F2 hb; replace F3 := bn F3 hb; replace F4 := bn F4 hb; clear c2_0 c2_1 c2_2 c2_3 c2_4 c2_5; obtain ⟨c2_0, c2_1, c2_2, c2_3, c2_4, c2_5⟩ := cs6 F2; clear c3_0 c3_1 c3_2 c3_3 c3_4 c3_5; obtain ⟨c3_0, c3_1, c3_2, c3_3, c3_4, c3_5⟩ := cs6 F3; clear hb)
       | (go_at_call 14; with_reducible refine cl (impl_StateValid.M lo hi _ _ qs _ _ us true ct _ (cb HRQ B) (cb HRU B)) B fun w505 hb B => ?_; replace F2 := bn F2 hb; replace F3 := bn F3 hb; replace F4 := bn F4 hb; clear c2_0 c2_1 c2_2 c2_3 c2_4 c2_5; obtain ⟨c2_0, c2_1, c2_2, c2_3, c2_4, c2_5⟩ := cs6 F2; clear c3_0 c3_1 c3_2 c3_3 c3_4 c3_5; obtain ⟨c3_0, c3_1, c3_2, c3_3, c3_4, c3_5⟩ := cs6 F3; clear hb)
       | (go_at_call 81; with_reducible refine cl (impl_IntervalJoin.Mt a b lo hi hij _) B fun w506 hb B => ?_; replace F2 := bn F2 hb; replace F3 := bn F3 hb; replace F4 := bn F4 hb; clear c2_0 c2_1 c2_2 c2_3 c2_4 c2_5; obtain ⟨c2_0, c2_1, c2_2, c2_3, c2_4, c2_5⟩ := cs6 F2; clear c3_0 c3_1 c3_2 c3_3 c3_4 c3_5; obtain ⟨c3_0, c3_1, c3_2, c3_3, c3_4, c3_5⟩ := cs6 F3; clear hb)
       | ((with_reducible refine gate_dst (N := 6) rfl ?_); refine bx ?hg (N := 6) ?hd (cs := #[.string (⟨#[]⟩ : ByteArray), .string (⟨#[]⟩ : ByteArray)]) (t := 30) ?hr B ?_; (case hd => rfl); (case hg => rfl); (case hr => first | (go_simp; done) | (go_simp; rfl)); intro g6 w507 hb B F6 L6 E6; have N2_6 := ne1 E6 F2; have N3_6 := ne1 E6 F3; have N4_6 := ne1 E6 F4; replace F2 := bn F2 hb; replace F3 := bn F3 hb; replace F4 := bn F4 hb; clear c2_0 c2_1 c2_2 c2_3 c2_4 c2_5; obtain ⟨c2_0, c2_1, c2_2, c2_3, c2_4, c2_5⟩ := cs6 F2; clear c3_0 c3_1 c3_2 c3_3 c3_4 c3_5; obtain ⟨c3_0, c3_1, c3_2, c3_3, c3_4, c3_5⟩ := cs6 F3; obtain ⟨c6_0, c6_1⟩ := cs2 F6; clear hb E6)
       | ((with_reducible refine gate_store (t := 30) (p := 6) rfl ?_); obtain ⟨y0, y1⟩ := cs2 F6; have z0 := fz F6 0; have z1 := fz F6 1; refine sx (t := 30) (t' := 30) (p := 6) (v := ?vo508) ?hg ?ho ?hn 0 [.string a, .string hi] [.string a, .string hi] ?hr B F6 L6 rfl (Nat.le_of_ble_eq_true rfl) ?_; (case ho => rfl); (case hg => rfl); (case hn => rfl); (case hr => first | (go_simp; done) | (go_simp; rfl)); intro w508 hk B G; replace F2 := bk F2 hk N2_6.out; replace F3 := bk F3 hk N3_6.out; replace F4 := bk F4 hk N4_6.out; replace F6 := G; clear c2_0 c2_1 c2_2 c2_3 c2_4 c2_5; obtain ⟨c2_0, c2_1, c2_2, c2_3, c2_4, c2_5⟩ := cs6 F2; clear c3_0 c3_1 c3_2 c3_3 c3_4 c3_5; obtain ⟨c3_0, c3_1, c3_2, c3_3, c3_4, c3_5⟩ := cs6 F3; clear c6_0 c6_1; obtain ⟨c6_0, c6_1⟩ := cs2 F6; clear hk y0 z0 y1 z1)
       | (go_at_call 82; with_reducible refine crz (impl_PairsJoin.Mt _ _ ps _ _ qs hpj _ (cb HRP B) HCP.out (cb HRQ B) HCQ.out (by omega) (by omega)) B fun zJ509 hzJ509 AJ509 kJ509 w509 hb B RJ509 QJ509 => ?_; replace F2 := bn F2 hb; replace F3 := bn F3 hb; replace F4 := bn F4 hb; replace F6 := bn F6 hb; clear QJ509; clear c2_0 c2_1 c2_2 c2_3 c2_4 c2_5; obtain ⟨c2_0, c2_1, c2_2, c2_3, c2_4, c2_5⟩ := cs6 F2; clear c3_0 c3_1 c3_2 c3_3 c3_4 c3_5; obtain ⟨c3_0, c3_1, c3_2, c3_3, c3_4, c3_5⟩ := cs6 F3; clear c6_0 c6_1; obtain ⟨c6_0, c6_1⟩ := cs2 F6; clear hb))
      all_goals (
       refine rg (n := 10) (S := fun W => W.heap[g6]? = some (.cells #[.string a, .string hi] 30 (0, 0)) ∧ W.heap[g2]? = some (.cells #[.string a, .string b, .slice AP ps.length cP, .slice AS ss.length cS, .bool true, .string c] 34 (0, 0)) ∧ W.heap[g3]? = some (.cells #[.string lo, .string hi, .slice AQ qs.length cQ, .slice AU us.length cU, .bool true, .string ct] 34 (0, 0))) (ds := []) #[false, false, false, false, false, false, false, false, false, false] (by kernel_rfl) rfl rfl ⟨F6.out, F2.out, F3.out⟩ id B (fun w510 hb B hHeld => ?_)
       refine with_tabW impl_StateJoin.tab9 impl_StateJoin.bits9 (fun HT_ HW_ => ?_)
       replace F2 := bn F2 hb
       replace F3 := bn F3 hb
       replace F4 := bn F4 hb
       replace F6 := bn F6 hb
       replace RJ509 := rn RJ509 hb
       clear hb
       refine ta (i := 0) (N := some 60) (v := ?_) (bits 10 1) rfl rfl (take_ofW HT_.out HW_.out (by kernel_rfl)) (fun _ _ _ h => h) (by kernel_rfl) hHeld ?_ ?_; rotate_left; (intro w' hS; obtain ⟨s0, s1, s2⟩ := hS; obtain ⟨q0, q1⟩ := cs2 (Aside0.mk s0); go_simp; with_reducible rfl)
       refine pu (i := 1) (N := some 61) (v := ?_) (bits 10 3) rfl rfl (any_of HT_.out (by kernel_rfl)) (fun _ _ _ h => h) (by kernel_rfl) ?_ ?_; rotate_left; (intro w'; go_simp; with_reducible rfl)
       refine pu (i := 2) (N := some 62) (v := ?_) (bits 10 7) rfl rfl (any_of HT_.out (by kernel_rfl)) (fun _ _ _ h => h) (by kernel_rfl) ?_ ?_; rotate_left; (intro w'; go_simp; with_reducible rfl)
       refine ta (i := 3) (N := some 63) (v := ?_) (bits 10 15) rfl rfl (take_ofW HT_.out HW_.out (by kernel_rfl)) (fun _ _ _ h => h) (by kernel_rfl) hHeld ?_ ?_; rotate_left; (intro w' hS; obtain ⟨s0, s1, s2⟩ := hS; obtain ⟨q0, q1, q2, q3, q4, q5⟩ := cs6 (Aside0.mk s1); go_simp; with_reducible rfl)
       refine pu (i := 4) (N := some 64) (v := ?_) (bits 10 31) rfl rfl (any_of HT_.out (by kernel_rfl)) (fun _ _ _ h => h) (by kernel_rfl) ?_ ?_; rotate_left; (intro w'; go_simp; with_reducible rfl)
       refine ta (i := 5) (N := some 65) (v := ?_) (bits 10 63) rfl rfl (take_ofW HT_.out HW_.out (by kernel_rfl)) (fun _ _ _ h => h) (by kernel_rfl) hHeld ?_ ?_; rotate_left; (intro w' hS; obtain ⟨s0, s1, s2⟩ := hS; obtain ⟨q0, q1, q2, q3, q4, q5⟩ := cs6 (Aside0.mk s2); go_simp; with_reducible rfl)
       refine norm_ (a' := ?_) ?_ ?_
       rotate_left
       ·simp only [Act.put, List.setIfInBounds_toArray, List.set_cons_zero, List.set_cons_succ, i64_w, i32_w]
        rfl
       refine one_ (i := 6) (N := some 66) (bits 10 127) rfl rfl (one_of HT_.out (by kernel_rfl)) (by decide) (fun K hK => ?_)
       refine goes_ Try.func83 (by kernel_rfl) rfl #[.slice AS ss.length cS, .slice AU us.length cU] (by rfl) rfl rfl (by (try simp only [List.map_toArray, List.map_cons, List.map_nil]); rfl) ?_
       with_reducible refine cr (impl_SessionsJoin.M _ _ ss _ _ us _ (cb HRS B) HCS.out (cb HRU B) HCU.out) B fun AJ511 kJ511 w511 hb B RJ511 QJ511 => ?_
       replace F2 := bn F2 hb
       replace F3 := bn F3 hb
       replace F4 := bn F4 hb
       replace F6 := bn F6 hb
       replace RJ509 := rn RJ509 hb
       clear hb
       refine ⟨_, rfl, ?_⟩
       refine hK.out _ _ ⟨F6.out, F2.out, F3.out⟩ (fun hHeld => ?_)
       clear hK K
       refine norm_ (a' := ?_) ?_ ?_
       rotate_left
       ·show Act.put _ (some 66) _ = _
        simp only [Act.put, List.setIfInBounds_toArray, List.set_cons_zero, List.set_cons_succ, i64_w, i32_w]
        rfl
       clear QJ511
       refine pu (i := 7) (N := some 67) (v := ?_) (bits 10 255) rfl rfl (any_of HT_.out (by kernel_rfl)) (fun _ _ _ h => h) (by kernel_rfl) ?_ ?_; rotate_left; (intro w'; go_simp; with_reducible rfl)
       refine norm_ (a' := ?_) ?_ ?_
       rotate_left
       ·simp only [Act.put, List.setIfInBounds_toArray, List.set_cons_zero, List.set_cons_succ, i64_w, i32_w]
        rfl
       refine one_ (i := 8) (N := none) (bits 10 511) rfl rfl (one_of HT_.out (by kernel_rfl)) (by decide) (fun K hK => ?_)
       obtain ⟨y0, y1, y2, y3, y4, y5⟩ := cs6 F4
       have z0 := fz F4 0
       have z1 := fz F4 1
       have z2 := fz F4 2
       have z3 := fz F4 3
       have z4 := fz F4 4
       have z5 := fz F4 5
       refine sxs (g := g4) 0 [.string a, .string hi, .slice AJ509 zJ509.length kJ509, .slice AJ511 (joinB ss us).length kJ511, .bool false, .string (⟨#[]⟩ : ByteArray)] [.string a, .string hi, .slice AJ509 zJ509.length kJ509, .slice AJ511 (joinB ss us).length kJ511, .bool false, .string (⟨#[]⟩ : ByteArray)] (by rfl) rfl ?hr B F4 L4 rfl (Nat.le_of_ble_eq_true rfl) (fun w512 hk B G => ?_)
       (case hr => first | (go_simp; done) | (go_simp; rfl))
       replace F2 := bk F2 hk N2_4.out
       replace F3 := bk F3 hk N3_4.out
       replace F6 := bk F6 hk N4_6.out.symm
       replace RJ509 := rk RJ509 F4 (by decide) hk
       replace RJ511 := rk RJ511 F4 (by decide) hk
       replace F4 := G
       clear hk y0 z0 y1 z1 y2 z2 y3 z3 y4 z4 y5 z5
       refine hK.out _ _ ⟨F6.out, F2.out, F3.out⟩ (fun hHeld => ?_)
       clear hK K
       refine pu (i := 9) (N := some 5) (v := ?_) (bits 10 1023) rfl rfl (any_of HT_.out (by kernel_rfl)) (fun _ _ _ h => h) (by kernel_rfl) ?_ ?_; rotate_left; (intro w'; go_simp; with_reducible rfl)
       refine norm_ (a' := ?_) ?_ ?_
       rotate_left
       ·simp only [Act.put, List.setIfInBounds_toArray, List.set_cons_zero, List.set_cons_succ, i64_w, i32_w]
        rfl
       refine done_ (done_of HT_.out (by kernel_rfl)) ?_)
      all_goals try go_wp2
      all_goals (refine bodyPost_ret (results_list (rs := [.cell 4 34, .tmp 5]) rfl (by simp) (.cell g4 34 _ (0, 0) _ rfl F4.out hu rfl (by kernel_rfl) (.tmp .nil))) rfl ?_; subst hzJ509; exact ⟨_, _, rfl, RJ509.out, RJ511.out, B.out⟩)
   ·rw [sj_bad (show joinOk ⟨a, b, ps, ss, t, c⟩ ⟨lo, hi, qs, us, u2, ct⟩ = false by cases hj : joinOk ⟨a, b, ps, ss, t, c⟩ ⟨lo, hi, qs, us, u2, ct⟩ with | false => rfl | true => exact absurd (by obtain ⟨_, _, h1, h2, h3, h4, _⟩ := joinOk_parts hj; exact ⟨⟨h1, h2⟩, h3, h4⟩) hfl)]
    go_enter Try.func40, Try.ntmps40
    go_wp2_with (first
     | ((with_reducible refine gate_dst (N := 2) rfl ?_); refine bx ?hg (N := 2) ?hd (cs := #[.string a, .string b, .slice AP ps.length cP, .slice AS ss.length cS, .bool t, .string c]) (t := 34) ?hr B ?_; (case hd => rfl); (case hg => rfl); (case hr => first | (go_simp; done) | (go_simp; rfl)); intro g2 w201 hb B F2 L2 E2; obtain ⟨c2_0, c2_1, c2_2, c2_3, c2_4, c2_5⟩ := cs6 F2; clear hb E2)
     | ((with_reducible refine gate_dst (N := 3) rfl ?_); refine bx ?hg (N := 3) ?hd (cs := #[.string lo, .string hi, .slice AQ qs.length cQ, .slice AU us.length cU, .bool u2, .string ct]) (t := 34) ?hr B ?_; (case hd => rfl); (case hg => rfl); (case hr => first | (go_simp; done) | (go_simp; rfl)); intro g3 w202 hb B F3 L3 E3; replace F2 := bn F2 hb; clear c2_0 c2_1 c2_2 c2_3 c2_4 c2_5; obtain ⟨c2_0, c2_1, c2_2, c2_3, c2_4, c2_5⟩ := cs6 F2; obtain ⟨c3_0, c3_1, c3_2, c3_3, c3_4, c3_5⟩ := cs6 F3; clear hb E3)
     | ((with_reducible refine gate_dst (N := 4) rfl ?_); refine bx ?hg (N := 4) ?hd (cs := #[.string (⟨#[]⟩ : ByteArray), .string (⟨#[]⟩ : ByteArray), .slice none 0 0, .slice none 0 0, .bool false, .string (⟨#[]⟩ : ByteArray)]) (t := 34) ?hr B ?_; (case hd => rfl); (case hg => rfl); (case hr => first | (go_simp; done) | (go_simp; rfl)); intro g4 w203 hb B F4 L4 E4; have N2_4 := ne1 E4 F2; have N3_4 := ne1 E4 F3; replace F2 := bn F2 hb; replace F3 := bn F3 hb; clear c2_0 c2_1 c2_2 c2_3 c2_4 c2_5; obtain ⟨c2_0, c2_1, c2_2, c2_3, c2_4, c2_5⟩ := cs6 F2; clear c3_0 c3_1 c3_2 c3_3 c3_4 c3_5; obtain ⟨c3_0, c3_1, c3_2, c3_3, c3_4, c3_5⟩ := cs6 F3; clear hb E4)
     | (go_at_call 14; with_reducible refine cl (impl_StateValid.M a b _ _ ps _ _ ss t c _ (cb HRP B) (cb HRS B)) B fun w204 hb B => ?_; replace F2 := bn F2 hb; replace F3 := bn F3 hb; replace F4 := bn F4 hb; clear c2_0 c2_1 c2_2 c2_3 c2_4 c2_5; obtain ⟨c2_0, c2_1, c2_2, c2_3, c2_4, c2_5⟩ := cs6 F2; clear c3_0 c3_1 c3_2 c3_3 c3_4 c3_5; obtain ⟨c3_0, c3_1, c3_2, c3_3, c3_4, c3_5⟩ := cs6 F3; clear hb)
     | (go_at_call 14; with_reducible refine cl (impl_StateValid.M lo hi _ _ qs _ _ us u2 ct _ (cb HRQ B) (cb HRU B)) B fun w205 hb B => ?_; replace F2 := bn F2 hb; replace F3 := bn F3 hb; replace F4 := bn F4 hb; clear c2_0 c2_1 c2_2 c2_3 c2_4 c2_5; obtain ⟨c2_0, c2_1, c2_2, c2_3, c2_4, c2_5⟩ := cs6 F2; clear c3_0 c3_1 c3_2 c3_3 c3_4 c3_5; obtain ⟨c3_0, c3_1, c3_2, c3_3, c3_4, c3_5⟩ := cs6 F3; clear hb)
     | ((with_reducible refine gate_store (t := 34) (p := 4) rfl ?_); obtain ⟨y0, y1, y2, y3, y4, y5⟩ := cs6 F4; have z0 := fz F4 0; have z1 := fz F4 1; have z2 := fz F4 2; have z3 := fz F4 3; have z4 := fz F4 4; have z5 := fz F4 5; refine sx (t := 34) (t' := 34) (p := 4) (v := ?vo206) ?hg ?ho ?hn 0 [.string (⟨#[]⟩ : ByteArray), .string (⟨#[]⟩ : ByteArray), .slice none 0 0, .slice none 0 0, .bool false, .string (⟨#[]⟩ : ByteArray)] [.string (⟨#[]⟩ : ByteArray), .string (⟨#[]⟩ : ByteArray), .slice none 0 0, .slice none 0 0, .bool false, .string (⟨#[]⟩ : ByteArray)] ?hr B F4 L4 rfl (Nat.le_of_ble_eq_true rfl) ?_; (case ho => rfl); (case hg => rfl); (case hn => rfl); (case hr => first | (go_simp; done) | (go_simp; rfl)); intro w206 hk B G; replace F2 := bk F2 hk N2_4.out; replace F3 := bk F3 hk N3_4.out; replace F4 := G; clear hk y0 z0 y1 z1 y2 z2 y3 z3 y4 z4 y5 z5))
    all_goals first
     | (refine bodyPost_ret (results_list (rs := [.cell 4 34, .tmp 5]) rfl (by simp) (.cell g4 34 _ (0, 0) _ rfl F4.out hu rfl (by kernel_rfl) (.tmp .nil))) rfl ?_; exact ⟨_, _, rfl, Kd.R_nil _ _ _ _ _, Kd.R_nil _ _ _ _ _, B.out⟩)
     | (exfalso; apply hfl; simp_all)

theorem spec_StateJoin.Mr (a b : ByteArray) (AP : Option Addr) (cP : Nat) (ps : List S61) (AS : Option Addr) (cS : Nat) (ss : List S100) (t : Bool) (c : ByteArray) (lo hi : ByteArray) (AQ : Option Addr) (cQ : Nat) (qs : List S61) (AU : Option Addr) (cU : Nat) (us : List S100) (u2 : Bool) (ct : ByteArray) (xa xb : ByteArray) (xp : List S61) (xs : List S100) (xt : Bool) (xc : ByteArray) (ok : Bool) (hm : sjM ⟨a, b, ps, ss, t, c⟩ ⟨lo, hi, qs, us, u2, ct⟩ = (⟨xa, xb, xp, xs, xt, xc⟩, ok)) (w : World) (hrp : Kd.C k61 w AP ps.length ps) (hrs : Kd.C k100 w AS ss.length ss) (hrq : Kd.C k61 w AQ qs.length qs) (hru : Kd.C k100 w AU us.length us) (hcp : ps.length ≤ cP) (hcs : ss.length ≤ cS) (hcq : qs.length ≤ cQ) (hcu : us.length ≤ cU) : Calls Try.prog 41 #[.agg #[.string a, .string b, .slice AP ps.length cP, .slice AS ss.length cS, .bool t, .string c], .agg #[.string lo, .string hi, .slice AQ qs.length cQ, .slice AU us.length cU, .bool u2, .string ct]] w fun e w' => ∃ v2 v3, e = .returned (.tuple #[.agg #[.string xa, .string xb, v2, v3, .bool xt, .string xc], .bool ok]) ∧ Kd.R k61 61 w' w.heap.size (fun _ => True) v2 xp ∧ Kd.R k100 100 w' w.heap.size (fun _ => True) v3 xs ∧ Below w.heap.size w w' := by
 have h := spec_StateJoin.M a b AP cP ps AS cS ss t c lo hi AQ cQ qs AU cU us u2 ct w hrp hrs hrq hru hcp hcs hcq hcu
 rw [hm] at h
 exact h
theorem impl_StateJoin.Mr (a b : ByteArray) (AP : Option Addr) (cP : Nat) (ps : List S61) (AS : Option Addr) (cS : Nat) (ss : List S100) (t : Bool) (c : ByteArray) (lo hi : ByteArray) (AQ : Option Addr) (cQ : Nat) (qs : List S61) (AU : Option Addr) (cU : Nat) (us : List S100) (u2 : Bool) (ct : ByteArray) (xa xb : ByteArray) (xp : List S61) (xs : List S100) (xt : Bool) (xc : ByteArray) (ok : Bool) (hm : sjM ⟨a, b, ps, ss, t, c⟩ ⟨lo, hi, qs, us, u2, ct⟩ = (⟨xa, xb, xp, xs, xt, xc⟩, ok)) (w : World) (hrp : Kd.C k61 w AP ps.length ps) (hrs : Kd.C k100 w AS ss.length ss) (hrq : Kd.C k61 w AQ qs.length qs) (hru : Kd.C k100 w AU us.length us) (hcp : ps.length ≤ cP) (hcs : ss.length ≤ cS) (hcq : qs.length ≤ cQ) (hcu : us.length ≤ cU) : Calls Try.prog 40 #[.agg #[.string a, .string b, .slice AP ps.length cP, .slice AS ss.length cS, .bool t, .string c], .agg #[.string lo, .string hi, .slice AQ qs.length cQ, .slice AU us.length cU, .bool u2, .string ct]] w fun e w' => ∃ v2 v3, e = .returned (.tuple #[.agg #[.string xa, .string xb, v2, v3, .bool xt, .string xc], .bool ok]) ∧ Kd.R k61 61 w' w.heap.size (fun _ => True) v2 xp ∧ Kd.R k100 100 w' w.heap.size (fun _ => True) v3 xs ∧ Below w.heap.size w w' := by
 have h := impl_StateJoin.M a b AP cP ps AS cS ss t c lo hi AQ cQ qs AU cU us u2 ct w hrp hrs hrq hru hcp hcs hcq hcu
 rw [hm] at h
 exact h

/-! Calls that give or write several rows. -/
theorem c2r {P : Program} {F : FuncId} {args : Array Value} {w W : World} {Q : Ending → World → Prop} {α β : Type} {d : Kd α} {d' : Kd β} {e e' : Nat} {xs : List α} {ys : List β} {f : Value → Value → Value} (c : Calls P F args W fun r w' => ∃ v1 v2, r = .returned (f v1 v2) ∧ Kd.R d e w' W.heap.size (fun _ => True) v1 xs ∧ Kd.R d' e' w' W.heap.size (fun _ => True) v2 ys ∧ Below W.heap.size W w') (B : Aside0 (Below w.heap.size w W))
    (h : ∀ A kk A' kk' W', Below W.heap.size W W' → Aside0 (Below w.heap.size w W') → Aside0 (Ow d e W' w.heap.size (.slice A xs.length kk) xs) → Aside0 (Fr W (.slice A xs.length kk)) → Aside0 (Ow d' e' W' w.heap.size (.slice A' ys.length kk') ys) → Aside0 (Fr W (.slice A' ys.length kk')) → Q (.returned (f (.slice A xs.length kk) (.slice A' ys.length kk'))) W') : Calls P F args W Q :=
  c.mono (by
    rintro r W' ⟨v1, v2, rfl, ho, ho', hb⟩
    obtain ⟨A, kk, rfl⟩ := Kd.R_slice ho
    obtain ⟨A', kk', rfl⟩ := Kd.R_slice ho'
    exact h A kk A' kk' W' hb ⟨below_step B.out hb⟩ ⟨Kd.R_lower ho (below_size B.out)⟩ ⟨fun k hk => Kd.R_base ho k hk⟩ ⟨Kd.R_lower ho' (below_size B.out)⟩ ⟨fun k hk => Kd.R_base ho' k hk⟩)
theorem c4r {P : Program} {F : FuncId} {args : Array Value} {w W : World} {Q : Ending → World → Prop} {α β : Type} {d : Kd α} {d' : Kd β} {e e' : Nat} {xs xs2 : List α} {ys ys2 : List β} {f : Value → Value → Value → Value → Value} (c : Calls P F args W fun r w' => ∃ v1 v2 v3 v4, r = .returned (f v1 v2 v3 v4) ∧ Kd.R d e w' W.heap.size (fun _ => True) v1 xs ∧ Kd.R d' e' w' W.heap.size (fun _ => True) v2 ys ∧ Kd.R d e w' W.heap.size (fun _ => True) v3 xs2 ∧ Kd.R d' e' w' W.heap.size (fun _ => True) v4 ys2 ∧ (∀ k_, v3.ownBlock = some k_ → v1.ownBlock = some k_ → False) ∧ (∀ k_, v4.ownBlock = some k_ → v2.ownBlock = some k_ → False) ∧ Below W.heap.size W w') (B : Aside0 (Below w.heap.size w W))
    (h : ∀ A kk A' kk' A2 kk2 A3 kk3 W', Below W.heap.size W W' → Aside0 (Below w.heap.size w W') → Aside0 (Ow d e W' w.heap.size (.slice A xs.length kk) xs) → Aside0 (Fr W (.slice A xs.length kk)) → Aside0 (Ow d' e' W' w.heap.size (.slice A' ys.length kk') ys) → Aside0 (Fr W (.slice A' ys.length kk')) →
      Aside0 (Ow d e W' w.heap.size (.slice A2 xs2.length kk2) xs2) → Aside0 (Fr W (.slice A2 xs2.length kk2)) → Aside0 (Ow d' e' W' w.heap.size (.slice A3 ys2.length kk3) ys2) → Aside0 (Fr W (.slice A3 ys2.length kk3)) →
      Aside0 (∀ k_, (Value.slice A2 xs2.length kk2).ownBlock = some k_ → (Value.slice A xs.length kk).ownBlock = some k_ → False) → Aside0 (∀ k_, (Value.slice A3 ys2.length kk3).ownBlock = some k_ → (Value.slice A' ys.length kk').ownBlock = some k_ → False) →
      Q (.returned (f (.slice A xs.length kk) (.slice A' ys.length kk') (.slice A2 xs2.length kk2) (.slice A3 ys2.length kk3))) W') : Calls P F args W Q :=
  c.mono (by
    rintro r W' ⟨v1, v2, v3, v4, rfl, ho, ho', ho2, ho3, d1, d2, hb⟩
    obtain ⟨A, kk, rfl⟩ := Kd.R_slice ho
    obtain ⟨A', kk', rfl⟩ := Kd.R_slice ho'
    obtain ⟨A2, kk2, rfl⟩ := Kd.R_slice ho2
    obtain ⟨A3, kk3, rfl⟩ := Kd.R_slice ho3
    exact h A kk A' kk' A2 kk2 A3 kk3 W' hb ⟨below_step B.out hb⟩ ⟨Kd.R_lower ho (below_size B.out)⟩ ⟨fun k hk => Kd.R_base ho k hk⟩ ⟨Kd.R_lower ho' (below_size B.out)⟩ ⟨fun k hk => Kd.R_base ho' k hk⟩
      ⟨Kd.R_lower ho2 (below_size B.out)⟩ ⟨fun k hk => Kd.R_base ho2 k hk⟩ ⟨Kd.R_lower ho3 (below_size B.out)⟩ ⟨fun k hk => Kd.R_base ho3 k hk⟩ ⟨d1⟩ ⟨d2⟩)
/-- two rows are written -/
theorem cm2 {P : Program} {F : FuncId} {args : Array Value} {w W : World} {Q : Ending → World → Prop} {α β : Type} {d : Kd α} {d' : Kd β} {t t' : Nat} {xs : List α} {ys : List β} {ok ok' S : Nat → Prop} {v v' u : Value} (c : Calls P F args W fun e w' => e = .returned u ∧ d.R t w' w.heap.size ok v xs ∧ d'.R t' w' w.heap.size ok' v' ys ∧ Below w.heap.size w w' ∧ Kept W w' S)
    (h : ∀ W', Kept W W' S → Aside0 (Below w.heap.size w W') → Aside0 (Ow d t W' w.heap.size v xs) → Aside0 (Ow d' t' W' w.heap.size v' ys) → Q (.returned u) W') : Calls P F args W Q :=
  c.mono (by rintro e W' ⟨rfl, hr, hr', hb, hk⟩; exact h W' hk ⟨hb⟩ ⟨Kd.R_mono hr (fun _ _ => trivial)⟩ ⟨Kd.R_mono hr' (fun _ _ => trivial)⟩)
theorem bkp2 {W W' : World} {α β : Type} {d : Kd α} {d' : Kd β} {e e' b b' g t : Nat} {cs : Array Value} {v v' : Value} {xs : List α} {ys : List β} (F : Aside0 (W.heap[g]? = some (.cells cs t (0, 0)))) (hk : Kept W W' fun k => some k = v.ownBlock ∨ some k = v'.ownBlock) (R : Aside0 (Ow d e W b v xs)) (R' : Aside0 (Ow d' e' W b' v' ys)) (ht : e ≠ t) (ht' : e' ≠ t) : Aside0 (W'.heap[g]? = some (.cells cs t (0, 0))) :=
  ⟨blk_kept F.out hk (fun h => h.elim (Kd.R_ne R.out F.out ht) (Kd.R_ne R'.out F.out ht'))⟩
theorem rkp2 {W W' : World} {β : Type} {d' : Kd β} {e' b' : Nat} {v v' v2 : Value} {ys : List β} (R' : Aside0 (Ow d' e' W b' v' ys)) (hE : d'.E = []) (hk : Kept W W' fun k => some k = v.ownBlock ∨ some k = v2.ownBlock) (ne : ∀ k, v'.ownBlock = some k → v.ownBlock = some k → False) (ne2 : ∀ k, v'.ownBlock = some k → v2.ownBlock = some k → False) : Aside0 (Ow d' e' W' b' v' ys) :=
  ⟨Kd.R_mono (Kd.R_kept (Kd.R_tight hE R'.out) hk (fun k h1 h2 => h2.elim (fun h2 => ne k h1.symm h2.symm) (fun h2 => ne2 k h1.symm h2.symm))) (fun _ _ => trivial)⟩

theorem sameP_loop (xs : List S61) (hn : xs.length ≤ 2097152) (d : Nat) : ∀ (j : Nat), j + d = xs.length → ∀ k, d + 1 ≤ k → laws_samePairs.l0 k xs xs (j : Int) = some true := by
 induction d with
 | zero =>
  intro j hj k hk
  obtain ⟨k, rfl⟩ : ∃ i, k = i + 1 := ⟨k - 1, by omega⟩
  simp only [laws_samePairs.l0]
  rw [if_neg (by omega)]
 | succ d ih =>
  intro j hj k hk
  obtain ⟨k, rfl⟩ : ∃ i, k = i + 1 := ⟨k - 1, by omega⟩
  have e := ih (j + 1) (by omega) k (by omega)
  simp only [laws_samePairs.l0]
  rw [if_pos (by omega), if_pos (by omega), if_pos (by omega), if_neg (by simp), w64 (by omega) (by omega)]
  simpa using e
theorem laws_samePairs.M (A0 : Option Addr) (c0 : Nat) (A1 : Option Addr) (c1 : Nat) (l m : List S61) (he : l = m) (W : World) (h0 : Kd.C k61 W A0 l.length l) (hc0 : l.length ≤ c0) (h1 : Kd.C k61 W A1 m.length m) (hc1 : m.length ≤ c1) (hn : m.length ≤ 2097152) :
  Calls Try.prog 28 #[.slice A0 l.length c0, .slice A1 m.length c1] W fun e w' => e = .returned (.bool true) ∧ Below W.heap.size W w' := by
 subst he
 refine (laws_samePairs.calls (l.length + 21) A0 c0 l A1 c1 l true W h0 hc0 h1 hc1 ?_).mono (fun _ _ h => ⟨h.1, h.2.below⟩)
 unfold laws_samePairs.f
 rw [if_pos rfl]
 simpa using sameP_loop l hn l.length 0 (by omega) (l.length + 21) (by omega)
theorem sameS_loop (xs : List S100) (hn : xs.length ≤ 2097152) (d : Nat) : ∀ (j : Nat), j + d = xs.length → ∀ k, d + 1 ≤ k → laws_sameSessions.l0 k xs xs (j : Int) = some true := by
 induction d with
 | zero =>
  intro j hj k hk
  obtain ⟨k, rfl⟩ : ∃ i, k = i + 1 := ⟨k - 1, by omega⟩
  simp only [laws_sameSessions.l0]
  rw [if_neg (by omega)]
 | succ d ih =>
  intro j hj k hk
  obtain ⟨k, rfl⟩ : ∃ i, k = i + 1 := ⟨k - 1, by omega⟩
  have e := ih (j + 1) (by omega) k (by omega)
  simp only [laws_sameSessions.l0]
  rw [if_pos (by omega), if_pos (by omega), if_pos (by omega), if_neg (by simp), w64 (by omega) (by omega)]
  simpa using e
theorem laws_sameSessions.M (A0 : Option Addr) (c0 : Nat) (A1 : Option Addr) (c1 : Nat) (l m : List S100) (he : l = m) (W : World) (h0 : Kd.C k100 W A0 l.length l) (hc0 : l.length ≤ c0) (h1 : Kd.C k100 W A1 m.length m) (hc1 : m.length ≤ c1) (hn : m.length ≤ 2097152) :
  Calls Try.prog 37 #[.slice A0 l.length c0, .slice A1 m.length c1] W fun e w' => e = .returned (.bool true) ∧ Below W.heap.size W w' := by
 subst he
 refine (laws_sameSessions.calls (l.length + 21) A0 c0 l A1 c1 l true W h0 hc0 h1 hc1 ?_).mono (fun _ _ h => ⟨h.1, h.2.below⟩)
 unfold laws_sameSessions.f
 rw [if_pos rfl]
 simpa using sameS_loop l hn l.length 0 (by omega) (l.length + 21) (by omega)
theorem laws_alive.M (w : World) : Calls Try.prog 17 #[] w fun e w' => e = .returned (.bool true) ∧ Below w.heap.size w w' := laws_alive.calls 12 true w (by decide +kernel)
theorem laws_sameState.M (a b : ByteArray) (AP : Option Addr) (cP : Nat) (AQ : Option Addr) (cQ : Nat) (ps : List S61) (AS : Option Addr) (cS : Nat) (AU : Option Addr) (cU : Nat) (ss : List S100) (t : Bool) (c : ByteArray) (w : World) (hrp : Kd.C k61 w AP ps.length ps) (hrq : Kd.C k61 w AQ ps.length ps) (hrs : Kd.C k100 w AS ss.length ss) (hru : Kd.C k100 w AU ss.length ss) (hcp : ps.length ≤ cP) (hcq : ps.length ≤ cQ) (hcs : ss.length ≤ cS) (hcu : ss.length ≤ cU) (hpl : ps.length ≤ 2097152) (hsl : ss.length ≤ 2097152) : Calls Try.prog 35 #[.agg #[.string a, .string b, .slice AP ps.length cP, .slice AS ss.length cS, .bool t, .string c], .agg #[.string a, .string b, .slice AQ ps.length cQ, .slice AU ss.length cU, .bool t, .string c]] w fun e w' => e = .returned (.bool true) ∧ Below w.heap.size w w' := by
 have B := Aside0.mk (Below.refl w.heap.size w)
 have hu := Try.underlying34
 have HRP := Aside0.mk hrp
 have HRQ := Aside0.mk hrq
 have HRS := Aside0.mk hrs
 have HRU := Aside0.mk hru
 clear hrp hrq hrs hru
 have HCP := Aside0.mk hcp
 have HCQ := Aside0.mk hcq
 have HCS := Aside0.mk hcs
 have HCU := Aside0.mk hcu
 clear hcp hcq hcs hcu
 go_enter Try.func35, Try.ntmps35
 go_wp2_with (first
  | ((with_reducible refine gate_dst (N := 2) rfl ?_); refine bx ?hg (N := 2) ?hd (cs := #[.string a, .string b, .slice AP ps.length cP, .slice AS ss.length cS, .bool t, .string c]) (t := 34) ?hr B ?_; (case hd => rfl); (case hg => rfl); (case hr => first | (go_simp; done) | (go_simp; rfl)); intro g2 w1 hb B F2 L2 E2; obtain ⟨c2_0, c2_1, c2_2, c2_3, c2_4, c2_5⟩ := cs6 F2; clear hb E2)
  | ((with_reducible refine gate_dst (N := 3) rfl ?_); refine bx ?hg (N := 3) ?hd (cs := #[.string a, .string b, .slice AQ ps.length cQ, .slice AU ss.length cU, .bool t, .string c]) (t := 34) ?hr B ?_; (case hd => rfl); (case hg => rfl); (case hr => first | (go_simp; done) | (go_simp; rfl)); intro g3 w2 hb B F3 L3 E3; replace F2 := bn F2 hb; clear c2_0 c2_1 c2_2 c2_3 c2_4 c2_5; obtain ⟨c2_0, c2_1, c2_2, c2_3, c2_4, c2_5⟩ := cs6 F2; obtain ⟨c3_0, c3_1, c3_2, c3_3, c3_4, c3_5⟩ := cs6 F3; clear hb E3)
  | (go_at_call 28; with_reducible refine cl (laws_samePairs.M _ _ _ _ ps ps rfl _ (cb HRP B) HCP.out (cb HRQ B) HCQ.out (by assumption)) B fun w3 hb B => ?_; replace F2 := bn F2 hb; replace F3 := bn F3 hb; clear c2_0 c2_1 c2_2 c2_3 c2_4 c2_5; obtain ⟨c2_0, c2_1, c2_2, c2_3, c2_4, c2_5⟩ := cs6 F2; clear c3_0 c3_1 c3_2 c3_3 c3_4 c3_5; obtain ⟨c3_0, c3_1, c3_2, c3_3, c3_4, c3_5⟩ := cs6 F3; clear hb)
  | (go_at_call 37; with_reducible refine cl (laws_sameSessions.M _ _ _ _ ss ss rfl _ (cb HRS B) HCS.out (cb HRU B) HCU.out (by assumption)) B fun w4 hb B => ?_; replace F2 := bn F2 hb; replace F3 := bn F3 hb; clear c2_0 c2_1 c2_2 c2_3 c2_4 c2_5; obtain ⟨c2_0, c2_1, c2_2, c2_3, c2_4, c2_5⟩ := cs6 F2; clear c3_0 c3_1 c3_2 c3_3 c3_4 c3_5; obtain ⟨c3_0, c3_1, c3_2, c3_3, c3_4, c3_5⟩ := cs6 F3; clear hb))
 all_goals go_ret
 all_goals exact ⟨by simp_all, B.out⟩
theorem laws_sameState.Z (AP : Option Addr) (cP : Nat) (AS : Option Addr) (cS : Nat) (w : World) (hrp : Kd.C k61 w AP 0 []) (hrs : Kd.C k100 w AS 0 []) : Calls Try.prog 35 #[.agg #[.string (⟨#[]⟩ : ByteArray), .string (⟨#[]⟩ : ByteArray), .slice AP 0 cP, .slice AS 0 cS, .bool false, .string (⟨#[]⟩ : ByteArray)], .agg #[.string (⟨#[]⟩ : ByteArray), .string (⟨#[]⟩ : ByteArray), .slice none 0 0, .slice none 0 0, .bool false, .string (⟨#[]⟩ : ByteArray)]] w fun e w' => e = .returned (.bool true) ∧ Below w.heap.size w w' :=
 laws_sameState.M (⟨#[]⟩ : ByteArray) (⟨#[]⟩ : ByteArray) AP cP none 0 [] AS cS none 0 [] false (⟨#[]⟩ : ByteArray) w hrp (nilC _ _) hrs (nilC _ _) (Nat.zero_le _) (Nat.le_refl 0) (Nat.zero_le _) (Nat.le_refl 0) (Nat.zero_le _) (Nat.zero_le _)
theorem laws_noState.M (AP : Option Addr) (cP : Nat) (AS : Option Addr) (cS : Nat) (w : World) (hrp : Kd.C k61 w AP 0 []) (hrs : Kd.C k100 w AS 0 []) : Calls Try.prog 36 #[.agg #[.string (⟨#[]⟩ : ByteArray), .string (⟨#[]⟩ : ByteArray), .slice AP 0 cP, .slice AS 0 cS, .bool false, .string (⟨#[]⟩ : ByteArray)]] w fun e w' => e = .returned (.bool true) ∧ Below w.heap.size w w' := by
 have B := Aside0.mk (Below.refl w.heap.size w)
 have hu := Try.underlying34
 have HRP := Aside0.mk hrp
 have HRS := Aside0.mk hrs
 clear hrp hrs
 go_enter Try.func36, Try.ntmps36
 go_wp2_with (first
  | ((with_reducible refine gate_dst (N := 1) rfl ?_); refine bx ?hg (N := 1) ?hd (cs := #[.string (⟨#[]⟩ : ByteArray), .string (⟨#[]⟩ : ByteArray), .slice AP ([] : List S61).length cP, .slice AS ([] : List S100).length cS, .bool false, .string (⟨#[]⟩ : ByteArray)]) (t := 34) ?hr B ?_; (case hd => rfl); (case hg => rfl); (case hr => first | (go_simp; done) | (go_simp; rfl)); intro g1 w1 hb B F1 L1 E1; obtain ⟨c1_0, c1_1, c1_2, c1_3, c1_4, c1_5⟩ := cs6 F1; clear hb E1)
  | (go_at_call 35; with_reducible refine cl (laws_sameState.Z AP cP AS cS _ (cb HRP B) (cb HRS B)) B fun w2 hb B => ?_; clear hb))
 all_goals go_ret
 all_goals exact ⟨rfl, B.out⟩

/-! A reader of a code that functions share: what their calls keep. -/
section
variable {w W W' W0 : World} {g gb t p2 : Nat} {bs : List Int} {p p' : Int} {cs : Array Value} {α : Type} {d : Kd α} {e b : Nat} {v v1 : Value} {xs : List α}
def RB (g : Nat) : Nat → Prop := fun k => k = g
theorem bkr (F : Aside0 (W.heap[gb]? = some (.cells cs t (0, 0)))) (HI : Aside0 (IsS119 w W g bs p)) (ht : t ≠ 119) (hk : Kept W W' (RB g)) : Aside0 (W'.heap[gb]? = some (.cells cs t (0, 0))) := ⟨blk_kept F.out hk (fun h => HI.out.ne_blk F.out ht h.symm)⟩
theorem rkr (R : Aside0 (Ow d e W b v xs)) (HI : Aside0 (IsS119 w W g bs p)) (ht : ∀ q, q ∈ e :: d.E → q ≠ 119) (hk : Kept W W' (RB g)) : Aside0 (Ow d e W' b v xs) := ⟨Kd.R_mono (Kd.R_kept (HI.out.apart R.out ht) hk (fun _ h => h.2)) (fun _ _ => trivial)⟩
theorem hib (HI : Aside0 (IsS119 w W g bs p)) (hb : Below W.heap.size W W') : Aside0 (IsS119 w W' g bs p) := ⟨HI.out.below hb⟩
theorem his (HI : Aside0 (IsS119 w W g bs p)) (F : Aside0 (W.heap[gb]? = some (.cells cs t (0, 0)))) (ht : t ≠ 119) (hk : KeepBut W W' gb none) : Aside0 (IsS119 w W' g bs p) := ⟨HI.out.kept (Kept.of_keep (Kept.refl W (RB gb)) hk (.inl rfl)) (fun h => HI.out.ne_blk F.out ht h)⟩
theorem hig (HI : Aside0 (IsS119 w W g bs p)) (R : Aside0 (Ow d e W b v xs)) (ht : e ≠ 119) (hg : W.grownBy W' v.ownBlock) : Aside0 (IsS119 w W' g bs p) := ⟨HI.out.grown hg (HI.out.own_ne R.out ht)⟩
theorem hig0 (HI : Aside0 (IsS119 w W g bs p)) (hg : W.grownBy W' (Value.slice none 0 0).ownBlock) : Aside0 (IsS119 w W' g bs p) := ⟨HI.out.grown hg (fun h => nomatch h)⟩
theorem kkb (K : Aside0 (Kept W0 W (RB g))) (hb : Below W.heap.size W W') : Aside0 (Kept W0 W' (RB g)) := ⟨K.out.below hb⟩
theorem kks (K : Aside0 (Kept W0 W (RB g))) (M : Aside0 (W0.heap.size ≤ gb)) (hk : KeepBut W W' gb none) : Aside0 (Kept W0 W' (RB g)) := ⟨K.out.of_keep hk (.inr M.out)⟩
theorem kkr (K : Aside0 (Kept W0 W (RB g))) (hk : Kept W W' (RB g)) : Aside0 (Kept W0 W' (RB g)) := ⟨K.out.then_ hk (fun _ h => .inl h)⟩
theorem kkg (K : Aside0 (Kept W0 W (RB g))) (M : Aside0 (Fr W0 v)) (hg : W.grownBy W' v.ownBlock) : Aside0 (Kept W0 W' (RB g)) := ⟨Kept.of_grown hg K.out (fun k h => .inr (M.out k h))⟩
theorem kkg0 (K : Aside0 (Kept W0 W (RB g))) (hg : W.grownBy W' (Value.slice none 0 0).ownBlock) : Aside0 (Kept W0 W' (RB g)) := ⟨Kept.of_grown hg K.out (fun _ h => nomatch h)⟩
theorem mbx (E : Aside0 (gb = W.heap.size)) (K : Aside0 (Kept W0 W (RB g))) : Aside0 (W0.heap.size ≤ gb) := ⟨E.out ▸ K.out.1⟩
theorem mrf (Q : Aside0 (Fr W v)) (K : Aside0 (Kept W0 W (RB g))) : Aside0 (Fr W0 v) := ⟨fun k h => Nat.le_trans K.out.1 (Q.out k h)⟩
theorem mra (hat : Aside0 (v1.ownBlock = v.ownBlock ∨ ∃ b, v1.ownBlock = some b ∧ W.heap.size ≤ b)) (M : Aside0 (Fr W0 v)) (K : Aside0 (Kept W0 W (RB g))) : Aside0 (Fr W0 v1) := ⟨fun k h => by
  rcases hat.out with h1 | ⟨b, h1, hb⟩
  · exact M.out k (h1 ▸ h)
  · rw [h1] at h
    cases h
    exact Nat.le_trans K.out.1 hb⟩
theorem mra0 (hat : Aside0 (v1.ownBlock = (Value.slice none 0 0).ownBlock ∨ ∃ b, v1.ownBlock = some b ∧ W.heap.size ≤ b)) (K : Aside0 (Kept W0 W (RB g))) : Aside0 (Fr W0 v1) := mra hat ⟨fun _ h => nomatch h⟩ K
end
section
variable {P : Program} {F : FuncId} {args : Array Value} {w W : World} {Q : Ending → World → Prop} {g : Nat} {bs : List Int} {p N : Int} {α β τ σ : Type}
/-- what a call with a reader leaves -/
def Left (w W : World) (g : Nat) (bs : List Int) (p N : Int) (p' : Int) (w' : World) : Prop := (p ≤ p' ∧ p' ≤ p + N) ∧ IsS119 w w' g bs p' ∧ Below w.heap.size w w' ∧ Kept W w' (RB g)
theorem cg1 {f : α → Value} {q : α → Prop} (c : Calls P F args W fun e w' => ∃ x p', e = .returned (f x) ∧ q x ∧ Left w W g bs p N p' w')
    (h : ∀ x p', q x → (p ≤ p' ∧ p' ≤ p + N) → ∀ W', Kept W W' (RB g) → Aside0 (Below w.heap.size w W') → Aside0 (IsS119 w W' g bs p') → Q (.returned (f x)) W') : Calls P F args W Q :=
  c.mono (by rintro e W' ⟨x, p', rfl, hq, hp, hi, hb, hk⟩; exact h x p' hq hp W' hk ⟨hb⟩ ⟨hi⟩)
theorem cg2 {f : α → β → Value} {q : α → β → Prop} (c : Calls P F args W fun e w' => ∃ x y p', e = .returned (f x y) ∧ q x y ∧ Left w W g bs p N p' w')
    (h : ∀ x y p', q x y → (p ≤ p' ∧ p' ≤ p + N) → ∀ W', Kept W W' (RB g) → Aside0 (Below w.heap.size w W') → Aside0 (IsS119 w W' g bs p') → Q (.returned (f x y)) W') : Calls P F args W Q :=
  c.mono (by rintro e W' ⟨x, y, p', rfl, hq, hp, hi, hb, hk⟩; exact h x y p' hq hp W' hk ⟨hb⟩ ⟨hi⟩)
theorem cg3 {f : α → β → τ → Value} {q : α → β → τ → Prop} (c : Calls P F args W fun e w' => ∃ x y z p', e = .returned (f x y z) ∧ q x y z ∧ Left w W g bs p N p' w')
    (h : ∀ x y z p', q x y z → (p ≤ p' ∧ p' ≤ p + N) → ∀ W', Kept W W' (RB g) → Aside0 (Below w.heap.size w W') → Aside0 (IsS119 w W' g bs p') → Q (.returned (f x y z)) W') : Calls P F args W Q :=
  c.mono (by rintro e W' ⟨x, y, z, p', rfl, hq, hp, hi, hb, hk⟩; exact h x y z p' hq hp W' hk ⟨hb⟩ ⟨hi⟩)
theorem cgr {d : Kd α} {e : Nat} {f : Value → Value} {q : List α → Prop} (c : Calls P F args W fun r w' => ∃ v0 xs p', r = .returned (f v0) ∧ q xs ∧ Kd.R d e w' w.heap.size (fun _ => True) v0 xs ∧ Fr W v0 ∧ Left w W g bs p N p' w')
    (h : ∀ xs A kk p', q xs → (p ≤ p' ∧ p' ≤ p + N) → ∀ W', Kept W W' (RB g) → Aside0 (Below w.heap.size w W') → Aside0 (IsS119 w W' g bs p') → Aside0 (Ow d e W' w.heap.size (.slice A xs.length kk) xs) → Aside0 (Fr W (.slice A xs.length kk)) → Q (.returned (f (.slice A xs.length kk))) W') : Calls P F args W Q :=
  c.mono (by
    rintro r W' ⟨v0, xs, p', rfl, hq, ho, hf, hp, hi, hb, hk⟩
    obtain ⟨A, kk, rfl⟩ := Kd.R_slice ho
    exact h xs A kk p' hq hp W' hk ⟨hb⟩ ⟨hi⟩ ⟨ho⟩ ⟨hf⟩)
/-- a state -/
theorem cgs {d : Kd α} {d' : Kd β} {e e' : Nat} {f : ByteArray → ByteArray → Value → Value → Bool → ByteArray → Value} {q : List α → List β → Prop} (c : Calls P F args W fun r w' => ∃ a b v0 v1 t c xs ys p', r = .returned (f a b v0 v1 t c) ∧ q xs ys ∧ (Kd.R d e w' w.heap.size (fun _ => True) v0 xs ∧ Fr W v0) ∧ (Kd.R d' e' w' w.heap.size (fun _ => True) v1 ys ∧ Fr W v1) ∧ Left w W g bs p N p' w')
    (h : ∀ a b t c xs ys A kk A' kk' p', q xs ys → (p ≤ p' ∧ p' ≤ p + N) → ∀ W', Kept W W' (RB g) → Aside0 (Below w.heap.size w W') → Aside0 (IsS119 w W' g bs p') → Aside0 (Ow d e W' w.heap.size (.slice A xs.length kk) xs) → Aside0 (Fr W (.slice A xs.length kk)) → Aside0 (Ow d' e' W' w.heap.size (.slice A' ys.length kk') ys) → Aside0 (Fr W (.slice A' ys.length kk')) →
      Q (.returned (f a b (.slice A xs.length kk) (.slice A' ys.length kk') t c)) W') : Calls P F args W Q :=
  c.mono (by
    rintro r W' ⟨a, b, v0, v1, t, c, xs, ys, p', rfl, hq, ⟨ho, hf⟩, ⟨ho', hf'⟩, hp, hi, hb, hk⟩
    obtain ⟨A, kk, rfl⟩ := Kd.R_slice ho
    obtain ⟨A', kk', rfl⟩ := Kd.R_slice ho'
    exact h a b t c xs ys A kk A' kk' p' hq hp W' hk ⟨hb⟩ ⟨hi⟩ ⟨ho⟩ ⟨hf⟩ ⟨ho'⟩ ⟨hf'⟩)
theorem copen {w W : World} {P : Program} {F : FuncId} {args : Array Value} {Q : Ending → World → Prop} {bs : List Int} {p : Int} (c : Calls P F args W fun e w' => ∃ g, e = .returned (.pointer (some ⟨g, 0, none⟩)) ∧ IsS119 w w' g bs p ∧ Below w.heap.size w w' ∧ Below W.heap.size W w')
    (h : ∀ g W', Below W.heap.size W W' → Aside0 (Below w.heap.size w W') → Aside0 (IsS119 w W' g bs p) → Q (.returned (.pointer (some ⟨g, 0, none⟩))) W') : Calls P F args W Q :=
  c.mono (by rintro e W' ⟨g, rfl, hi, hb, hb'⟩; exact h g W' hb' ⟨hb⟩ ⟨hi⟩)
theorem kept_keep {W W' : World} {g : Nat} (h : KeepBut W W' g none) : Kept W W' (RB g) := Kept.of_keep (Kept.refl W _) h (.inl rfl)
end

/-! What draws of states give. -/
section
variable {P : Program} {F : FuncId} {args : Array Value} {w W : World} {Q : Ending → World → Prop} {α β : Type} {d : Kd α} {d' : Kd β} {e e' : Nat}
theorem cdst {f : ByteArray → ByteArray → Value → Value → Bool → ByteArray → Value} {q : List α → List β → Prop} (c : Calls P F args W fun r w' => ∃ a b v0 v1 t c xs ys, r = .returned (f a b v0 v1 t c) ∧ q xs ys ∧ Kd.R d e w' W.heap.size (fun _ => True) v0 xs ∧ Kd.R d' e' w' W.heap.size (fun _ => True) v1 ys ∧ Below W.heap.size W w') (B : Aside0 (Below w.heap.size w W))
    (h : ∀ a b t c xs ys A kk A' kk' W', q xs ys → Below W.heap.size W W' → Aside0 (Below w.heap.size w W') → Aside0 (Ow d e W' w.heap.size (.slice A xs.length kk) xs) → Aside0 (Ow d' e' W' w.heap.size (.slice A' ys.length kk') ys) → Q (.returned (f a b (.slice A xs.length kk) (.slice A' ys.length kk') t c)) W') : Calls P F args W Q :=
  c.mono (by
    rintro r W' ⟨a, b, v0, v1, t, c, xs, ys, rfl, hq, ho, ho', hb⟩
    obtain ⟨A, kk, rfl⟩ := Kd.R_slice ho
    obtain ⟨A', kk', rfl⟩ := Kd.R_slice ho'
    exact h a b t c xs ys A kk A' kk' W' hq hb ⟨below_step B.out hb⟩ ⟨Kd.R_lower ho (below_size B.out)⟩ ⟨Kd.R_lower ho' (below_size B.out)⟩)
theorem cdst2 {f : ByteArray → ByteArray → Value → Value → Bool → ByteArray → ByteArray → ByteArray → Value → Value → Bool → ByteArray → Value} {q : List α → List β → List α → List β → Prop} (c : Calls P F args W fun r w' => ∃ a b v0 v1 t c xs ys a2 b2 v2 v3 t2 c2 xs2 ys2, r = .returned (f a b v0 v1 t c a2 b2 v2 v3 t2 c2) ∧ q xs ys xs2 ys2 ∧ (Kd.R d e w' W.heap.size (fun _ => True) v0 xs ∧ Kd.R d' e' w' W.heap.size (fun _ => True) v1 ys) ∧ (Kd.R d e w' W.heap.size (fun _ => True) v2 xs2 ∧ Kd.R d' e' w' W.heap.size (fun _ => True) v3 ys2) ∧ Below W.heap.size W w') (B : Aside0 (Below w.heap.size w W))
    (h : ∀ a b t c xs ys A kk A' kk' a2 b2 t2 c2 xs2 ys2 A2 kk2 A3 kk3 W', q xs ys xs2 ys2 → Below W.heap.size W W' → Aside0 (Below w.heap.size w W') → Aside0 (Ow d e W' w.heap.size (.slice A xs.length kk) xs) → Aside0 (Ow d' e' W' w.heap.size (.slice A' ys.length kk') ys) → Aside0 (Ow d e W' w.heap.size (.slice A2 xs2.length kk2) xs2) → Aside0 (Ow d' e' W' w.heap.size (.slice A3 ys2.length kk3) ys2) →
      Q (.returned (f a b (.slice A xs.length kk) (.slice A' ys.length kk') t c a2 b2 (.slice A2 xs2.length kk2) (.slice A3 ys2.length kk3) t2 c2)) W') : Calls P F args W Q :=
  c.mono (by
    rintro r W' ⟨a, b, v0, v1, t, c, xs, ys, a2, b2, v2, v3, t2, c2, xs2, ys2, rfl, hq, ⟨ho, ho'⟩, ⟨ho2, ho3⟩, hb⟩
    obtain ⟨A, kk, rfl⟩ := Kd.R_slice ho
    obtain ⟨A', kk', rfl⟩ := Kd.R_slice ho'
    obtain ⟨A2, kk2, rfl⟩ := Kd.R_slice ho2
    obtain ⟨A3, kk3, rfl⟩ := Kd.R_slice ho3
    exact h a b t c xs ys A kk A' kk' a2 b2 t2 c2 xs2 ys2 A2 kk2 A3 kk3 W' hq hb ⟨below_step B.out hb⟩ ⟨Kd.R_lower ho (below_size B.out)⟩ ⟨Kd.R_lower ho' (below_size B.out)⟩ ⟨Kd.R_lower ho2 (below_size B.out)⟩ ⟨Kd.R_lower ho3 (below_size B.out)⟩)
end
/-- where a walk is to stand -/
structure Stop (p : Prop) : Prop where
  out : p

end Go.Proofs.Ytenfiihcdhnamaa.PFnStateJoin
