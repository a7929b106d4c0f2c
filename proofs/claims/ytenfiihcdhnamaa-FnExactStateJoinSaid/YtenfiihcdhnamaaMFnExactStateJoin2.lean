/- Walks over models, part 2: eqst markp marks markst drs lawFnExactStateJoin. -/
import Derived.Test.YtenfiihcdhnamaaPFnExactStateJoinx0
import Derived.Deep.RegionHeld3
import Derived.Lib.Strings
import Derived.Laws.BytesArg
import Derived.Test.YtenfiihcdhnamaaPFnExactStateJoinx19
import Derived.Test.YtenfiihcdhnamaaPFnExactStateJoinx22
import Derived.Test.YtenfiihcdhnamaaPFnExactStateJoinx20
import Derived.Test.YtenfiihcdhnamaaPFnExactStateJoinx23
import Derived.Test.YtenfiihcdhnamaaMFnExactStateJoin0
import Derived.Test.YtenfiihcdhnamaaMFnExactStateJoin1
namespace Go.Proofs.Ytenfiihcdhnamaa.PFnExactStateJoin
open Go.RowKit Go.Proofs.YtenfiihcdhnamaaW.PrintWords Go.Proofs.YtenfiihcdhnamaaW.PrintLast Go.Proofs.YtenfiihcdhnamaaW.PrintMore
set_option linter.unusedVariables false
set_option linter.unusedSimpArgs false
set_option maxHeartbeats 4000000
set_option maxRecDepth 100000
attribute [local go_sem] leq_str geq_str gtr_str
theorem laws_eqInterval.M (x0 : ByteArray) (x1 : ByteArray) (w : World) : Calls Try.prog 60 #[.agg #[.string x0, .string x1], .agg #[.string x0, .string x1]] w fun e w' => e = .returned (.bool true) ∧ Below w.heap.size w w' := by
  have B := Aside0.mk (Below.refl w.heap.size w)
  have hu := Try.underlying30
  go_enter Try.func60, Try.ntmps60
  go_wp2_with (first
    | ((with_reducible refine gate_dst (N := 2) rfl ?_); refine bx ?hg (N := 2) ?hd (cs := #[.string x0, .string x1]) (t := 30) ?hr B ?_; (case hd => rfl); (case hg => rfl); (case hr => first | (go_simp; done) | (go_simp; rfl)); intro g2 w1 hb B F2 L2 E2; obtain ⟨c2_0, c2_1⟩ := cs2 F2; clear hb E2)
    | ((with_reducible refine gate_dst (N := 3) rfl ?_); refine bx ?hg (N := 3) ?hd (cs := #[.string x0, .string x1]) (t := 30) ?hr B ?_; (case hd => rfl); (case hg => rfl); (case hr => first | (go_simp; done) | (go_simp; rfl)); intro g3 w2 hb B F3 L3 E3; replace F2 := bn F2 hb; clear c2_0 c2_1; obtain ⟨c2_0, c2_1⟩ := cs2 F2; obtain ⟨c3_0, c3_1⟩ := cs2 F3; clear hb E3))
  all_goals go_ret
  all_goals (refine ⟨?_, B.out⟩; first | rfl | simp_all)
theorem laws_eqPair.M (x0 : ByteArray) (x1 : Int) (w : World) : Calls Try.prog 67 #[.agg #[.string x0, .int .i64 (x1)], .agg #[.string x0, .int .i64 (x1)]] w fun e w' => e = .returned (.bool true) ∧ Below w.heap.size w w' := by
  have B := Aside0.mk (Below.refl w.heap.size w)
  have hu := Try.underlying61
  go_enter Try.func67, Try.ntmps67
  go_wp2_with (first
    | ((with_reducible refine gate_dst (N := 2) rfl ?_); refine bx ?hg (N := 2) ?hd (cs := #[.string x0, .int .i64 (x1)]) (t := 61) ?hr B ?_; (case hd => rfl); (case hg => rfl); (case hr => first | (go_simp; done) | (go_simp; rfl)); intro g2 w1 hb B F2 L2 E2; obtain ⟨c2_0, c2_1⟩ := cs2 F2; clear hb E2)
    | ((with_reducible refine gate_dst (N := 3) rfl ?_); refine bx ?hg (N := 3) ?hd (cs := #[.string x0, .int .i64 (x1)]) (t := 61) ?hr B ?_; (case hd => rfl); (case hg => rfl); (case hr => first | (go_simp; done) | (go_simp; rfl)); intro g3 w2 hb B F3 L3 E3; replace F2 := bn F2 hb; clear c2_0 c2_1; obtain ⟨c2_0, c2_1⟩ := cs2 F2; obtain ⟨c3_0, c3_1⟩ := cs2 F3; clear hb E3))
  all_goals go_ret
  all_goals (refine ⟨?_, B.out⟩; first | rfl | simp_all)
def laws_eqPairS.T6 : Bool × List (List Nat × List Nat) := (true, [([], []), ([], []), ([0, 1], [0, 1]), ([2], [2]), ([], []), ([], []), ([4, 5], [4, 5]), ([6], [6]), ([3, 7], [3, 7]), ([8], [8])])
def laws_eqPairS.B6 : List Nat := [0, 0, 3, 7, 0, 0, 48, 112, 255, 511]
theorem laws_eqPairS.tab6 : rtab .any (opsOf Try.f22 6) = laws_eqPairS.T6 := by kernel_rfl
theorem laws_eqPairS.bits6 : waitsOk laws_eqPairS.T6.2 laws_eqPairS.B6 = true := by kernel_rfl
theorem laws_eqPairS.M (A0 : Option Addr) (c0 : Nat) (A1 : Option Addr) (c1 : Nat) (l : List S61) (w : World) (hr0 : Kd.C k61 w A0 l.length l) (hr1 : Kd.C k61 w A1 l.length l) : Calls Try.prog 22 #[.slice A0 l.length c0, .slice A1 l.length c1] w fun e w' => e = .returned (.bool true) ∧ Below w.heap.size w w' := by
  have B := Aside0.mk (Below.refl w.heap.size w)
  have hu := Try.underlying61
  have HR0 := Aside0.mk hr0
  have HR1 := Aside0.mk hr1
  have L48 := Aside0.mk hr0.2.1
  clear hr0 hr1
  go_enter Try.func22, Try.ntmps22
  go_wp2
  go_loopg [5] (l.length + 1) (fun kx v5 wr => ∃ j : Nat, v5 = .int .i64 (j : Int) ∧ j ≤ l.length ∧ l.length < j + kx ∧ Aside0 (Below w.heap.size w wr))
  case atStart => exact ⟨0, rfl, by omega, by omega, B⟩
  case round =>
    clear B
    obtain ⟨j, rfl, hj, hk, B⟩ := hrel
    have h48 := L48.out
    by_cases hlt : j < l.length
    · obtain ⟨d, rfl⟩ : ∃ d, gk = d + 1 := ⟨gk - 1, by omega⟩
      have cj : decide ((j : Int) < (l.length : Int)) = true := decide_eq_true (by omega)
      obtain ⟨ad, hA, _⟩ := at_T61 (cb HR0 B) (j : Int) (by omega) (by omega)
      cases hA
      obtain ⟨bd, hA, _⟩ := at_T61 (cb HR1 B) (j : Int) (by omega) (by omega)
      cases hA
      have j1 := eq_true (show (j : Int) < (l.length : Int) by omega)
      have j2 := eq_true hlt
      generalize hy : rd_T61 l (j : Int) = y
      try go_wp2
      all_goals (
        refine rg (n := 10) (S := fun W => Kd.C k61 W (some ad) l.length l ∧ Kd.C k61 W (some bd) l.length l) (ds := []) #[false, false, false, false, false, false, false, false, false, false] (by kernel_rfl) rfl rfl ⟨(cb HR0 B), (cb HR1 B)⟩ id B (fun w1 hb B hHeld => ?_)
        refine with_tabW laws_eqPairS.tab6 laws_eqPairS.bits6 (fun HT_ HW_ => ?_)
        clear hb
        refine pu (i := 0) (N := some 17) (v := ?_) (bits 10 1) rfl rfl (any_of HT_.out (by kernel_rfl)) (fun _ _ _ h => h) (by kernel_rfl) ?_ ?_; rotate_left; (intro w'; go_simp; with_reducible rfl)
        refine pu (i := 1) (N := some 18) (v := ?_) (bits 10 3) rfl rfl (any_of HT_.out (by kernel_rfl)) (fun _ _ _ h => h) (by kernel_rfl) ?_ ?_; rotate_left; (intro w'; go_simp; with_reducible rfl)
        refine pu (i := 2) (N := some 19) (v := ?_) (bits 10 7) rfl rfl (any_of HT_.out (by kernel_rfl)) (fun _ _ _ h => h) (by kernel_rfl) ?_ ?_; rotate_left; (intro w'; go_simp; with_reducible rfl)
        refine ta (i := 3) (N := some 20) (v := ?_) (bits 10 15) rfl rfl (take_ofW HT_.out HW_.out (by kernel_rfl)) (fun _ _ _ h => h) (by kernel_rfl) hHeld ?_ ?_; rotate_left; (intro w' hS; obtain ⟨s0, s1⟩ := hS; obtain ⟨_, hA, q0, q1⟩ := at_T61 s0 (j : Int) (by omega) (by omega); cases hA; rw [Int.toNat_natCast] at q0 q1; rw [hy] at q0 q1; go_simp; with_reducible rfl)
        refine pu (i := 4) (N := some 21) (v := ?_) (bits 10 31) rfl rfl (any_of HT_.out (by kernel_rfl)) (fun _ _ _ h => h) (by kernel_rfl) ?_ ?_; rotate_left; (intro w'; go_simp; with_reducible rfl)
        refine pu (i := 5) (N := some 22) (v := ?_) (bits 10 63) rfl rfl (any_of HT_.out (by kernel_rfl)) (fun _ _ _ h => h) (by kernel_rfl) ?_ ?_; rotate_left; (intro w'; go_simp; with_reducible rfl)
        refine pu (i := 6) (N := some 23) (v := ?_) (bits 10 127) rfl rfl (any_of HT_.out (by kernel_rfl)) (fun _ _ _ h => h) (by kernel_rfl) ?_ ?_; rotate_left; (intro w'; go_simp; with_reducible rfl)
        refine ta (i := 7) (N := some 24) (v := ?_) (bits 10 255) rfl rfl (take_ofW HT_.out HW_.out (by kernel_rfl)) (fun _ _ _ h => h) (by kernel_rfl) hHeld ?_ ?_; rotate_left; (intro w' hS; obtain ⟨s0, s1⟩ := hS; obtain ⟨_, hA, q0, q1⟩ := at_T61 s1 (j : Int) (by omega) (by omega); cases hA; rw [Int.toNat_natCast] at q0 q1; rw [hy] at q0 q1; go_simp; with_reducible rfl)
        refine norm_ (a' := ?_) ?_ ?_
        rotate_left
        · simp only [Act.put, List.setIfInBounds_toArray, List.set_cons_zero, List.set_cons_succ, i64_w, i32_w]
          rfl
        refine one_ (i := 8) (N := some 25) (bits 10 511) rfl rfl (one_of HT_.out (by kernel_rfl)) (by decide) (fun K hK => ?_)
        refine goes_ Try.func67 (by kernel_rfl) rfl #[.agg #[.string y.f0, .int .i64 (y.f1)], .agg #[.string y.f0, .int .i64 (y.f1)]] (by rfl) rfl rfl (by (try simp only [List.map_toArray, List.map_cons, List.map_nil]); rfl) ?_
        with_reducible refine cl (laws_eqPair.M y.f0 y.f1 _) B fun w2 hb B => ?_
        clear hb
        refine ⟨_, rfl, ?_⟩
        refine hK.out _ _ ⟨(cb HR0 B), (cb HR1 B)⟩ (fun hHeld => ?_)
        clear hK K
        refine norm_ (a' := ?_) ?_ ?_
        rotate_left
        · show Act.put _ (some 25) _ = _
          simp only [Act.put, List.setIfInBounds_toArray, List.set_cons_zero, List.set_cons_succ, i64_w, i32_w]
          rfl
        refine pu (i := 9) (N := some 26) (v := ?_) (bits 10 1023) rfl rfl (any_of HT_.out (by kernel_rfl)) (fun _ _ _ h => h) (by kernel_rfl) ?_ ?_; rotate_left; (intro w'; go_simp; with_reducible rfl)
        refine norm_ (a' := ?_) ?_ ?_
        rotate_left
        · simp only [Act.put, List.setIfInBounds_toArray, List.set_cons_zero, List.set_cons_succ, i64_w, i32_w]
          rfl
        refine done_ (done_of HT_.out (by kernel_rfl)) ?_
        try go_wp2
        go_roundg d
        case measure => omega
        case rel => exact ⟨j + 1, congrArg (Value.int .i64) (Int.natCast_succ _).symm, by omega, by omega, B⟩)
      all_goals try go_wp2
    · have cj : decide ((j : Int) < (l.length : Int)) = false := decide_eq_false (by omega)
      go_wp2
      go_ret
      exact ⟨rfl, B.out⟩
theorem laws_eqSession.M (x0 : Int) (x1 : Int) (x2 : Int) (w : World) : Calls Try.prog 96 #[.agg #[.int .i64 (x0), .int .i64 (x1), .int .i64 (x2)], .agg #[.int .i64 (x0), .int .i64 (x1), .int .i64 (x2)]] w fun e w' => e = .returned (.bool true) ∧ Below w.heap.size w w' := by
  have B := Aside0.mk (Below.refl w.heap.size w)
  have hu := Try.underlying100
  go_enter Try.func96, Try.ntmps96
  go_wp2_with (first
    | ((with_reducible refine gate_dst (N := 2) rfl ?_); refine bx ?hg (N := 2) ?hd (cs := #[.int .i64 (x0), .int .i64 (x1), .int .i64 (x2)]) (t := 100) ?hr B ?_; (case hd => rfl); (case hg => rfl); (case hr => first | (go_simp; done) | (go_simp; rfl)); intro g2 w1 hb B F2 L2 E2; obtain ⟨c2_0, c2_1, c2_2⟩ := cs3 F2; clear hb E2)
    | ((with_reducible refine gate_dst (N := 3) rfl ?_); refine bx ?hg (N := 3) ?hd (cs := #[.int .i64 (x0), .int .i64 (x1), .int .i64 (x2)]) (t := 100) ?hr B ?_; (case hd => rfl); (case hg => rfl); (case hr => first | (go_simp; done) | (go_simp; rfl)); intro g3 w2 hb B F3 L3 E3; replace F2 := bn F2 hb; clear c2_0 c2_1 c2_2; obtain ⟨c2_0, c2_1, c2_2⟩ := cs3 F2; obtain ⟨c3_0, c3_1, c3_2⟩ := cs3 F3; clear hb E3))
  all_goals go_ret
  all_goals (refine ⟨?_, B.out⟩; first | rfl | simp_all)
def laws_eqSessionS.T6 : Bool × List (List Nat × List Nat) := (true, [([], []), ([], []), ([0, 1], [0, 1]), ([2], [2]), ([], []), ([], []), ([4, 5], [4, 5]), ([6], [6]), ([3, 7], [3, 7]), ([8], [8])])
def laws_eqSessionS.B6 : List Nat := [0, 0, 3, 7, 0, 0, 48, 112, 255, 511]
theorem laws_eqSessionS.tab6 : rtab .any (opsOf Try.f61 6) = laws_eqSessionS.T6 := by kernel_rfl
theorem laws_eqSessionS.bits6 : waitsOk laws_eqSessionS.T6.2 laws_eqSessionS.B6 = true := by kernel_rfl
theorem laws_eqSessionS.M (A0 : Option Addr) (c0 : Nat) (A1 : Option Addr) (c1 : Nat) (l : List S100) (w : World) (hr0 : Kd.C k100 w A0 l.length l) (hr1 : Kd.C k100 w A1 l.length l) : Calls Try.prog 61 #[.slice A0 l.length c0, .slice A1 l.length c1] w fun e w' => e = .returned (.bool true) ∧ Below w.heap.size w w' := by
  have B := Aside0.mk (Below.refl w.heap.size w)
  have hu := Try.underlying100
  have HR0 := Aside0.mk hr0
  have HR1 := Aside0.mk hr1
  have L48 := Aside0.mk hr0.2.1
  clear hr0 hr1
  go_enter Try.func61, Try.ntmps61
  go_wp2
  go_loopg [5] (l.length + 1) (fun kx v5 wr => ∃ j : Nat, v5 = .int .i64 (j : Int) ∧ j ≤ l.length ∧ l.length < j + kx ∧ Aside0 (Below w.heap.size w wr))
  case atStart => exact ⟨0, rfl, by omega, by omega, B⟩
  case round =>
    clear B
    obtain ⟨j, rfl, hj, hk, B⟩ := hrel
    have h48 := L48.out
    by_cases hlt : j < l.length
    · obtain ⟨d, rfl⟩ : ∃ d, gk = d + 1 := ⟨gk - 1, by omega⟩
      have cj : decide ((j : Int) < (l.length : Int)) = true := decide_eq_true (by omega)
      obtain ⟨ad, hA, _⟩ := at_T100 (cb HR0 B) (j : Int) (by omega) (by omega)
      cases hA
      obtain ⟨bd, hA, _⟩ := at_T100 (cb HR1 B) (j : Int) (by omega) (by omega)
      cases hA
      have j1 := eq_true (show (j : Int) < (l.length : Int) by omega)
      have j2 := eq_true hlt
      generalize hy : rd_T100 l (j : Int) = y
      try go_wp2
      all_goals (
        refine rg (n := 10) (S := fun W => Kd.C k100 W (some ad) l.length l ∧ Kd.C k100 W (some bd) l.length l) (ds := []) #[false, false, false, false, false, false, false, false, false, false] (by kernel_rfl) rfl rfl ⟨(cb HR0 B), (cb HR1 B)⟩ id B (fun w1 hb B hHeld => ?_)
        refine with_tabW laws_eqSessionS.tab6 laws_eqSessionS.bits6 (fun HT_ HW_ => ?_)
        clear hb
        refine pu (i := 0) (N := some 17) (v := ?_) (bits 10 1) rfl rfl (any_of HT_.out (by kernel_rfl)) (fun _ _ _ h => h) (by kernel_rfl) ?_ ?_; rotate_left; (intro w'; go_simp; with_reducible rfl)
        refine pu (i := 1) (N := some 18) (v := ?_) (bits 10 3) rfl rfl (any_of HT_.out (by kernel_rfl)) (fun _ _ _ h => h) (by kernel_rfl) ?_ ?_; rotate_left; (intro w'; go_simp; with_reducible rfl)
        refine pu (i := 2) (N := some 19) (v := ?_) (bits 10 7) rfl rfl (any_of HT_.out (by kernel_rfl)) (fun _ _ _ h => h) (by kernel_rfl) ?_ ?_; rotate_left; (intro w'; go_simp; with_reducible rfl)
        refine ta (i := 3) (N := some 20) (v := ?_) (bits 10 15) rfl rfl (take_ofW HT_.out HW_.out (by kernel_rfl)) (fun _ _ _ h => h) (by kernel_rfl) hHeld ?_ ?_; rotate_left; (intro w' hS; obtain ⟨s0, s1⟩ := hS; obtain ⟨_, hA, q0, q1, q2⟩ := at_T100 s0 (j : Int) (by omega) (by omega); cases hA; rw [Int.toNat_natCast] at q0 q1 q2; rw [hy] at q0 q1 q2; go_simp; with_reducible rfl)
        refine pu (i := 4) (N := some 21) (v := ?_) (bits 10 31) rfl rfl (any_of HT_.out (by kernel_rfl)) (fun _ _ _ h => h) (by kernel_rfl) ?_ ?_; rotate_left; (intro w'; go_simp; with_reducible rfl)
        refine pu (i := 5) (N := some 22) (v := ?_) (bits 10 63) rfl rfl (any_of HT_.out (by kernel_rfl)) (fun _ _ _ h => h) (by kernel_rfl) ?_ ?_; rotate_left; (intro w'; go_simp; with_reducible rfl)
        refine pu (i := 6) (N := some 23) (v := ?_) (bits 10 127) rfl rfl (any_of HT_.out (by kernel_rfl)) (fun _ _ _ h => h) (by kernel_rfl) ?_ ?_; rotate_left; (intro w'; go_simp; with_reducible rfl)
        refine ta (i := 7) (N := some 24) (v := ?_) (bits 10 255) rfl rfl (take_ofW HT_.out HW_.out (by kernel_rfl)) (fun _ _ _ h => h) (by kernel_rfl) hHeld ?_ ?_; rotate_left; (intro w' hS; obtain ⟨s0, s1⟩ := hS; obtain ⟨_, hA, q0, q1, q2⟩ := at_T100 s1 (j : Int) (by omega) (by omega); cases hA; rw [Int.toNat_natCast] at q0 q1 q2; rw [hy] at q0 q1 q2; go_simp; with_reducible rfl)
        refine norm_ (a' := ?_) ?_ ?_
        rotate_left
        · simp only [Act.put, List.setIfInBounds_toArray, List.set_cons_zero, List.set_cons_succ, i64_w, i32_w]
          rfl
        refine one_ (i := 8) (N := some 25) (bits 10 511) rfl rfl (one_of HT_.out (by kernel_rfl)) (by decide) (fun K hK => ?_)
        refine goes_ Try.func96 (by kernel_rfl) rfl #[.agg #[.int .i64 (y.f0), .int .i64 (y.f1), .int .i64 (y.f2)], .agg #[.int .i64 (y.f0), .int .i64 (y.f1), .int .i64 (y.f2)]] (by rfl) rfl rfl (by (try simp only [List.map_toArray, List.map_cons, List.map_nil]); rfl) ?_
        with_reducible refine cl (laws_eqSession.M y.f0 y.f1 y.f2 _) B fun w2 hb B => ?_
        clear hb
        refine ⟨_, rfl, ?_⟩
        refine hK.out _ _ ⟨(cb HR0 B), (cb HR1 B)⟩ (fun hHeld => ?_)
        clear hK K
        refine norm_ (a' := ?_) ?_ ?_
        rotate_left
        · show Act.put _ (some 25) _ = _
          simp only [Act.put, List.setIfInBounds_toArray, List.set_cons_zero, List.set_cons_succ, i64_w, i32_w]
          rfl
        refine pu (i := 9) (N := some 26) (v := ?_) (bits 10 1023) rfl rfl (any_of HT_.out (by kernel_rfl)) (fun _ _ _ h => h) (by kernel_rfl) ?_ ?_; rotate_left; (intro w'; go_simp; with_reducible rfl)
        refine norm_ (a' := ?_) ?_ ?_
        rotate_left
        · simp only [Act.put, List.setIfInBounds_toArray, List.set_cons_zero, List.set_cons_succ, i64_w, i32_w]
          rfl
        refine done_ (done_of HT_.out (by kernel_rfl)) ?_
        try go_wp2
        go_roundg d
        case measure => omega
        case rel => exact ⟨j + 1, congrArg (Value.int .i64) (Int.natCast_succ _).symm, by omega, by omega, B⟩)
      all_goals try go_wp2
    · have cj : decide ((j : Int) < (l.length : Int)) = false := decide_eq_false (by omega)
      go_wp2
      go_ret
      exact ⟨rfl, B.out⟩
theorem laws_eqState.M (a b : ByteArray) (AP : Option Addr) (cP : Nat) (AQ : Option Addr) (cQ : Nat) (ps : List S61) (AS : Option Addr) (cS : Nat) (AU : Option Addr) (cU : Nat) (ss : List S100) (t : Bool) (c : ByteArray) (w : World) (hrp : Kd.C k61 w AP ps.length ps) (hrq : Kd.C k61 w AQ ps.length ps) (hrs : Kd.C k100 w AS ss.length ss) (hru : Kd.C k100 w AU ss.length ss) : Calls Try.prog 15 #[.agg #[.string a, .string b, .slice AP ps.length cP, .slice AS ss.length cS, .bool t, .string c], .agg #[.string a, .string b, .slice AQ ps.length cQ, .slice AU ss.length cU, .bool t, .string c]] w fun e w' => e = .returned (.bool true) ∧ Below w.heap.size w w' := by
  have B := Aside0.mk (Below.refl w.heap.size w)
  have hu := Try.underlying34
  have HRP := Aside0.mk hrp
  have HRQ := Aside0.mk hrq
  have HRS := Aside0.mk hrs
  have HRU := Aside0.mk hru
  clear hrp hrq hrs hru
  go_enter Try.func15, Try.ntmps15
  go_wp2_with (first
    | ((with_reducible refine gate_dst (N := 2) rfl ?_); refine bx ?hg (N := 2) ?hd (cs := #[.string a, .string b, .slice AP ps.length cP, .slice AS ss.length cS, .bool t, .string c]) (t := 34) ?hr B ?_; (case hd => rfl); (case hg => rfl); (case hr => first | (go_simp; done) | (go_simp; rfl)); intro g2 w1 hb B F2 L2 E2; obtain ⟨c2_0, c2_1, c2_2, c2_3, c2_4, c2_5⟩ := cs6 F2; clear hb E2)
    | ((with_reducible refine gate_dst (N := 3) rfl ?_); refine bx ?hg (N := 3) ?hd (cs := #[.string a, .string b, .slice AQ ps.length cQ, .slice AU ss.length cU, .bool t, .string c]) (t := 34) ?hr B ?_; (case hd => rfl); (case hg => rfl); (case hr => first | (go_simp; done) | (go_simp; rfl)); intro g3 w2 hb B F3 L3 E3; replace F2 := bn F2 hb; clear c2_0 c2_1 c2_2 c2_3 c2_4 c2_5; obtain ⟨c2_0, c2_1, c2_2, c2_3, c2_4, c2_5⟩ := cs6 F2; obtain ⟨c3_0, c3_1, c3_2, c3_3, c3_4, c3_5⟩ := cs6 F3; clear hb E3)
    | (go_at_call 60; with_reducible refine cl (laws_eqInterval.M a b _) B fun w3 hb B => ?_; replace F2 := bn F2 hb; replace F3 := bn F3 hb; clear c2_0 c2_1 c2_2 c2_3 c2_4 c2_5; obtain ⟨c2_0, c2_1, c2_2, c2_3, c2_4, c2_5⟩ := cs6 F2; clear c3_0 c3_1 c3_2 c3_3 c3_4 c3_5; obtain ⟨c3_0, c3_1, c3_2, c3_3, c3_4, c3_5⟩ := cs6 F3; clear hb)
    | (go_at_call 22; with_reducible refine cl (laws_eqPairS.M _ _ _ _ ps _ (cb HRP B) (cb HRQ B)) B fun w4 hb B => ?_; replace F2 := bn F2 hb; replace F3 := bn F3 hb; clear c2_0 c2_1 c2_2 c2_3 c2_4 c2_5; obtain ⟨c2_0, c2_1, c2_2, c2_3, c2_4, c2_5⟩ := cs6 F2; clear c3_0 c3_1 c3_2 c3_3 c3_4 c3_5; obtain ⟨c3_0, c3_1, c3_2, c3_3, c3_4, c3_5⟩ := cs6 F3; clear hb)
    | (go_at_call 61; with_reducible refine cl (laws_eqSessionS.M _ _ _ _ ss _ (cb HRS B) (cb HRU B)) B fun w5 hb B => ?_; replace F2 := bn F2 hb; replace F3 := bn F3 hb; clear c2_0 c2_1 c2_2 c2_3 c2_4 c2_5; obtain ⟨c2_0, c2_1, c2_2, c2_3, c2_4, c2_5⟩ := cs6 F2; clear c3_0 c3_1 c3_2 c3_3 c3_4 c3_5; obtain ⟨c3_0, c3_1, c3_2, c3_3, c3_4, c3_5⟩ := cs6 F3; clear hb))
  all_goals go_ret
  all_goals (refine ⟨?_, B.out⟩; first | rfl | simp_all)

/-! Marks: what is written into a list of pairs is found there. -/
theorem mtx_loop (d : Nat) : ∀ (a : Int) (x : ByteArray), 0 ≤ a → a ≤ 1000000000000000000 → a < 10 ^ d → x.size + d ≤ 1000 → ∃ r, ∀ j, d + 1 ≤ j → laws_markText.l0 j a x = some r := by
  induction d with
  | zero =>
    intro a x h0 hb h1 hx
    refine ⟨(⟨#[109]⟩ : ByteArray) ++ x, fun j hj => ?_⟩
    obtain ⟨i, rfl⟩ : ∃ i, j = i + 1 := ⟨j - 1, by omega⟩
    simp only [laws_markText.l0]
    rw [if_neg (by simp at h1; omega), if_pos (by omega)]
  | succ d ih =>
    intro a x h0 hb h1 hx
    by_cases hp : a > 0
    · have hq : wrap64 (Int.tdiv a 10) = a / 10 := by rw [Int.tdiv_eq_ediv_of_nonneg h0]; exact w64 (by omega) (by omega)
      obtain ⟨r, hr⟩ := ih (a / 10) (strOfNums ([(wrap64 (48 + (Int.tmod a 10))) % 256] : List Int) ++ x) (by omega) (by omega) (by rw [Int.pow_succ] at h1; omega) (by rw [ByteArray.size_append, strOfNums_size]; simp only [List.length_cons, List.length_nil]; omega)
      refine ⟨r, fun j hj => ?_⟩
      obtain ⟨i, rfl⟩ : ∃ i, j = i + 1 := ⟨j - 1, by omega⟩
      simp only [laws_markText.l0, Option.bind_some]
      rw [if_pos hp, if_pos (by rw [strOfNums_size]; simp only [List.length_cons, List.length_nil]; omega), hq]
      exact hr i (by omega)
    · refine ⟨(⟨#[109]⟩ : ByteArray) ++ x, fun j hj => ?_⟩
      obtain ⟨i, rfl⟩ : ∃ i, j = i + 1 := ⟨j - 1, by omega⟩
      simp only [laws_markText.l0]
      rw [if_neg hp, if_pos (by omega)]
def mtx (a : Int) : ByteArray := (laws_markText.f 20 a).getD ⟨#[]⟩
theorem mtx_ok (a : Int) (hb : a ≤ 100000000000000000) (k : Nat) (hk : 20 ≤ k) : laws_markText.f k a = some (mtx a) := by
  unfold mtx laws_markText.f
  by_cases h : a ≤ 0
  · simp only [if_pos h, Option.getD_some]
  · simp only [if_neg h]
    obtain ⟨r, hr⟩ := mtx_loop 19 a ⟨#[]⟩ (by omega) (by omega) (by omega) (by decide)
    rw [hr k (by omega), hr 20 (by omega)]
    rfl
def mkPr (q : Int) : S61 := ⟨mtx q, q + 1⟩
def prTo (n : Nat) (q : Int) : List S61 := (List.range n).map fun (i : Nat) => mkPr (q + 2 * (i : Int))
theorem prTo_length (n : Nat) (q : Int) : (prTo n q).length = n := by simp [prTo]
theorem rdp_nat {l : List S61} {j : Nat} (h : j < l.length) : rd_T61 l (j : Int) = l[j] := by
  simp [rd_T61, List.getD_eq_getElem?_getD, List.getElem?_eq_getElem h]
theorem rdp_set {l : List S61} {j : Nat} (h : j < l.length) (x : S61) : rd_T61 (l.set j x) (j : Int) = x := by
  rw [rdp_nat (by simpa using h)]
  simp
theorem markP_loop (n : Nat) (hn : n ≤ 2097152) (q : Int) (h0 : 0 ≤ q) (h1 : q ≤ 1099511627776) (d : Nat) : ∀ (j : Nat) (xs : List S61), j + d = n → xs.length = n → xs.take j = (prTo n q).take j →
    ∀ k, d + 21 ≤ k → laws_markPairS.l0 k xs (q + 2 * (j : Int)) (j : Int) = some (q + 2 * (n : Int), prTo n q) := by
  induction d with
  | zero =>
    intro j xs hj hl ht k hk
    obtain ⟨k, rfl⟩ : ∃ i, k = i + 1 := ⟨k - 1, by omega⟩
    simp only [laws_markPairS.l0]
    rw [if_neg (by omega)]
    rw [List.take_of_length_le (by omega), List.take_of_length_le (by rw [prTo_length]; omega)] at ht
    rw [ht, show j = n by omega]
  | succ d ih =>
    intro j xs hj hl ht k hk
    obtain ⟨k, rfl⟩ : ∃ i, k = i + 1 := ⟨k - 1, by omega⟩
    have e := ih (j + 1) (xs.set j (mkPr (q + 2 * (j : Int)))) (by omega) (by simpa using hl) (by
      rw [List.take_succ_eq_append_getElem (by simp; omega), List.take_succ_eq_append_getElem (by rw [prTo_length]; omega), ← ht]
      simp [List.take_set_of_le, prTo]) k (by omega)
    simp only [laws_markPairS.l0]
    rw [if_pos (by omega), mtx_ok _ (by omega) k (by omega)]
    simp only [Option.bind_some, Int.toNat_natCast]
    rw [if_pos (by omega), w64 (x := q + 2 * (j : Int) + 1) (by omega) (by omega), w64 (x := q + 2 * (j : Int) + 1 + 1) (by omega) (by omega), w64 (x := (j : Int) + 1) (by omega) (by omega)]
    rw [rdp_set (by omega)]
    simp only [List.set_set]
    rw [show q + 2 * (j : Int) + 1 + 1 = q + 2 * ((j + 1 : Nat) : Int) by omega]
    exact e
theorem markP (xs : List S61) (hn : xs.length ≤ 2097152) (q : Int) (h0 : 0 ≤ q) (h1 : q ≤ 1099511627776) : laws_markPairS.f (xs.length + 21) xs q = some (q + 2 * (xs.length : Int), prTo xs.length q) := by
  have e := markP_loop xs.length hn q h0 h1 xs.length 0 xs (by omega) rfl (by simp) (xs.length + 21) (by omega)
  unfold laws_markPairS.f
  simpa using e
theorem heldP_loop (n : Nat) (hn : n ≤ 2097152) (q : Int) (h0 : 0 ≤ q) (h1 : q ≤ 1099511627776) (d : Nat) : ∀ (j : Nat), j + d = n →
    ∀ k, d + 21 ≤ k → laws_heldPairS.l0 k (prTo n q) (q + 2 * (j : Int)) (j : Int) = some (q + 2 * (n : Int)) := by
  induction d with
  | zero =>
    intro j hj k hk
    obtain ⟨k, rfl⟩ : ∃ i, k = i + 1 := ⟨k - 1, by omega⟩
    simp only [laws_heldPairS.l0]
    rw [if_neg (by rw [prTo_length]; omega), show j = n by omega]
  | succ d ih =>
    intro j hj k hk
    obtain ⟨k, rfl⟩ : ∃ i, k = i + 1 := ⟨k - 1, by omega⟩
    have e := ih (j + 1) (by omega) k (by omega)
    have hx : rd_T61 (prTo n q) (j : Int) = mkPr (q + 2 * (j : Int)) := by
      rw [rdp_nat (by rw [prTo_length]; omega)]
      simp [prTo]
    simp only [laws_heldPairS.l0]
    rw [if_pos (by rw [prTo_length]; omega), if_pos (by omega), mtx_ok _ (by omega) k (by omega)]
    simp only [Option.bind_some]
    rw [hx, w64 (x := q + 2 * (j : Int) + 1) (by omega) (by omega), w64 (x := q + 2 * (j : Int) + 1 + 1) (by omega) (by omega), w64 (x := (j : Int) + 1) (by omega) (by omega)]
    rw [if_pos (show (mkPr (q + 2 * (j : Int))).f0.toList = (mtx (q + 2 * (j : Int))).toList from rfl), if_pos (show (mkPr (q + 2 * (j : Int))).f1 = q + 2 * (j : Int) + 1 from rfl)]
    rw [show q + 2 * (j : Int) + 1 + 1 = q + 2 * ((j + 1 : Nat) : Int) by omega]
    exact e
theorem heldP (n : Nat) (hn : n ≤ 2097152) (q : Int) (h0 : 0 ≤ q) (h1 : q ≤ 1099511627776) : laws_heldPairS.f (n + 21) (prTo n q) q = some (q + 2 * (n : Int)) := by
  have e := heldP_loop n hn q h0 h1 n 0 (by omega) (n + 21) (by omega)
  unfold laws_heldPairS.f
  simpa using e
theorem cm {P : Program} {F : FuncId} {args : Array Value} {w W : World} {Q : Ending → World → Prop} {α : Type} {d : Kd α} {t : Nat} {ys : List α} {ok S : Nat → Prop} {v u : Value} (c : Calls P F args W fun e w' => e = .returned u ∧ d.R t w' w.heap.size ok v ys ∧ Below w.heap.size w w' ∧ Kept W w' S)
    (h : ∀ W', Kept W W' S → Aside0 (Below w.heap.size w W') → Aside0 (Ow d t W' w.heap.size v ys) → Q (.returned u) W') : Calls P F args W Q :=
  c.mono (by rintro e W' ⟨rfl, hr, hb, hk⟩; exact h W' hk ⟨hb⟩ ⟨Kd.R_mono hr (fun _ _ => trivial)⟩)
theorem bkp {W W' : World} {α : Type} {d : Kd α} {e b g t : Nat} {cs : Array Value} {v : Value} {xs : List α} (F : Aside0 (W.heap[g]? = some (.cells cs t (0, 0)))) (hk : Kept W W' fun k => some k = v.ownBlock) (R : Aside0 (Ow d e W b v xs)) (ht : e ≠ t) : Aside0 (W'.heap[g]? = some (.cells cs t (0, 0))) :=
  ⟨blk_kept F.out hk (fun h => Kd.R_ne R.out F.out ht h)⟩
theorem rkp {W W' : World} {β : Type} {d' : Kd β} {e' b' : Nat} {v v' : Value} {ys : List β} (R' : Aside0 (Ow d' e' W b' v' ys)) (hE : d'.E = []) (hk : Kept W W' fun k => some k = v.ownBlock) (ne : ∀ k, v'.ownBlock = some k → v.ownBlock = some k → False) : Aside0 (Ow d' e' W' b' v' ys) :=
  ⟨Kd.R_mono (Kd.R_kept (Kd.R_tight hE R'.out) hk (fun k h1 h2 => ne k h1.symm h2.symm)) (fun _ _ => trivial)⟩
theorem laws_markPairS.M (v : Value) (l : List S61) (q : Int) (w W : World) (B : Aside0 (Below w.heap.size w W)) (R : Aside0 (Ow k61 61 W w.heap.size v l)) (hn : l.length ≤ 2097152) (h0 : 0 ≤ q) (h1 : q ≤ 1099511627776) :
    Calls Try.prog 25 #[v, .int .i64 q] W fun e w' => e = .returned (.int .i64 (q + 2 * (l.length : Int))) ∧ Kd.R k61 61 w' w.heap.size (fun k_ => (some k_ = v.ownBlock ∨ W.heap.size ≤ k_)) v (prTo l.length q) ∧ Below w.heap.size w w' ∧ Kept W w' (fun k_ => some k_ = v.ownBlock) :=
  laws_markPairS.calls (l.length + 21) (fun k => some k = v.ownBlock) v l q _ _ w W B.out (Kd.R_tight rfl R.out) (markP l hn q h0 h1)
theorem laws_heldPairS.M (A : Option Addr) (c n : Nat) (l : List S61) (q : Int) (hl : l = prTo n q) (W : World) (hr : Kd.C k61 W A l.length l) (hc : l.length ≤ c) (hn : n ≤ 2097152) (h0 : 0 ≤ q) (h1 : q ≤ 1099511627776) :
    Calls Try.prog 26 #[.slice A l.length c, .int .i64 q] W fun e w' => e = .returned (.int .i64 (q + 2 * (n : Int))) ∧ Below W.heap.size W w' :=
  laws_heldPairS.calls (n + 21) A c l q _ W hr hc (by rw [hl]; exact heldP n hn q h0 h1)
theorem laws_heldPairS.M2 (A : Option Addr) (c : Nat) (l : List S61) (q : Int) (W : World) (hr : Kd.C k61 W A (prTo l.length q).length (prTo l.length q)) (hc : (prTo l.length q).length ≤ c) (hn : l.length ≤ 2097152) (h0 : 0 ≤ q) (h1 : q ≤ 1099511627776) :
    Calls Try.prog 26 #[.slice A l.length c, .int .i64 q] W fun e w' => e = .returned (.int .i64 (q + 2 * (l.length : Int))) ∧ Below W.heap.size W w' := by
  have h := laws_heldPairS.M A c l.length (prTo l.length q) q rfl W hr hc hn h0 h1
  rwa [prTo_length] at h
theorem rl2 {α : Type} {d : Kd α} {e b n : Nat} {W : World} {A : Option Addr} {c : Nat} {xs : List α} (R : Aside0 (Ow d e W b (.slice A n c) xs)) : xs.length ≤ c := by have h := Kd.R_reads' R.out; have := h.1; have := h.2.1; omega

/-! Marks: what is written into a list of sessions is found there. -/
def mkSes (k : Int) : S100 := ⟨k, k + 1, k + 2⟩
def sesTo (n : Nat) (q : Int) : List S100 := (List.range n).map fun (i : Nat) => mkSes (q + 3 * (i : Int))
theorem sesTo_length (n : Nat) (q : Int) : (sesTo n q).length = n := by simp [sesTo]
theorem rds_set {l : List S100} {j : Nat} (h : j < l.length) (x : S100) : rd_T100 (l.set j x) (j : Int) = x := by
  rw [ses_nat (by simpa using h)]
  simp
theorem markSes_loop (n : Nat) (hn : n ≤ 2097152) (q : Int) (h0 : 0 ≤ q) (h1 : q ≤ 1099511627776) (d : Nat) : ∀ (j : Nat) (xs : List S100), j + d = n → xs.length = n → xs.take j = (sesTo n q).take j →
    ∀ k, d + 1 ≤ k → laws_markSessionS.l0 k xs (q + 3 * (j : Int)) (j : Int) = some (q + 3 * (n : Int), sesTo n q) := by
  induction d with
  | zero =>
    intro j xs hj hl ht k hk
    obtain ⟨k, rfl⟩ : ∃ i, k = i + 1 := ⟨k - 1, by omega⟩
    simp only [laws_markSessionS.l0]
    rw [if_neg (by omega)]
    rw [List.take_of_length_le (by omega), List.take_of_length_le (by rw [sesTo_length]; omega)] at ht
    rw [ht, show j = n by omega]
  | succ d ih =>
    intro j xs hj hl ht k hk
    obtain ⟨k, rfl⟩ : ∃ i, k = i + 1 := ⟨k - 1, by omega⟩
    have e := ih (j + 1) (xs.set j (mkSes (q + 3 * (j : Int)))) (by omega) (by simpa using hl) (by
      rw [List.take_succ_eq_append_getElem (by simp; omega), List.take_succ_eq_append_getElem (by rw [sesTo_length]; omega), ← ht]
      simp [List.take_set_of_le, sesTo]) k (by omega)
    · simp only [laws_markSessionS.l0, Option.bind_some, Int.toNat_natCast]
      rw [if_pos (by omega), if_pos (by omega), w64 (x := q + 3 * (j : Int) + 1) (by omega) (by omega), w64 (x := q + 3 * (j : Int) + 1 + 1) (by omega) (by omega), w64 (x := q + 3 * (j : Int) + 1 + 1 + 1) (by omega) (by omega), w64 (x := (j : Int) + 1) (by omega) (by omega)]
      rw [rds_set (by omega), rds_set (by rw [List.length_set]; omega)]
      simp only [List.set_set]
      rw [show q + 3 * (j : Int) + 1 + 1 + 1 = q + 3 * ((j + 1 : Nat) : Int) by omega]
      refine Eq.trans ?_ e
      rw [show mkSes (q + 3 * (j : Int)) = (⟨q + 3 * (j : Int), q + 3 * (j : Int) + 1, q + 3 * (j : Int) + 1 + 1⟩ : S100) from by unfold mkSes; congr 1; omega]
      rfl
theorem markSes (xs : List S100) (hn : xs.length ≤ 2097152) (q : Int) (h0 : 0 ≤ q) (h1 : q ≤ 1099511627776) :
    laws_markSessionS.f (xs.length + 21) xs q = some (q + 3 * (xs.length : Int), sesTo xs.length q) := by
  have e := markSes_loop xs.length hn q h0 h1 xs.length 0 xs (by omega) rfl (by simp) (xs.length + 21) (by omega)
  unfold laws_markSessionS.f
  simpa using e
theorem heldSes_loop (n : Nat) (hn : n ≤ 2097152) (q : Int) (h0 : 0 ≤ q) (h1 : q ≤ 1099511627776) (d : Nat) : ∀ (j : Nat), j + d = n →
    ∀ k, d + 1 ≤ k → laws_heldSessionS.l0 k (sesTo n q) (q + 3 * (j : Int)) (j : Int) = some (q + 3 * (n : Int)) := by
  induction d with
  | zero =>
    intro j hj k hk
    obtain ⟨k, rfl⟩ : ∃ i, k = i + 1 := ⟨k - 1, by omega⟩
    simp only [laws_heldSessionS.l0]
    rw [if_neg (by rw [sesTo_length]; omega), show j = n by omega]
  | succ d ih =>
    intro j hj k hk
    obtain ⟨k, rfl⟩ : ∃ i, k = i + 1 := ⟨k - 1, by omega⟩
    have e := ih (j + 1) (by omega) k (by omega)
    have hx : rd_T100 (sesTo n q) (j : Int) = mkSes (q + 3 * (j : Int)) := by
      rw [ses_nat (by rw [sesTo_length]; omega)]
      simp [sesTo]
    simp only [laws_heldSessionS.l0]
    rw [if_pos (by rw [sesTo_length]; omega), if_pos (by omega), hx, w64 (x := q + 3 * (j : Int) + 1) (by omega) (by omega), w64 (x := q + 3 * (j : Int) + 1 + 1) (by omega) (by omega), w64 (x := q + 3 * (j : Int) + 1 + 1 + 1) (by omega) (by omega), w64 (x := (j : Int) + 1) (by omega) (by omega)]
    rw [if_pos (show (mkSes (q + 3 * (j : Int))).f0 = q + 3 * (j : Int) from rfl), if_pos (show (mkSes (q + 3 * (j : Int))).f1 = q + 3 * (j : Int) + 1 from rfl), if_pos (show (mkSes (q + 3 * (j : Int))).f2 = q + 3 * (j : Int) + 1 + 1 from show q + 3 * (j : Int) + 2 = q + 3 * (j : Int) + 1 + 1 by omega)]
    rw [show q + 3 * (j : Int) + 1 + 1 + 1 = q + 3 * ((j + 1 : Nat) : Int) by omega]
    exact e
theorem heldSes (n : Nat) (hn : n ≤ 2097152) (q : Int) (h0 : 0 ≤ q) (h1 : q ≤ 1099511627776) : laws_heldSessionS.f (n + 21) (sesTo n q) q = some (q + 3 * (n : Int)) := by
  have e := heldSes_loop n hn q h0 h1 n 0 (by omega) (n + 21) (by omega)
  unfold laws_heldSessionS.f
  simpa using e
theorem laws_markSessionS.M (v : Value) (l : List S100) (q : Int) (w W : World) (B : Aside0 (Below w.heap.size w W)) (R : Aside0 (Ow k100 100 W w.heap.size v l)) (hn : l.length ≤ 2097152) (h0 : 0 ≤ q) (h1 : q ≤ 1099511627776) :
    Calls Try.prog 69 #[v, .int .i64 q] W fun e w' => e = .returned (.int .i64 (q + 3 * (l.length : Int))) ∧ Kd.R k100 100 w' w.heap.size (fun k_ => (some k_ = v.ownBlock ∨ W.heap.size ≤ k_)) v (sesTo l.length q) ∧ Below w.heap.size w w' ∧ Kept W w' (fun k_ => some k_ = v.ownBlock) :=
  laws_markSessionS.calls (l.length + 21) (fun k => some k = v.ownBlock) v l q _ _ w W B.out (Kd.R_tight rfl R.out) (markSes l hn q h0 h1)
theorem laws_heldSessionS.M2 (A : Option Addr) (c : Nat) (l : List S100) (q : Int) (W : World) (hr : Kd.C k100 W A (sesTo l.length q).length (sesTo l.length q)) (hc : (sesTo l.length q).length ≤ c) (hn : l.length ≤ 2097152) (h0 : 0 ≤ q) (h1 : q ≤ 1099511627776) :
    Calls Try.prog 76 #[.slice A l.length c, .int .i64 q] W fun e w' => e = .returned (.int .i64 (q + 3 * (l.length : Int))) ∧ Below W.heap.size W w' := by
  have h := dnB (laws_heldSessionS.calls (l.length + 21) A c (sesTo l.length q) q _ W hr hc (heldSes l.length hn q h0 h1))
  rwa [sesTo_length] at h

theorem laws_markState.M (a b : ByteArray) (AP : Option Addr) (cP : Nat) (ps : List S61) (AS : Option Addr) (cS : Nat) (ss : List S100) (t : Bool) (c : ByteArray) (q : Int) (w W : World) (B : Aside0 (Below w.heap.size w W)) (RP : Aside0 (Ow k61 61 W w.heap.size (.slice AP ps.length cP) ps)) (RS : Aside0 (Ow k100 100 W w.heap.size (.slice AS ss.length cS) ss)) (hp : ps.length ≤ 2097152) (hs : ss.length ≤ 2097152) (h0 : 0 ≤ q) (h1 : q ≤ 1000000000000) : Calls Try.prog 32 #[.agg #[.string a, .string b, .slice AP ps.length cP, .slice AS ss.length cS, .bool t, .string c], .int .i64 q] W fun e w' => e = .returned (.int .i64 (q + 2 * (ps.length : Int) + 3 * (ss.length : Int))) ∧ Kd.R k61 61 w' w.heap.size (fun _ => True) (.slice AP ps.length cP) (prTo ps.length q) ∧ Kd.R k100 100 w' w.heap.size (fun _ => True) (.slice AS ss.length cS) (sesTo ss.length (q + 2 * (ps.length : Int))) ∧ Below w.heap.size w w' ∧ Kept W w' (fun k_ => some k_ = (Value.slice AP ps.length cP).ownBlock ∨ some k_ = (Value.slice AS ss.length cS).ownBlock) := by
  have hu := Try.underlying34
  have DP_S := Aside0.mk (dty RP RS (by decide))
  go_enter Try.func32, Try.ntmps32
  go_wp2_with (first
    | ((with_reducible refine gate_dst (N := 2) rfl ?_); refine bx ?hg (N := 2) ?hd (cs := #[.string a, .string b, .slice AP ps.length cP, .slice AS ss.length cS, .bool t, .string c]) (t := 34) ?hr B ?_; (case hd => rfl); (case hg => rfl); (case hr => first | (go_simp; done) | (go_simp; rfl)); intro g2 w1 hb B F2 L2 E2; have KK := Kept.of_below hb (fun k_ => some k_ = (Value.slice AP ps.length cP).ownBlock ∨ some k_ = (Value.slice AS ss.length cS).ownBlock); replace RP := rn RP hb; replace RS := rn RS hb; obtain ⟨c2_0, c2_1, c2_2, c2_3, c2_4, c2_5⟩ := cs6 F2; clear hb E2)
    | (go_at_call 25; with_reducible refine cm (laws_markPairS.M _ ps q w _ B RP (by assumption) (by omega) (by omega)) fun w2 hk B RX => ?_; replace KK := KK.then_ hk (fun k_ h_ => .inl (.inl h_)); replace F2 := bkp F2 hk RP (by decide); replace RS := rkp RS rfl hk DP_S.out; replace RP := RX; clear hk; clear c2_0 c2_1 c2_2 c2_3 c2_4 c2_5; obtain ⟨c2_0, c2_1, c2_2, c2_3, c2_4, c2_5⟩ := cs6 F2; skip)
    | (go_at_call 69; with_reducible refine cm (laws_markSessionS.M _ ss (q + 2 * (ps.length : Int)) w _ B RS (by assumption) (by omega) (by omega)) fun w3 hk B RX => ?_; replace KK := KK.then_ hk (fun k_ h_ => .inl (.inr h_)); replace RP := rkp RP rfl hk (fun k a b => DP_S.out k b a); replace RS := RX; clear hk; skip))
  go_ret
  exact ⟨rfl, RP.out, RS.out, B.out, KK⟩
theorem laws_heldState.M (a b : ByteArray) (AP : Option Addr) (cP : Nat) (ps : List S61) (AS : Option Addr) (cS : Nat) (ss : List S100) (t : Bool) (c : ByteArray) (q : Int) (w : World) (hrp : Kd.C k61 w AP (prTo ps.length q).length (prTo ps.length q)) (hcp : (prTo ps.length q).length ≤ cP) (hrs : Kd.C k100 w AS (sesTo ss.length (q + 2 * (ps.length : Int))).length (sesTo ss.length (q + 2 * (ps.length : Int)))) (hcs : (sesTo ss.length (q + 2 * (ps.length : Int))).length ≤ cS) (hp : ps.length ≤ 2097152) (hs : ss.length ≤ 2097152) (h0 : 0 ≤ q) (h1 : q ≤ 1000000000000) : Calls Try.prog 33 #[.agg #[.string a, .string b, .slice AP ps.length cP, .slice AS ss.length cS, .bool t, .string c], .int .i64 q] w fun e w' => e = .returned (.int .i64 (q + 2 * (ps.length : Int) + 3 * (ss.length : Int))) ∧ Below w.heap.size w w' := by
  have B := Aside0.mk (Below.refl w.heap.size w)
  have hu := Try.underlying34
  have HRP := Aside0.mk hrp
  have HRS := Aside0.mk hrs
  have HCP := Aside0.mk hcp
  have HCS := Aside0.mk hcs
  clear hrp hrs hcp hcs
  have d1 : decide (q + 2 * (ps.length : Int) < 0) = false := decide_eq_false (by omega)
  have d2 : decide ((q + 2 * (ps.length : Int) + 3 * (ss.length : Int)) < 0) = false := decide_eq_false (by omega)
  go_enter Try.func33, Try.ntmps33
  go_wp2_with (first
    | ((with_reducible refine gate_dst (N := 2) rfl ?_); refine bx ?hg (N := 2) ?hd (cs := #[.string a, .string b, .slice AP ps.length cP, .slice AS ss.length cS, .bool t, .string c]) (t := 34) ?hr B ?_; (case hd => rfl); (case hg => rfl); (case hr => first | (go_simp; done) | (go_simp; rfl)); intro g2 w1 hb B F2 L2 E2; obtain ⟨c2_0, c2_1, c2_2, c2_3, c2_4, c2_5⟩ := cs6 F2; clear hb E2)
    | (go_at_call 26; with_reducible refine cl (laws_heldPairS.M2 _ _ ps q _ (cb HRP B) HCP.out (by assumption) (by omega) (by omega)) B fun w2 hb B => ?_; replace F2 := bn F2 hb; clear c2_0 c2_1 c2_2 c2_3 c2_4 c2_5; obtain ⟨c2_0, c2_1, c2_2, c2_3, c2_4, c2_5⟩ := cs6 F2; clear hb)
    | (go_at_call 76; with_reducible refine cl (laws_heldSessionS.M2 _ _ ss (q + 2 * (ps.length : Int)) _ (cb HRS B) HCS.out (by assumption) (by omega) (by omega)) B fun w3 hb B => ?_; clear hb))
  all_goals go_ret
  all_goals exact ⟨rfl, B.out⟩

/-! Operations of a region that draws its order, one by one: a box, a literal, a row put behind a row. -/
section
variable {P : Program} {w W : World} {ops' : Array Oper} {o : Oper} {a : Act} {QE : Exit → Act → World → Prop} {Kc : Act → World → Prop}
theorem below_al (W : World) (ob : Obj) : Below W.heap.size W (W.alloc ob) := below_alloc (Below.refl _ _) ob
theorem al_blk (W : World) (ob : Obj) : (W.alloc ob).heap[W.heap.size]? = some ob := by unfold World.alloc; exact Array.getElem?_push_size
theorem bxs {N : Tmp} {cs : Array Value} {t : TypeId} (hw : Region.wanted o (yielded ops' a.tmps) = true) (hd : o.dst = some N) (hrun : (execOp a.eval o).run P W = .ok (.value (.pointer (some ⟨W.heap.size, 0, none⟩))) (W.alloc (.cells cs t (0, 0))))
    (B : Aside0 (Below w.heap.size w W))
    (h : ∀ g w1, Below W.heap.size W w1 → Aside0 (Below w.heap.size w w1) → Aside0 (w1.heap[g]? = some (.cells cs t (0, 0))) → Aside0 (w.heap.size ≤ g) → Aside0 (g = W.heap.size) → Kc (a.put (some N) (.pointer (some ⟨g, 0, none⟩))) w1) :
    if Region.wanted o (yielded ops' a.tmps) = true then Oper.wp P o a W Kc QE else Kc (a.put (some N) undef) W :=
  value_ hw hd hrun (h _ _ (below_al W _) ⟨below_step B.out (below_al W _)⟩ ⟨al_blk W _⟩ ⟨below_size B.out⟩ ⟨rfl⟩)
variable {α β : Type} {b : Nat} {xs : List α}
theorem lts (d : Kd α) (e : Nat) (hw : Region.wanted o (yielded ops' a.tmps) = true) {N : Tmp} (hd : o.dst = some N) (xs : List α) (inner : List Value) (hrun : (execOp a.eval o).run P W = .ok (.value (.slice (some ⟨W.heap.size, 0, none⟩) xs.length xs.length)) (W.alloc (.cells inner.toArray e)))
    (hp : Reps (d.M W W.heap.size (fun _ => True)) d.sz xs inner) (hm : xs.length ≤ 9223372036854775807) (B : Aside0 (Below w.heap.size w W))
    (h : ∀ zs, xs = zs → ∀ A kk w1, Below W.heap.size W w1 → Aside0 (Below w.heap.size w w1) → Aside0 (Ow d e w1 w.heap.size (.slice A zs.length kk) zs) → Aside0 (Fr W (.slice A zs.length kk)) → Kc (a.put (some N) (.slice A zs.length kk)) w1) :
    if Region.wanted o (yielded ops' a.tmps) = true then Oper.wp P o a W Kc QE else Kc (a.put (some N) undef) W := by
  rw [← hd]
  refine Kd.R_lit_step d (w0 := W) W.heap.size e hw hd hrun hp (fun _ h => h) trivial (Below.refl _ _) (Nat.le_refl _) hm fun v1 w1 hR hb hg hnew => ?_
  obtain ⟨A, kk, rfl⟩ := Kd.R_slice hR
  rw [hd]
  exact h xs rfl A kk w1 hb ⟨below_step B.out hb⟩ ⟨Kd.R_lower hR (below_size B.out)⟩ ⟨fun k hk => Kd.R_base hR k hk⟩
theorem aps (d : Kd α) (e : Nat) (hw : Region.wanted o (yielded ops' a.tmps) = true) {N : Tmp} (hd : o.dst = some N) (s x : Operand) (t : TypeId) (z : Value) (bytes : Nat) (ho : o.op = .call { callee := .builtin .append, args := #[s, x], argTypes := #[t, t] })
    (ht : P.underlying t = some (.slice e)) (hinfo : (P.info? e).map (fun i => (i.zero, i.size, i.bytes)) = some (some z, d.sz, bytes)) (hz : z.cells.size = d.sz) (hs0 : 0 < d.sz) (hb0 : 0 < bytes)
    {v : Value} {ys : List α} {A : Option Addr} {m c : Nat} (hs : a.eval s = v) (hx : a.eval x = .slice A m c) (R : Aside0 (Ow d e W w.heap.size v xs)) (C : d.C W A m ys) (hKM : ∀ x cs, d.K W x cs → d.M W w.heap.size (fun _ => False) x cs)
    (hl : (xs.length + m) * bytes ≤ 140737488355328) (B : Aside0 (Below w.heap.size w W))
    (h : ∀ zs, xs ++ ys = zs → ∀ A' kk w1, W.grownBy w1 v.ownBlock → Aside0 (Below w.heap.size w w1) → Aside0 (Ow d e w1 w.heap.size (.slice A' zs.length kk) zs) → Aside0 ((Value.slice A' zs.length kk).ownBlock = v.ownBlock ∨ ∃ b, (Value.slice A' zs.length kk).ownBlock = some b ∧ W.heap.size ≤ b) → Kc (a.put (some N) (.slice A' zs.length kk)) w1) :
    if Region.wanted o (yielded ops' a.tmps) = true then Oper.wp P o a W Kc QE else Kc (a.put (some N) undef) W := by
  rw [← hd]
  refine Kd.R_append_rows_step d (w0 := w) w.heap.size hw s x t e z bytes ho ht hinfo hz hs0 hb0 v xs ys A m c (fun _ => True) (fun _ => False) hs hx R.out C hKM (fun _ h => h.elim) (fun _ _ => trivial) B.out (below_size B.out) hl fun v1 w1 hR hb hg hat => ?_
  obtain ⟨A', kk, rfl⟩ := Kd.R_slice hR
  rw [hd]
  exact h _ rfl A' kk w1 hg ⟨hb⟩ ⟨hR⟩ ⟨hat⟩
end

def laws_FnExactStateJoin.T8 : Bool × List (List Nat × List Nat) := (true, [([], []), ([0], [0]), ([], []), ([2, 1], [2]), ([1, 3, 3], [1, 3]), ([4], [4]), ([5], [5]), ([5], [5]), ([], []), ([8, 6, 4, 0, 1, 2, 3, 4, 5, 6, 8], [6, 8]), ([7, 9, 0, 1, 2, 3, 4, 5, 6, 7, 8, 9], [7])])
def laws_FnExactStateJoin.B8 : List Nat := [0, 1, 0, 7, 15, 31, 63, 63, 0, 383, 1023]
theorem laws_FnExactStateJoin.tab8 : rtab .any (opsOf Try.f9 8) = laws_FnExactStateJoin.T8 := by kernel_rfl
theorem laws_FnExactStateJoin.bits8 : waitsOk laws_FnExactStateJoin.T8.2 laws_FnExactStateJoin.B8 = true := by kernel_rfl
def laws_FnExactStateJoin.T14 : Bool × List (List Nat × List Nat) := (true, [([], []), ([], []), ([1], [1]), ([0, 2, 2], [0, 2]), ([3], [3])])
def laws_FnExactStateJoin.B14 : List Nat := [0, 0, 2, 7, 15]
theorem laws_FnExactStateJoin.tab14 : rtab .any (opsOf Try.f9 14) = laws_FnExactStateJoin.T14 := by kernel_rfl
theorem laws_FnExactStateJoin.bits14 : waitsOk laws_FnExactStateJoin.T14.2 laws_FnExactStateJoin.B14 = true := by kernel_rfl
def laws_FnExactStateJoin.T16 : Bool × List (List Nat × List Nat) := (true, [([], []), ([], []), ([1], [1]), ([0, 2, 2], [0, 2]), ([3], [3])])
def laws_FnExactStateJoin.B16 : List Nat := [0, 0, 2, 7, 15]
theorem laws_FnExactStateJoin.tab16 : rtab .any (opsOf Try.f9 16) = laws_FnExactStateJoin.T16 := by kernel_rfl
theorem laws_FnExactStateJoin.bits16 : waitsOk laws_FnExactStateJoin.T16.2 laws_FnExactStateJoin.B16 = true := by kernel_rfl
def laws_FnExactStateJoin.T31 : Bool × List (List Nat × List Nat) := (true, [([], []), ([0], [0]), ([], []), ([2, 1], [2]), ([1, 3, 3], [1, 3]), ([4], [4]), ([5], [5]), ([5], [5]), ([], []), ([8, 6, 4, 0, 1, 2, 3, 4, 5, 6, 8], [6, 8]), ([7, 9, 0, 1, 2, 3, 4, 5, 6, 7, 8, 9], [7])])
def laws_FnExactStateJoin.B31 : List Nat := [0, 1, 0, 7, 15, 31, 63, 63, 0, 383, 1023]
theorem laws_FnExactStateJoin.tab31 : rtab .any (opsOf Try.f9 31) = laws_FnExactStateJoin.T31 := by kernel_rfl
theorem laws_FnExactStateJoin.bits31 : waitsOk laws_FnExactStateJoin.T31.2 laws_FnExactStateJoin.B31 = true := by kernel_rfl
theorem sjM_len (s u : SM) : (sjM s u).1.ps.length ≤ s.ps.length + u.ps.length ∧ (sjM s u).1.ss.length ≤ 1000 := by
  unfold sjM
  split
  · rename_i h
    obtain ⟨h1, h2, _⟩ := joinOk_parts h
    refine ⟨by simp, ?_⟩
    have h1 := (stB_parts.mp h1).2.2.1
    have h2 := (stB_parts.mp h2).2.2.1
    have : sesB (joinB s.ss u.ss) = true := by
      unfold joinB
      rw [if_pos ⟨h1, h2⟩]
      exact joinL_valid u.ss s.ss h1 (sesG_ok u.ss none h2)
    have := sesB_len this
    show (joinB s.ss u.ss).length ≤ 1000
    omega
  · exact ⟨Nat.zero_le _, Nat.zero_le _⟩
theorem laws_FnExactStateJoin.M (a b : ByteArray) (AP : Option Addr) (cP : Nat) (ps : List S108) (AS : Option Addr) (cS : Nat) (ss : List S112) (t : Bool) (c : ByteArray) (lo hi : ByteArray) (AQ : Option Addr) (cQ : Nat) (pt : List S108) (AU : Option Addr) (cU : Nat) (st : List S112) (u2 : Bool) (ct : ByteArray) (w : World) (hrp : Kd.C k108 w AP ps.length ps) (hrs : Kd.C k112 w AS ss.length ss) (hrq : Kd.C k108 w AQ pt.length pt) (hru : Kd.C k112 w AU st.length st) (hs : (a.size ≤ 9223372036854775807 ∧ b.size ≤ 9223372036854775807 ∧ c.size ≤ 9223372036854775807 ∧ ∀ y ∈ ps, y.f0.size ≤ 9223372036854775807) ∧ lo.size ≤ 9223372036854775807 ∧ hi.size ≤ 9223372036854775807 ∧ ct.size ≤ 9223372036854775807 ∧ ∀ y ∈ pt, y.f0.size ≤ 9223372036854775807) : Calls Try.prog 9 #[.agg #[.string a, .string b, .slice AP ps.length cP, .slice AS ss.length cS, .bool t, .string c], .agg #[.string lo, .string hi, .slice AQ pt.length cQ, .slice AU st.length cU, .bool u2, .string ct]] w fun e w' => e = .returned (.bool true) ∧ Below w.heap.size w w' := by
  have B := Aside0.mk (Below.refl w.heap.size w)
  have hu := Try.underlying34
  have hu2 := Try.underlying27
  by_cases hsz : (ps.length ≤ 1048576 ∧ ss.length ≤ 1048576) ∧ pt.length ≤ 1048576 ∧ st.length ≤ 1048576
  · obtain ⟨⟨hl1, hl2⟩, hl3, hl4⟩ := hsz
    have hq0 : (0 : Int) ≤ 1 := by omega
    have hq1 : (1 : Int) ≤ 1000000000000 := by omega
    have HRP := Aside0.mk hrp
    have HRS := Aside0.mk hrs
    have HRQ := Aside0.mk hrq
    have HRU := Aside0.mk hru
    obtain ⟨hsa, hsb⟩ := hs
    have HSA := Aside0.mk hsa
    have HSB := Aside0.mk hsb
    clear hrp hrs hrq hru hsa hsb
    obtain ⟨qs, hqs⟩ : ∃ qs, ps.map prOf = qs := ⟨_, rfl⟩
    have HQS := Aside0.mk hqs
    have hqsl : qs.length ≤ 1048576 := by rw [← hqs, List.length_map]; exact hl1
    clear hqs
    obtain ⟨us, hus⟩ : ∃ us, ss.map sesOf = us := ⟨_, rfl⟩
    have HUS := Aside0.mk hus
    have husl : us.length ≤ 1048576 := by rw [← hus, List.length_map]; exact hl2
    clear hus
    obtain ⟨qt, hqt⟩ : ∃ qt, pt.map prOf = qt := ⟨_, rfl⟩
    have HQT := Aside0.mk hqt
    have hqtl : qt.length ≤ 1048576 := by rw [← hqt, List.length_map]; exact hl3
    clear hqt
    obtain ⟨ut, hut⟩ : ∃ ut, st.map sesOf = ut := ⟨_, rfl⟩
    have HUT := Aside0.mk hut
    have hutl : ut.length ≤ 1048576 := by rw [← hut, List.length_map]; exact hl4
    clear hut
    obtain ⟨hx1, hx2⟩ := sjM_len ⟨a, b, qs, us, t, c⟩ ⟨lo, hi, qt, ut, u2, ct⟩
    obtain ⟨⟨⟨xa, xb, xp, xs, xt, xc⟩, ok⟩, hm⟩ : ∃ r, sjM ⟨a, b, qs, us, t, c⟩ ⟨lo, hi, qt, ut, u2, ct⟩ = r := ⟨_, rfl⟩
    have HM := Aside0.mk hm
    rw [hm] at hx1 hx2
    replace hx1 : xp.length ≤ qs.length + qt.length := hx1
    replace hx2 : xs.length ≤ 1000 := hx2
    clear hm
    have hy1 : xp.length ≤ 2097152 := by omega
    have hy2 : xs.length ≤ 2097152 := by omega
    have hy3 : qt.length ≤ 2097152 := by omega
    have hy4 : ut.length ≤ 2097152 := by omega
    have hy5 : qs.length ≤ 2097152 := by omega
    have hy6 : us.length ≤ 2097152 := by omega
    have : 0 ≤ (1 + 2 * (qs.length : Int) + 3 * (us.length : Int)) := by omega
    have : (1 + 2 * (qs.length : Int) + 3 * (us.length : Int)) ≤ 1000000000000 := by omega
    have : decide ((1 + 2 * (qs.length : Int) + 3 * (us.length : Int)) < 0) = false := decide_eq_false (by omega)
    have : 0 ≤ (1 + 2 * (xp.length : Int) + 3 * (xs.length : Int)) := by omega
    have : (1 + 2 * (xp.length : Int) + 3 * (xs.length : Int)) ≤ 1000000000000 := by omega
    have : decide ((1 + 2 * (xp.length : Int) + 3 * (xs.length : Int)) < 0) = false := decide_eq_false (by omega)
    have : 0 ≤ (1 + 2 * (qs.length : Int) + 3 * (us.length : Int) + 2 * (qt.length : Int) + 3 * (ut.length : Int)) := by omega
    have : (1 + 2 * (qs.length : Int) + 3 * (us.length : Int) + 2 * (qt.length : Int) + 3 * (ut.length : Int)) ≤ 1000000000000 := by omega
    have : decide ((1 + 2 * (qs.length : Int) + 3 * (us.length : Int) + 2 * (qt.length : Int) + 3 * (ut.length : Int)) < 0) = false := decide_eq_false (by omega)
    clear hx1 hx2
    go_enter Try.func9, Try.ntmps9
    go_wp2_with (first
      | ((with_reducible refine gate_dst (N := 2) rfl ?_); refine bx ?hg (N := 2) ?hd (cs := #[.string a, .string b, .slice AP ps.length cP, .slice AS ss.length cS, .bool t, .string c]) (t := 27) ?hr B ?_; (case hd => rfl); (case hg => rfl); (case hr => first | (go_simp; done) | (go_simp; rfl)); intro g2 w1 hb B F2 L2 E2; obtain ⟨c2_0, c2_1, c2_2, c2_3, c2_4, c2_5⟩ := cs6 F2; clear hb E2)
      | ((with_reducible refine gate_dst (N := 3) rfl ?_); refine bx ?hg (N := 3) ?hd (cs := #[.string lo, .string hi, .slice AQ pt.length cQ, .slice AU st.length cU, .bool u2, .string ct]) (t := 27) ?hr B ?_; (case hd => rfl); (case hg => rfl); (case hr => first | (go_simp; done) | (go_simp; rfl)); intro g3 w2 hb B F3 L3 E3; replace F2 := bn F2 hb; clear c2_0 c2_1 c2_2 c2_3 c2_4 c2_5; obtain ⟨c2_0, c2_1, c2_2, c2_3, c2_4, c2_5⟩ := cs6 F2; obtain ⟨c3_0, c3_1, c3_2, c3_3, c3_4, c3_5⟩ := cs6 F3; clear hb E3)
      | (go_at_call 11; with_reducible refine cx (laws_szState.M a b _ _ ps _ _ ss t c 1048576 w2 (cb HRP B) (cb HRS B) (by omega) HSA.out) B fun v3 hv3 w3 hb B => ?_; replace F2 := bn F2 hb; replace F3 := bn F3 hb; clear c2_0 c2_1 c2_2 c2_3 c2_4 c2_5; obtain ⟨c2_0, c2_1, c2_2, c2_3, c2_4, c2_5⟩ := cs6 F2; clear c3_0 c3_1 c3_2 c3_3 c3_4 c3_5; obtain ⟨c3_0, c3_1, c3_2, c3_3, c3_4, c3_5⟩ := cs6 F3; clear hb)
      | (go_at_call 11; with_reducible refine cx (laws_szState.M lo hi _ _ pt _ _ st u2 ct v3 w3 (cb HRQ B) (cb HRU B) (by omega) HSB.out) B fun v4 hv4 w4 hb B => ?_; replace F2 := bn F2 hb; replace F3 := bn F3 hb; clear c2_0 c2_1 c2_2 c2_3 c2_4 c2_5; obtain ⟨c2_0, c2_1, c2_2, c2_3, c2_4, c2_5⟩ := cs6 F2; clear c3_0 c3_1 c3_2 c3_3 c3_4 c3_5; obtain ⟨c3_0, c3_1, c3_2, c3_3, c3_4, c3_5⟩ := cs6 F3; clear hb))
    all_goals try (go_ret; exact ⟨rfl, B.out⟩)
    all_goals (
      refine rg (n := 11) (S := fun W => W.heap[g2]? = some (.cells #[.string a, .string b, .slice AP ps.length cP, .slice AS ss.length cS, .bool t, .string c] 27 (0, 0)) ∧ W.heap[g3]? = some (.cells #[.string lo, .string hi, .slice AQ pt.length cQ, .slice AU st.length cU, .bool u2, .string ct] 27 (0, 0))) (ds := []) #[false, false, false, false, false, false, false, false, false, false, false] (by kernel_rfl) rfl rfl ⟨F2.out, F3.out⟩ id B (fun w5 hb B hHeld => ?_)
      refine with_tabW laws_FnExactStateJoin.tab8 laws_FnExactStateJoin.bits8 (fun HT_ HW_ => ?_)
      replace F2 := bn F2 hb
      replace F3 := bn F3 hb
      clear hb
      refine join_ 0 (bits 11 2047) (σ := Option Addr × Nat × Option Addr × Nat × Option Addr × Nat × Option Addr × Nat × Option Addr × Nat × Option Addr × Nat × Nat) (fun (APs29, kPs29, ASs29, kSs29, APs31, kPs31, ASs31, kSs31, APs32, kPs32, ASs32, kSs32, g6) => [(28, .agg #[.string a, .string b, .slice AP ps.length cP, .slice AS ss.length cS, .bool t, .string c]), (29, .agg #[.string a, .string b, .slice APs29 qs.length kPs29, .slice ASs29 us.length kSs29, .bool t, .string c]), (30, .agg #[.string lo, .string hi, .slice AQ pt.length cQ, .slice AU st.length cU, .bool u2, .string ct]), (31, .agg #[.string lo, .string hi, .slice APs31 qt.length kPs31, .slice ASs31 ut.length kSs31, .bool u2, .string ct]), (32, .tuple #[.agg #[.string xa, .string xb, .slice APs32 xp.length kPs32, .slice ASs32 xs.length kSs32, .bool xt, .string xc], .bool ok]), (27, .tuple #[.agg #[.string xa, .string xb, .slice APs32 xp.length kPs32, .slice ASs32 xs.length kSs32, .bool xt, .string xc], .bool ok]), (33, .agg #[.string xa, .string xb, .slice APs32 xp.length kPs32, .slice ASs32 xs.length kSs32, .bool xt, .string xc]), (34, .bool ok), (6, .pointer (some ⟨g6, 0, none⟩)), (7, .bool ok)]) (fun (APs29, kPs29, ASs29, kSs29, APs31, kPs31, ASs31, kSs31, APs32, kPs32, ASs32, kSs32, g6) W => Aside0 (Below w.heap.size w W) ∧ Aside0 (W.heap[g2]? = some (.cells #[.string a, .string b, .slice AP ps.length cP, .slice AS ss.length cS, .bool t, .string c] 27 (0, 0))) ∧ Aside0 (W.heap[g3]? = some (.cells #[.string lo, .string hi, .slice AQ pt.length cQ, .slice AU st.length cU, .bool u2, .string ct] 27 (0, 0))) ∧ Aside0 (W.heap[g6]? = some (.cells #[.string xa, .string xb, .slice APs32 xp.length kPs32, .slice ASs32 xs.length kSs32, .bool xt, .string xc] 34 (0, 0))) ∧ Aside0 (w.heap.size ≤ g6) ∧ Aside0 (g2 ≠ g6) ∧ Aside0 (g3 ≠ g6) ∧ Aside0 (Ow k61 61 W w.heap.size (.slice APs32 xp.length kPs32) xp) ∧ Aside0 (Ow k100 100 W w.heap.size (.slice ASs32 xs.length kSs32) xs)) ?_ (fun J => ?_)
      rotate_left
      · refine ta (i := 0) (N := some 28) (v := ?_) (bits 11 1) rfl rfl (take_ofW HT_.out HW_.out (by kernel_rfl)) (fun _ _ _ h => h) (by kernel_rfl) hHeld ?_ ?_; rotate_left; (intro w' hS; obtain ⟨s0, s1⟩ := hS; obtain ⟨q0, q1, q2, q3, q4, q5⟩ := cs6 (Aside0.mk s0); go_simp; with_reducible rfl)
        refine ta (i := 2) (N := some 30) (v := ?_) (bits 11 5) rfl rfl (take_ofW HT_.out HW_.out (by kernel_rfl)) (fun _ _ _ h => h) (by kernel_rfl) hHeld ?_ ?_; rotate_left; (intro w' hS; obtain ⟨s0, s1⟩ := hS; obtain ⟨q0, q1, q2, q3, q4, q5⟩ := cs6 (Aside0.mk s1); go_simp; with_reducible rfl)
        refine norm_ (a' := ?_) ?_ ?_
        rotate_left
        · simp only [Act.put, List.setIfInBounds_toArray, List.set_cons_zero, List.set_cons_succ, i64_w, i32_w]
          rfl
        refine two_ (i := 1) (j := 8) (Ni := some 29) (Nj := some 6) (bits 11 7) (bits 11 261) rfl rfl rfl rfl (two_of HT_.out (by kernel_rfl)) (by decide) (by decide) (fun K hK => ?_) (fun K hK => ?_)
        · refine goes_ Try.func13 (by kernel_rfl) rfl #[.agg #[.string a, .string b, .slice AP ps.length cP, .slice AS ss.length cS, .bool t, .string c]] (by rfl) rfl rfl (by (try simp only [List.map_toArray, List.map_cons, List.map_nil]); rfl) ?_
          with_reducible refine c2r (laws_toState.M a b _ _ ps _ _ ss t c qs us w5 (cb HRP B) (cb HRS B) ⟨by omega, by omega⟩ HQS.out HUS.out) B fun APs29 kPs29 ASs29 kSs29 w6 hb B RPs29 QPs29 RSs29 QSs29 => ?_
          replace F2 := bn F2 hb
          replace F3 := bn F3 hb
          clear hb
          refine ⟨_, rfl, ?_⟩
          refine hK.out _ _ ⟨F2.out, F3.out⟩ (fun hHeld => ?_)
          clear hK K
          refine norm_ (a' := ?_) ?_ ?_
          rotate_left
          · show Act.put _ (some 29) _ = _
            simp only [Act.put, List.setIfInBounds_toArray, List.set_cons_zero, List.set_cons_succ, i64_w, i32_w]
            rfl
          clear QPs29 QSs29
          refine two_ (i := 3) (j := 8) (Ni := some 31) (Nj := some 6) (bits 11 15) (bits 11 263) rfl rfl rfl rfl (two_of HT_.out (by kernel_rfl)) (by decide) (by decide) (fun K hK => ?_) (fun K hK => ?_)
          · refine goes_ Try.func13 (by kernel_rfl) rfl #[.agg #[.string lo, .string hi, .slice AQ pt.length cQ, .slice AU st.length cU, .bool u2, .string ct]] (by rfl) rfl rfl (by (try simp only [List.map_toArray, List.map_cons, List.map_nil]); rfl) ?_
            with_reducible refine c2r (laws_toState.M lo hi _ _ pt _ _ st u2 ct qt ut w6 (cb HRQ B) (cb HRU B) ⟨by omega, by omega⟩ HQT.out HUT.out) B fun APs31 kPs31 ASs31 kSs31 w7 hb B RPs31 QPs31 RSs31 QSs31 => ?_
            have DPs29_Ps31 := fr QPs31 RPs29
            have DSs29_Ps31 := fr QPs31 RSs29
            have DPs29_Ss31 := fr QSs31 RPs29
            have DSs29_Ss31 := fr QSs31 RSs29
            replace F2 := bn F2 hb
            replace F3 := bn F3 hb
            replace RPs29 := rn RPs29 hb
            replace RSs29 := rn RSs29 hb
            clear hb
            refine ⟨_, rfl, ?_⟩
            refine hK.out _ _ ⟨F2.out, F3.out⟩ (fun hHeld => ?_)
            clear hK K
            refine norm_ (a' := ?_) ?_ ?_
            rotate_left
            · show Act.put _ (some 31) _ = _
              simp only [Act.put, List.setIfInBounds_toArray, List.set_cons_zero, List.set_cons_succ, i64_w, i32_w]
              rfl
            clear QPs31 QSs31
            refine two_ (i := 4) (j := 8) (Ni := some 32) (Nj := some 6) (bits 11 31) (bits 11 271) rfl rfl rfl rfl (two_of HT_.out (by kernel_rfl)) (by decide) (by decide) (fun K hK => ?_) (fun K hK => ?_)
            · refine goes_ Try.func41 (by kernel_rfl) rfl #[.agg #[.string a, .string b, .slice APs29 qs.length kPs29, .slice ASs29 us.length kSs29, .bool t, .string c], .agg #[.string lo, .string hi, .slice APs31 qt.length kPs31, .slice ASs31 ut.length kSs31, .bool u2, .string ct]] (by rfl) rfl rfl (by (try simp only [List.map_toArray, List.map_cons, List.map_nil]); rfl) ?_
              with_reducible refine c2r (spec_StateJoin.Mr a b _ _ qs _ _ us t c lo hi _ _ qt _ _ ut u2 ct xa xb xp xs xt xc ok HM.out w7 (rc RPs29) (rc RSs29) (rc RPs31) (rc RSs31) (rl RPs29) (rl RSs29) (rl RPs31) (rl RSs31)) B fun APs32 kPs32 ASs32 kSs32 w8 hb B RPs32 QPs32 RSs32 QSs32 => ?_
              replace F2 := bn F2 hb
              replace F3 := bn F3 hb
              clear hb
              refine ⟨_, rfl, ?_⟩
              refine hK.out _ _ ⟨F2.out, F3.out⟩ (fun hHeld => ?_)
              clear hK K
              refine norm_ (a' := ?_) ?_ ?_
              rotate_left
              · show Act.put _ (some 32) _ = _
                simp only [Act.put, List.setIfInBounds_toArray, List.set_cons_zero, List.set_cons_succ, i64_w, i32_w]
                rfl
              clear QPs32 QSs32
              refine pu (i := 5) (N := some 27) (v := ?_) (bits 11 63) rfl rfl (any_of HT_.out (by kernel_rfl)) (fun _ _ _ h => h) (by kernel_rfl) ?_ ?_; rotate_left; (intro w'; go_simp; with_reducible rfl)
              refine pu (i := 6) (N := some 33) (v := ?_) (bits 11 127) rfl rfl (any_of HT_.out (by kernel_rfl)) (fun _ _ _ h => h) (by kernel_rfl) ?_ ?_; rotate_left; (intro w'; go_simp; with_reducible rfl)
              refine pu (i := 7) (N := some 34) (v := ?_) (bits 11 255) rfl rfl (any_of HT_.out (by kernel_rfl)) (fun _ _ _ h => h) (by kernel_rfl) ?_ ?_; rotate_left; (intro w'; go_simp; with_reducible rfl)
              refine norm_ (a' := ?_) ?_ ?_
              rotate_left
              · simp only [Act.put, List.setIfInBounds_toArray, List.set_cons_zero, List.set_cons_succ, i64_w, i32_w]
                rfl
              refine one_ (i := 8) (N := some 6) (bits 11 511) rfl rfl (one_of HT_.out (by kernel_rfl)) (by decide) (fun K hK => ?_)
              refine bxs (cs := #[.string (⟨#[]⟩ : ByteArray), .string (⟨#[]⟩ : ByteArray), .slice none 0 0, .slice none 0 0, .bool false, .string (⟨#[]⟩ : ByteArray)]) (t := 34) (by rfl) rfl ?hr B (fun g6 w9 hb B F6 L6 E6 => ?_)
              (case hr => first | (go_simp; done) | (go_simp; rfl))
              have N2_6 := ne1 E6 F2
              have N3_6 := ne1 E6 F3
              replace F2 := bn F2 hb
              replace F3 := bn F3 hb
              replace RPs32 := rn RPs32 hb
              replace RSs32 := rn RSs32 hb
              clear hb E6
              refine hK.out _ _ ⟨F2.out, F3.out⟩ (fun hHeld => ?_)
              clear hK K
              refine norm_ (a' := ?_) ?_ ?_
              rotate_left
              · show Act.put _ (some 6) _ = _
                simp only [Act.put, List.setIfInBounds_toArray, List.set_cons_zero, List.set_cons_succ, i64_w, i32_w]
                rfl
              refine one_ (i := 9) (N := none) (bits 11 1023) rfl rfl (one_of HT_.out (by kernel_rfl)) (by decide) (fun K hK => ?_)
              obtain ⟨y0, y1, y2, y3, y4, y5⟩ := cs6 F6
              have z0 := fz F6 0
              have z1 := fz F6 1
              have z2 := fz F6 2
              have z3 := fz F6 3
              have z4 := fz F6 4
              have z5 := fz F6 5
              refine sxs (g := g6) 0 [.string xa, .string xb, .slice APs32 xp.length kPs32, .slice ASs32 xs.length kSs32, .bool xt, .string xc] [.string xa, .string xb, .slice APs32 xp.length kPs32, .slice ASs32 xs.length kSs32, .bool xt, .string xc] (by rfl) rfl ?hr B F6 L6 rfl (Nat.le_of_ble_eq_true rfl) (fun w10 hk B G => ?_)
              (case hr => first | (go_simp; done) | (go_simp; rfl))
              replace F2 := bk F2 hk N2_6.out
              replace F3 := bk F3 hk N3_6.out
              replace RPs32 := rk RPs32 F6 (by decide) hk
              replace RSs32 := rk RSs32 F6 (by decide) hk
              replace F6 := G
              clear hk y0 z0 y1 z1 y2 z2 y3 z3 y4 z4 y5 z5
              refine hK.out _ _ ⟨F2.out, F3.out⟩ (fun hHeld => ?_)
              clear hK K
              refine pu (i := 10) (N := some 7) (v := ?_) (bits 11 2047) rfl rfl (any_of HT_.out (by kernel_rfl)) (fun _ _ _ h => h) (by kernel_rfl) ?_ ?_; rotate_left; (intro w'; go_simp; with_reducible rfl)
              refine norm_ (a' := ?_) ?_ ?_
              rotate_left
              · simp only [Act.put, List.setIfInBounds_toArray, List.set_cons_zero, List.set_cons_succ, i64_w, i32_w]
                rfl
              refine norm_ (a' := _) ?_ (J ⟨APs29, kPs29, ASs29, kSs29, APs31, kPs31, ASs31, kSs31, APs32, kPs32, ASs32, kSs32, g6⟩ _ ⟨B, F2, F3, F6, L6, N2_6, N3_6, RPs32, RSs32⟩)
              simp only [putAll, Act.put, List.setIfInBounds_toArray, List.set_cons_zero, List.set_cons_succ]
              try rfl
            · refine bxs (cs := #[.string (⟨#[]⟩ : ByteArray), .string (⟨#[]⟩ : ByteArray), .slice none 0 0, .slice none 0 0, .bool false, .string (⟨#[]⟩ : ByteArray)]) (t := 34) (by rfl) rfl ?hr B (fun g6 w8 hb B F6 L6 E6 => ?_)
              (case hr => first | (go_simp; done) | (go_simp; rfl))
              have N2_6 := ne1 E6 F2
              have N3_6 := ne1 E6 F3
              replace F2 := bn F2 hb
              replace F3 := bn F3 hb
              replace RPs29 := rn RPs29 hb
              replace RSs29 := rn RSs29 hb
              replace RPs31 := rn RPs31 hb
              replace RSs31 := rn RSs31 hb
              clear hb E6
              refine hK.out _ _ ⟨F2.out, F3.out⟩ (fun hHeld => ?_)
              clear hK K
              refine norm_ (a' := ?_) ?_ ?_
              rotate_left
              · show Act.put _ (some 6) _ = _
                simp only [Act.put, List.setIfInBounds_toArray, List.set_cons_zero, List.set_cons_succ, i64_w, i32_w]
                rfl
              refine one_ (i := 4) (N := some 32) (bits 11 287) rfl rfl (one_of HT_.out (by kernel_rfl)) (by decide) (fun K hK => ?_)
              refine goes_ Try.func41 (by kernel_rfl) rfl #[.agg #[.string a, .string b, .slice APs29 qs.length kPs29, .slice ASs29 us.length kSs29, .bool t, .string c], .agg #[.string lo, .string hi, .slice APs31 qt.length kPs31, .slice ASs31 ut.length kSs31, .bool u2, .string ct]] (by rfl) rfl rfl (by (try simp only [List.map_toArray, List.map_cons, List.map_nil]); rfl) ?_
              with_reducible refine c2r (spec_StateJoin.Mr a b _ _ qs _ _ us t c lo hi _ _ qt _ _ ut u2 ct xa xb xp xs xt xc ok HM.out w8 (rc RPs29) (rc RSs29) (rc RPs31) (rc RSs31) (rl RPs29) (rl RSs29) (rl RPs31) (rl RSs31)) B fun APs32 kPs32 ASs32 kSs32 w9 hb B RPs32 QPs32 RSs32 QSs32 => ?_
              replace F2 := bn F2 hb
              replace F3 := bn F3 hb
              replace F6 := bn F6 hb
              clear hb
              refine ⟨_, rfl, ?_⟩
              refine hK.out _ _ ⟨F2.out, F3.out⟩ (fun hHeld => ?_)
              clear hK K
              refine norm_ (a' := ?_) ?_ ?_
              rotate_left
              · show Act.put _ (some 32) _ = _
                simp only [Act.put, List.setIfInBounds_toArray, List.set_cons_zero, List.set_cons_succ, i64_w, i32_w]
                rfl
              clear QPs32 QSs32
              refine pu (i := 5) (N := some 27) (v := ?_) (bits 11 319) rfl rfl (any_of HT_.out (by kernel_rfl)) (fun _ _ _ h => h) (by kernel_rfl) ?_ ?_; rotate_left; (intro w'; go_simp; with_reducible rfl)
              refine pu (i := 6) (N := some 33) (v := ?_) (bits 11 383) rfl rfl (any_of HT_.out (by kernel_rfl)) (fun _ _ _ h => h) (by kernel_rfl) ?_ ?_; rotate_left; (intro w'; go_simp; with_reducible rfl)
              refine pu (i := 7) (N := some 34) (v := ?_) (bits 11 511) rfl rfl (any_of HT_.out (by kernel_rfl)) (fun _ _ _ h => h) (by kernel_rfl) ?_ ?_; rotate_left; (intro w'; go_simp; with_reducible rfl)
              refine norm_ (a' := ?_) ?_ ?_
              rotate_left
              · simp only [Act.put, List.setIfInBounds_toArray, List.set_cons_zero, List.set_cons_succ, i64_w, i32_w]
                rfl
              refine one_ (i := 9) (N := none) (bits 11 1023) rfl rfl (one_of HT_.out (by kernel_rfl)) (by decide) (fun K hK => ?_)
              obtain ⟨y0, y1, y2, y3, y4, y5⟩ := cs6 F6
              have z0 := fz F6 0
              have z1 := fz F6 1
              have z2 := fz F6 2
              have z3 := fz F6 3
              have z4 := fz F6 4
              have z5 := fz F6 5
              refine sxs (g := g6) 0 [.string xa, .string xb, .slice APs32 xp.length kPs32, .slice ASs32 xs.length kSs32, .bool xt, .string xc] [.string xa, .string xb, .slice APs32 xp.length kPs32, .slice ASs32 xs.length kSs32, .bool xt, .string xc] (by rfl) rfl ?hr B F6 L6 rfl (Nat.le_of_ble_eq_true rfl) (fun w10 hk B G => ?_)
              (case hr => first | (go_simp; done) | (go_simp; rfl))
              replace F2 := bk F2 hk N2_6.out
              replace F3 := bk F3 hk N3_6.out
              replace RPs32 := rk RPs32 F6 (by decide) hk
              replace RSs32 := rk RSs32 F6 (by decide) hk
              replace F6 := G
              clear hk y0 z0 y1 z1 y2 z2 y3 z3 y4 z4 y5 z5
              refine hK.out _ _ ⟨F2.out, F3.out⟩ (fun hHeld => ?_)
              clear hK K
              refine pu (i := 10) (N := some 7) (v := ?_) (bits 11 2047) rfl rfl (any_of HT_.out (by kernel_rfl)) (fun _ _ _ h => h) (by kernel_rfl) ?_ ?_; rotate_left; (intro w'; go_simp; with_reducible rfl)
              refine norm_ (a' := ?_) ?_ ?_
              rotate_left
              · simp only [Act.put, List.setIfInBounds_toArray, List.set_cons_zero, List.set_cons_succ, i64_w, i32_w]
                rfl
              refine norm_ (a' := _) ?_ (J ⟨APs29, kPs29, ASs29, kSs29, APs31, kPs31, ASs31, kSs31, APs32, kPs32, ASs32, kSs32, g6⟩ _ ⟨B, F2, F3, F6, L6, N2_6, N3_6, RPs32, RSs32⟩)
              simp only [putAll, Act.put, List.setIfInBounds_toArray, List.set_cons_zero, List.set_cons_succ]
              try rfl
          · refine bxs (cs := #[.string (⟨#[]⟩ : ByteArray), .string (⟨#[]⟩ : ByteArray), .slice none 0 0, .slice none 0 0, .bool false, .string (⟨#[]⟩ : ByteArray)]) (t := 34) (by rfl) rfl ?hr B (fun g6 w7 hb B F6 L6 E6 => ?_)
            (case hr => first | (go_simp; done) | (go_simp; rfl))
            have N2_6 := ne1 E6 F2
            have N3_6 := ne1 E6 F3
            replace F2 := bn F2 hb
            replace F3 := bn F3 hb
            replace RPs29 := rn RPs29 hb
            replace RSs29 := rn RSs29 hb
            clear hb E6
            refine hK.out _ _ ⟨F2.out, F3.out⟩ (fun hHeld => ?_)
            clear hK K
            refine norm_ (a' := ?_) ?_ ?_
            rotate_left
            · show Act.put _ (some 6) _ = _
              simp only [Act.put, List.setIfInBounds_toArray, List.set_cons_zero, List.set_cons_succ, i64_w, i32_w]
              rfl
            refine one_ (i := 3) (N := some 31) (bits 11 271) rfl rfl (one_of HT_.out (by kernel_rfl)) (by decide) (fun K hK => ?_)
            refine goes_ Try.func13 (by kernel_rfl) rfl #[.agg #[.string lo, .string hi, .slice AQ pt.length cQ, .slice AU st.length cU, .bool u2, .string ct]] (by rfl) rfl rfl (by (try simp only [List.map_toArray, List.map_cons, List.map_nil]); rfl) ?_
            with_reducible refine c2r (laws_toState.M lo hi _ _ pt _ _ st u2 ct qt ut w7 (cb HRQ B) (cb HRU B) ⟨by omega, by omega⟩ HQT.out HUT.out) B fun APs31 kPs31 ASs31 kSs31 w8 hb B RPs31 QPs31 RSs31 QSs31 => ?_
            have DPs29_Ps31 := fr QPs31 RPs29
            have DSs29_Ps31 := fr QPs31 RSs29
            have DPs29_Ss31 := fr QSs31 RPs29
            have DSs29_Ss31 := fr QSs31 RSs29
            replace F2 := bn F2 hb
            replace F3 := bn F3 hb
            replace F6 := bn F6 hb
            replace RPs29 := rn RPs29 hb
            replace RSs29 := rn RSs29 hb
            clear hb
            refine ⟨_, rfl, ?_⟩
            refine hK.out _ _ ⟨F2.out, F3.out⟩ (fun hHeld => ?_)
            clear hK K
            refine norm_ (a' := ?_) ?_ ?_
            rotate_left
            · show Act.put _ (some 31) _ = _
              simp only [Act.put, List.setIfInBounds_toArray, List.set_cons_zero, List.set_cons_succ, i64_w, i32_w]
              rfl
            clear QPs31 QSs31
            refine one_ (i := 4) (N := some 32) (bits 11 287) rfl rfl (one_of HT_.out (by kernel_rfl)) (by decide) (fun K hK => ?_)
            refine goes_ Try.func41 (by kernel_rfl) rfl #[.agg #[.string a, .string b, .slice APs29 qs.length kPs29, .slice ASs29 us.length kSs29, .bool t, .string c], .agg #[.string lo, .string hi, .slice APs31 qt.length kPs31, .slice ASs31 ut.length kSs31, .bool u2, .string ct]] (by rfl) rfl rfl (by (try simp only [List.map_toArray, List.map_cons, List.map_nil]); rfl) ?_
            with_reducible refine c2r (spec_StateJoin.Mr a b _ _ qs _ _ us t c lo hi _ _ qt _ _ ut u2 ct xa xb xp xs xt xc ok HM.out w8 (rc RPs29) (rc RSs29) (rc RPs31) (rc RSs31) (rl RPs29) (rl RSs29) (rl RPs31) (rl RSs31)) B fun APs32 kPs32 ASs32 kSs32 w9 hb B RPs32 QPs32 RSs32 QSs32 => ?_
            replace F2 := bn F2 hb
            replace F3 := bn F3 hb
            replace F6 := bn F6 hb
            clear hb
            refine ⟨_, rfl, ?_⟩
            refine hK.out _ _ ⟨F2.out, F3.out⟩ (fun hHeld => ?_)
            clear hK K
            refine norm_ (a' := ?_) ?_ ?_
            rotate_left
            · show Act.put _ (some 32) _ = _
              simp only [Act.put, List.setIfInBounds_toArray, List.set_cons_zero, List.set_cons_succ, i64_w, i32_w]
              rfl
            clear QPs32 QSs32
            refine pu (i := 5) (N := some 27) (v := ?_) (bits 11 319) rfl rfl (any_of HT_.out (by kernel_rfl)) (fun _ _ _ h => h) (by kernel_rfl) ?_ ?_; rotate_left; (intro w'; go_simp; with_reducible rfl)
            refine pu (i := 6) (N := some 33) (v := ?_) (bits 11 383) rfl rfl (any_of HT_.out (by kernel_rfl)) (fun _ _ _ h => h) (by kernel_rfl) ?_ ?_; rotate_left; (intro w'; go_simp; with_reducible rfl)
            refine pu (i := 7) (N := some 34) (v := ?_) (bits 11 511) rfl rfl (any_of HT_.out (by kernel_rfl)) (fun _ _ _ h => h) (by kernel_rfl) ?_ ?_; rotate_left; (intro w'; go_simp; with_reducible rfl)
            refine norm_ (a' := ?_) ?_ ?_
            rotate_left
            · simp only [Act.put, List.setIfInBounds_toArray, List.set_cons_zero, List.set_cons_succ, i64_w, i32_w]
              rfl
            refine one_ (i := 9) (N := none) (bits 11 1023) rfl rfl (one_of HT_.out (by kernel_rfl)) (by decide) (fun K hK => ?_)
            obtain ⟨y0, y1, y2, y3, y4, y5⟩ := cs6 F6
            have z0 := fz F6 0
            have z1 := fz F6 1
            have z2 := fz F6 2
            have z3 := fz F6 3
            have z4 := fz F6 4
            have z5 := fz F6 5
            refine sxs (g := g6) 0 [.string xa, .string xb, .slice APs32 xp.length kPs32, .slice ASs32 xs.length kSs32, .bool xt, .string xc] [.string xa, .string xb, .slice APs32 xp.length kPs32, .slice ASs32 xs.length kSs32, .bool xt, .string xc] (by rfl) rfl ?hr B F6 L6 rfl (Nat.le_of_ble_eq_true rfl) (fun w10 hk B G => ?_)
            (case hr => first | (go_simp; done) | (go_simp; rfl))
            replace F2 := bk F2 hk N2_6.out
            replace F3 := bk F3 hk N3_6.out
            replace RPs32 := rk RPs32 F6 (by decide) hk
            replace RSs32 := rk RSs32 F6 (by decide) hk
            replace F6 := G
            clear hk y0 z0 y1 z1 y2 z2 y3 z3 y4 z4 y5 z5
            refine hK.out _ _ ⟨F2.out, F3.out⟩ (fun hHeld => ?_)
            clear hK K
            refine pu (i := 10) (N := some 7) (v := ?_) (bits 11 2047) rfl rfl (any_of HT_.out (by kernel_rfl)) (fun _ _ _ h => h) (by kernel_rfl) ?_ ?_; rotate_left; (intro w'; go_simp; with_reducible rfl)
            refine norm_ (a' := ?_) ?_ ?_
            rotate_left
            · simp only [Act.put, List.setIfInBounds_toArray, List.set_cons_zero, List.set_cons_succ, i64_w, i32_w]
              rfl
            refine norm_ (a' := _) ?_ (J ⟨APs29, kPs29, ASs29, kSs29, APs31, kPs31, ASs31, kSs31, APs32, kPs32, ASs32, kSs32, g6⟩ _ ⟨B, F2, F3, F6, L6, N2_6, N3_6, RPs32, RSs32⟩)
            simp only [putAll, Act.put, List.setIfInBounds_toArray, List.set_cons_zero, List.set_cons_succ]
            try rfl
        · refine bxs (cs := #[.string (⟨#[]⟩ : ByteArray), .string (⟨#[]⟩ : ByteArray), .slice none 0 0, .slice none 0 0, .bool false, .string (⟨#[]⟩ : ByteArray)]) (t := 34) (by rfl) rfl ?hr B (fun g6 w6 hb B F6 L6 E6 => ?_)
          (case hr => first | (go_simp; done) | (go_simp; rfl))
          have N2_6 := ne1 E6 F2
          have N3_6 := ne1 E6 F3
          replace F2 := bn F2 hb
          replace F3 := bn F3 hb
          clear hb E6
          refine hK.out _ _ ⟨F2.out, F3.out⟩ (fun hHeld => ?_)
          clear hK K
          refine norm_ (a' := ?_) ?_ ?_
          rotate_left
          · show Act.put _ (some 6) _ = _
            simp only [Act.put, List.setIfInBounds_toArray, List.set_cons_zero, List.set_cons_succ, i64_w, i32_w]
            rfl
          refine one_ (i := 1) (N := some 29) (bits 11 263) rfl rfl (one_of HT_.out (by kernel_rfl)) (by decide) (fun K hK => ?_)
          refine goes_ Try.func13 (by kernel_rfl) rfl #[.agg #[.string a, .string b, .slice AP ps.length cP, .slice AS ss.length cS, .bool t, .string c]] (by rfl) rfl rfl (by (try simp only [List.map_toArray, List.map_cons, List.map_nil]); rfl) ?_
          with_reducible refine c2r (laws_toState.M a b _ _ ps _ _ ss t c qs us w6 (cb HRP B) (cb HRS B) ⟨by omega, by omega⟩ HQS.out HUS.out) B fun APs29 kPs29 ASs29 kSs29 w7 hb B RPs29 QPs29 RSs29 QSs29 => ?_
          replace F2 := bn F2 hb
          replace F3 := bn F3 hb
          replace F6 := bn F6 hb
          clear hb
          refine ⟨_, rfl, ?_⟩
          refine hK.out _ _ ⟨F2.out, F3.out⟩ (fun hHeld => ?_)
          clear hK K
          refine norm_ (a' := ?_) ?_ ?_
          rotate_left
          · show Act.put _ (some 29) _ = _
            simp only [Act.put, List.setIfInBounds_toArray, List.set_cons_zero, List.set_cons_succ, i64_w, i32_w]
            rfl
          clear QPs29 QSs29
          refine one_ (i := 3) (N := some 31) (bits 11 271) rfl rfl (one_of HT_.out (by kernel_rfl)) (by decide) (fun K hK => ?_)
          refine goes_ Try.func13 (by kernel_rfl) rfl #[.agg #[.string lo, .string hi, .slice AQ pt.length cQ, .slice AU st.length cU, .bool u2, .string ct]] (by rfl) rfl rfl (by (try simp only [List.map_toArray, List.map_cons, List.map_nil]); rfl) ?_
          with_reducible refine c2r (laws_toState.M lo hi _ _ pt _ _ st u2 ct qt ut w7 (cb HRQ B) (cb HRU B) ⟨by omega, by omega⟩ HQT.out HUT.out) B fun APs31 kPs31 ASs31 kSs31 w8 hb B RPs31 QPs31 RSs31 QSs31 => ?_
          have DPs29_Ps31 := fr QPs31 RPs29
          have DSs29_Ps31 := fr QPs31 RSs29
          have DPs29_Ss31 := fr QSs31 RPs29
          have DSs29_Ss31 := fr QSs31 RSs29
          replace F2 := bn F2 hb
          replace F3 := bn F3 hb
          replace F6 := bn F6 hb
          replace RPs29 := rn RPs29 hb
          replace RSs29 := rn RSs29 hb
          clear hb
          refine ⟨_, rfl, ?_⟩
          refine hK.out _ _ ⟨F2.out, F3.out⟩ (fun hHeld => ?_)
          clear hK K
          refine norm_ (a' := ?_) ?_ ?_
          rotate_left
          · show Act.put _ (some 31) _ = _
            simp only [Act.put, List.setIfInBounds_toArray, List.set_cons_zero, List.set_cons_succ, i64_w, i32_w]
            rfl
          clear QPs31 QSs31
          refine one_ (i := 4) (N := some 32) (bits 11 287) rfl rfl (one_of HT_.out (by kernel_rfl)) (by decide) (fun K hK => ?_)
          refine goes_ Try.func41 (by kernel_rfl) rfl #[.agg #[.string a, .string b, .slice APs29 qs.length kPs29, .slice ASs29 us.length kSs29, .bool t, .string c], .agg #[.string lo, .string hi, .slice APs31 qt.length kPs31, .slice ASs31 ut.length kSs31, .bool u2, .string ct]] (by rfl) rfl rfl (by (try simp only [List.map_toArray, List.map_cons, List.map_nil]); rfl) ?_
          with_reducible refine c2r (spec_StateJoin.Mr a b _ _ qs _ _ us t c lo hi _ _ qt _ _ ut u2 ct xa xb xp xs xt xc ok HM.out w8 (rc RPs29) (rc RSs29) (rc RPs31) (rc RSs31) (rl RPs29) (rl RSs29) (rl RPs31) (rl RSs31)) B fun APs32 kPs32 ASs32 kSs32 w9 hb B RPs32 QPs32 RSs32 QSs32 => ?_
          replace F2 := bn F2 hb
          replace F3 := bn F3 hb
          replace F6 := bn F6 hb
          clear hb
          refine ⟨_, rfl, ?_⟩
          refine hK.out _ _ ⟨F2.out, F3.out⟩ (fun hHeld => ?_)
          clear hK K
          refine norm_ (a' := ?_) ?_ ?_
          rotate_left
          · show Act.put _ (some 32) _ = _
            simp only [Act.put, List.setIfInBounds_toArray, List.set_cons_zero, List.set_cons_succ, i64_w, i32_w]
            rfl
          clear QPs32 QSs32
          refine pu (i := 5) (N := some 27) (v := ?_) (bits 11 319) rfl rfl (any_of HT_.out (by kernel_rfl)) (fun _ _ _ h => h) (by kernel_rfl) ?_ ?_; rotate_left; (intro w'; go_simp; with_reducible rfl)
          refine pu (i := 6) (N := some 33) (v := ?_) (bits 11 383) rfl rfl (any_of HT_.out (by kernel_rfl)) (fun _ _ _ h => h) (by kernel_rfl) ?_ ?_; rotate_left; (intro w'; go_simp; with_reducible rfl)
          refine pu (i := 7) (N := some 34) (v := ?_) (bits 11 511) rfl rfl (any_of HT_.out (by kernel_rfl)) (fun _ _ _ h => h) (by kernel_rfl) ?_ ?_; rotate_left; (intro w'; go_simp; with_reducible rfl)
          refine norm_ (a' := ?_) ?_ ?_
          rotate_left
          · simp only [Act.put, List.setIfInBounds_toArray, List.set_cons_zero, List.set_cons_succ, i64_w, i32_w]
            rfl
          refine one_ (i := 9) (N := none) (bits 11 1023) rfl rfl (one_of HT_.out (by kernel_rfl)) (by decide) (fun K hK => ?_)
          obtain ⟨y0, y1, y2, y3, y4, y5⟩ := cs6 F6
          have z0 := fz F6 0
          have z1 := fz F6 1
          have z2 := fz F6 2
          have z3 := fz F6 3
          have z4 := fz F6 4
          have z5 := fz F6 5
          refine sxs (g := g6) 0 [.string xa, .string xb, .slice APs32 xp.length kPs32, .slice ASs32 xs.length kSs32, .bool xt, .string xc] [.string xa, .string xb, .slice APs32 xp.length kPs32, .slice ASs32 xs.length kSs32, .bool xt, .string xc] (by rfl) rfl ?hr B F6 L6 rfl (Nat.le_of_ble_eq_true rfl) (fun w10 hk B G => ?_)
          (case hr => first | (go_simp; done) | (go_simp; rfl))
          replace F2 := bk F2 hk N2_6.out
          replace F3 := bk F3 hk N3_6.out
          replace RPs32 := rk RPs32 F6 (by decide) hk
          replace RSs32 := rk RSs32 F6 (by decide) hk
          replace F6 := G
          clear hk y0 z0 y1 z1 y2 z2 y3 z3 y4 z4 y5 z5
          refine hK.out _ _ ⟨F2.out, F3.out⟩ (fun hHeld => ?_)
          clear hK K
          refine pu (i := 10) (N := some 7) (v := ?_) (bits 11 2047) rfl rfl (any_of HT_.out (by kernel_rfl)) (fun _ _ _ h => h) (by kernel_rfl) ?_ ?_; rotate_left; (intro w'; go_simp; with_reducible rfl)
          refine norm_ (a' := ?_) ?_ ?_
          rotate_left
          · simp only [Act.put, List.setIfInBounds_toArray, List.set_cons_zero, List.set_cons_succ, i64_w, i32_w]
            rfl
          refine norm_ (a' := _) ?_ (J ⟨APs29, kPs29, ASs29, kSs29, APs31, kPs31, ASs31, kSs31, APs32, kPs32, ASs32, kSs32, g6⟩ _ ⟨B, F2, F3, F6, L6, N2_6, N3_6, RPs32, RSs32⟩)
          simp only [putAll, Act.put, List.setIfInBounds_toArray, List.set_cons_zero, List.set_cons_succ]
          try rfl
      rintro ⟨APs29, kPs29, ASs29, kSs29, APs31, kPs31, ASs31, kSs31, APs32, kPs32, ASs32, kSs32, g6⟩ w11 ⟨B, F2, F3, F6, L6, N2_6, N3_6, RPs32, RSs32⟩
      refine norm_ (a' := ?_) ?_ ?_
      rotate_left
      · simp only [putAll, Act.put, List.setIfInBounds_toArray, List.set_cons_zero, List.set_cons_succ]
        rfl
      refine done_ (done_of HT_.out (by kernel_rfl)) ?_
      clear c2_0 c2_1 c2_2 c2_3 c2_4 c2_5
      obtain ⟨c2_0, c2_1, c2_2, c2_3, c2_4, c2_5⟩ := cs6 F2
      clear c3_0 c3_1 c3_2 c3_3 c3_4 c3_5
      obtain ⟨c3_0, c3_1, c3_2, c3_3, c3_4, c3_5⟩ := cs6 F3
      obtain ⟨c6_0, c6_1, c6_2, c6_3, c6_4, c6_5⟩ := cs6 F6)
    all_goals go_wp2_with (first
      | (go_at_call 13; with_reducible refine c2r (laws_toState.M a b _ _ ps _ _ ss t c qs us w11 (cb HRP B) (cb HRS B) ⟨by omega, by omega⟩ HQS.out HUS.out) B fun AP12 kP12 AS12 kS12 w12 hb B RP12 QP12 RS12 QS12 => ?_; have DPs32_P12 := fr QP12 RPs32; have DSs32_P12 := fr QP12 RSs32; have DPs32_S12 := fr QS12 RPs32; have DSs32_S12 := fr QS12 RSs32; replace F2 := bn F2 hb; replace F3 := bn F3 hb; replace F6 := bn F6 hb; replace RPs32 := rn RPs32 hb; replace RSs32 := rn RSs32 hb; clear QP12 QS12; clear c2_0 c2_1 c2_2 c2_3 c2_4 c2_5; obtain ⟨c2_0, c2_1, c2_2, c2_3, c2_4, c2_5⟩ := cs6 F2; clear c3_0 c3_1 c3_2 c3_3 c3_4 c3_5; obtain ⟨c3_0, c3_1, c3_2, c3_3, c3_4, c3_5⟩ := cs6 F3; clear c6_0 c6_1 c6_2 c6_3 c6_4 c6_5; obtain ⟨c6_0, c6_1, c6_2, c6_3, c6_4, c6_5⟩ := cs6 F6; clear hb)
      | ((with_reducible refine gate_dst (N := 8) rfl ?_); refine bx ?hg (N := 8) ?hd (cs := #[.string (⟨#[]⟩ : ByteArray), .string (⟨#[]⟩ : ByteArray), .slice none 0 0, .slice none 0 0, .bool false, .string (⟨#[]⟩ : ByteArray)]) (t := 34) ?hr B ?_; (case hd => rfl); (case hg => rfl); (case hr => first | (go_simp; done) | (go_simp; rfl)); intro g8 w13 hb B F8 L8 E8; have N2_8 := ne1 E8 F2; have N3_8 := ne1 E8 F3; have N6_8 := ne1 E8 F6; replace F2 := bn F2 hb; replace F3 := bn F3 hb; replace F6 := bn F6 hb; replace RPs32 := rn RPs32 hb; replace RSs32 := rn RSs32 hb; replace RP12 := rn RP12 hb; replace RS12 := rn RS12 hb; clear c2_0 c2_1 c2_2 c2_3 c2_4 c2_5; obtain ⟨c2_0, c2_1, c2_2, c2_3, c2_4, c2_5⟩ := cs6 F2; clear c3_0 c3_1 c3_2 c3_3 c3_4 c3_5; obtain ⟨c3_0, c3_1, c3_2, c3_3, c3_4, c3_5⟩ := cs6 F3; clear c6_0 c6_1 c6_2 c6_3 c6_4 c6_5; obtain ⟨c6_0, c6_1, c6_2, c6_3, c6_4, c6_5⟩ := cs6 F6; obtain ⟨c8_0, c8_1, c8_2, c8_3, c8_4, c8_5⟩ := cs6 F8; clear hb E8)
      | ((with_reducible refine gate_store (t := 34) (p := 8) rfl ?_); obtain ⟨y0, y1, y2, y3, y4, y5⟩ := cs6 F8; have z0 := fz F8 0; have z1 := fz F8 1; have z2 := fz F8 2; have z3 := fz F8 3; have z4 := fz F8 4; have z5 := fz F8 5; refine sx (t := 34) (t' := 34) (p := 8) (v := ?vo14) ?hg ?ho ?hn 0 [.string a, .string b, .slice AP12 qs.length kP12, .slice AS12 us.length kS12, .bool t, .string c] [.string a, .string b, .slice AP12 qs.length kP12, .slice AS12 us.length kS12, .bool t, .string c] ?hr B F8 L8 rfl (Nat.le_of_ble_eq_true rfl) ?_; (case ho => rfl); (case hg => rfl); (case hn => rfl); (case hr => first | (go_simp; done) | (go_simp; rfl)); intro w14 hk B G; replace F2 := bk F2 hk N2_8.out; replace F3 := bk F3 hk N3_8.out; replace F6 := bk F6 hk N6_8.out; replace RPs32 := rk RPs32 F8 (by decide) hk; replace RSs32 := rk RSs32 F8 (by decide) hk; replace RP12 := rk RP12 F8 (by decide) hk; replace RS12 := rk RS12 F8 (by decide) hk; replace F8 := G; clear c2_0 c2_1 c2_2 c2_3 c2_4 c2_5; obtain ⟨c2_0, c2_1, c2_2, c2_3, c2_4, c2_5⟩ := cs6 F2; clear c3_0 c3_1 c3_2 c3_3 c3_4 c3_5; obtain ⟨c3_0, c3_1, c3_2, c3_3, c3_4, c3_5⟩ := cs6 F3; clear c6_0 c6_1 c6_2 c6_3 c6_4 c6_5; obtain ⟨c6_0, c6_1, c6_2, c6_3, c6_4, c6_5⟩ := cs6 F6; clear c8_0 c8_1 c8_2 c8_3 c8_4 c8_5; obtain ⟨c8_0, c8_1, c8_2, c8_3, c8_4, c8_5⟩ := cs6 F8; clear hk y0 z0 y1 z1 y2 z2 y3 z3 y4 z4 y5 z5)
      | (go_at_call 13; with_reducible refine c2r (laws_toState.M lo hi _ _ pt _ _ st u2 ct qt ut w14 (cb HRQ B) (cb HRU B) ⟨by omega, by omega⟩ HQT.out HUT.out) B fun AP15 kP15 AS15 kS15 w15 hb B RP15 QP15 RS15 QS15 => ?_; have DPs32_P15 := fr QP15 RPs32; have DSs32_P15 := fr QP15 RSs32; have DP12_P15 := fr QP15 RP12; have DS12_P15 := fr QP15 RS12; have DPs32_S15 := fr QS15 RPs32; have DSs32_S15 := fr QS15 RSs32; have DP12_S15 := fr QS15 RP12; have DS12_S15 := fr QS15 RS12; replace F2 := bn F2 hb; replace F3 := bn F3 hb; replace F6 := bn F6 hb; replace F8 := bn F8 hb; replace RPs32 := rn RPs32 hb; replace RSs32 := rn RSs32 hb; replace RP12 := rn RP12 hb; replace RS12 := rn RS12 hb; clear QP15 QS15; clear c2_0 c2_1 c2_2 c2_3 c2_4 c2_5; obtain ⟨c2_0, c2_1, c2_2, c2_3, c2_4, c2_5⟩ := cs6 F2; clear c3_0 c3_1 c3_2 c3_3 c3_4 c3_5; obtain ⟨c3_0, c3_1, c3_2, c3_3, c3_4, c3_5⟩ := cs6 F3; clear c6_0 c6_1 c6_2 c6_3 c6_4 c6_5; obtain ⟨c6_0, c6_1, c6_2, c6_3, c6_4, c6_5⟩ := cs6 F6; clear c8_0 c8_1 c8_2 c8_3 c8_4 c8_5; obtain ⟨c8_0, c8_1, c8_2, c8_3, c8_4, c8_5⟩ := cs6 F8; clear hb)
      | ((with_reducible refine gate_dst (N := 9) rfl ?_); refine bx ?hg (N := 9) ?hd (cs := #[.string (⟨#[]⟩ : ByteArray), .string (⟨#[]⟩ : ByteArray), .slice none 0 0, .slice none 0 0, .bool false, .string (⟨#[]⟩ : ByteArray)]) (t := 34) ?hr B ?_; (case hd => rfl); (case hg => rfl); (case hr => first | (go_simp; done) | (go_simp; rfl)); intro g9 w16 hb B F9 L9 E9; have N2_9 := ne1 E9 F2; have N3_9 := ne1 E9 F3; have N6_9 := ne1 E9 F6; have N8_9 := ne1 E9 F8; replace F2 := bn F2 hb; replace F3 := bn F3 hb; replace F6 := bn F6 hb; replace F8 := bn F8 hb; replace RPs32 := rn RPs32 hb; replace RSs32 := rn RSs32 hb; replace RP12 := rn RP12 hb; replace RS12 := rn RS12 hb; replace RP15 := rn RP15 hb; replace RS15 := rn RS15 hb; clear c2_0 c2_1 c2_2 c2_3 c2_4 c2_5; obtain ⟨c2_0, c2_1, c2_2, c2_3, c2_4, c2_5⟩ := cs6 F2; clear c3_0 c3_1 c3_2 c3_3 c3_4 c3_5; obtain ⟨c3_0, c3_1, c3_2, c3_3, c3_4, c3_5⟩ := cs6 F3; clear c6_0 c6_1 c6_2 c6_3 c6_4 c6_5; obtain ⟨c6_0, c6_1, c6_2, c6_3, c6_4, c6_5⟩ := cs6 F6; clear c8_0 c8_1 c8_2 c8_3 c8_4 c8_5; obtain ⟨c8_0, c8_1, c8_2, c8_3, c8_4, c8_5⟩ := cs6 F8; obtain ⟨c9_0, c9_1, c9_2, c9_3, c9_4, c9_5⟩ := cs6 F9; clear hb E9)
      | ((with_reducible refine gate_store (t := 34) (p := 9) rfl ?_); obtain ⟨y0, y1, y2, y3, y4, y5⟩ := cs6 F9; have z0 := fz F9 0; have z1 := fz F9 1; have z2 := fz F9 2; have z3 := fz F9 3; have z4 := fz F9 4; have z5 := fz F9 5; refine sx (t := 34) (t' := 34) (p := 9) (v := ?vo17) ?hg ?ho ?hn 0 [.string lo, .string hi, .slice AP15 qt.length kP15, .slice AS15 ut.length kS15, .bool u2, .string ct] [.string lo, .string hi, .slice AP15 qt.length kP15, .slice AS15 ut.length kS15, .bool u2, .string ct] ?hr B F9 L9 rfl (Nat.le_of_ble_eq_true rfl) ?_; (case ho => rfl); (case hg => rfl); (case hn => rfl); (case hr => first | (go_simp; done) | (go_simp; rfl)); intro w17 hk B G; replace F2 := bk F2 hk N2_9.out; replace F3 := bk F3 hk N3_9.out; replace F6 := bk F6 hk N6_9.out; replace F8 := bk F8 hk N8_9.out; replace RPs32 := rk RPs32 F9 (by decide) hk; replace RSs32 := rk RSs32 F9 (by decide) hk; replace RP12 := rk RP12 F9 (by decide) hk; replace RS12 := rk RS12 F9 (by decide) hk; replace RP15 := rk RP15 F9 (by decide) hk; replace RS15 := rk RS15 F9 (by decide) hk; replace F9 := G; clear c2_0 c2_1 c2_2 c2_3 c2_4 c2_5; obtain ⟨c2_0, c2_1, c2_2, c2_3, c2_4, c2_5⟩ := cs6 F2; clear c3_0 c3_1 c3_2 c3_3 c3_4 c3_5; obtain ⟨c3_0, c3_1, c3_2, c3_3, c3_4, c3_5⟩ := cs6 F3; clear c6_0 c6_1 c6_2 c6_3 c6_4 c6_5; obtain ⟨c6_0, c6_1, c6_2, c6_3, c6_4, c6_5⟩ := cs6 F6; clear c8_0 c8_1 c8_2 c8_3 c8_4 c8_5; obtain ⟨c8_0, c8_1, c8_2, c8_3, c8_4, c8_5⟩ := cs6 F8; clear c9_0 c9_1 c9_2 c9_3 c9_4 c9_5; obtain ⟨c9_0, c9_1, c9_2, c9_3, c9_4, c9_5⟩ := cs6 F9; clear hk y0 z0 y1 z1 y2 z2 y3 z3 y4 z4 y5 z5)
      | (go_at_call 40; with_reducible refine c2r (impl_StateJoin.Mr a b _ _ qs _ _ us t c lo hi _ _ qt _ _ ut u2 ct xa xb xp xs xt xc ok HM.out w17 (rc RP12) (rc RS12) (rc RP15) (rc RS15) (rl RP12) (rl RS12) (rl RP15) (rl RS15)) B fun AP18 kP18 AS18 kS18 w18 hb B RP18 QP18 RS18 QS18 => ?_; have DPs32_P18 := fr QP18 RPs32; have DSs32_P18 := fr QP18 RSs32; have DP12_P18 := fr QP18 RP12; have DS12_P18 := fr QP18 RS12; have DP15_P18 := fr QP18 RP15; have DS15_P18 := fr QP18 RS15; have DPs32_S18 := fr QS18 RPs32; have DSs32_S18 := fr QS18 RSs32; have DP12_S18 := fr QS18 RP12; have DS12_S18 := fr QS18 RS12; have DP15_S18 := fr QS18 RP15; have DS15_S18 := fr QS18 RS15; replace F2 := bn F2 hb; replace F3 := bn F3 hb; replace F6 := bn F6 hb; replace F8 := bn F8 hb; replace F9 := bn F9 hb; replace RPs32 := rn RPs32 hb; replace RSs32 := rn RSs32 hb; replace RP12 := rn RP12 hb; replace RS12 := rn RS12 hb; replace RP15 := rn RP15 hb; replace RS15 := rn RS15 hb; clear QP18 QS18; clear c2_0 c2_1 c2_2 c2_3 c2_4 c2_5; obtain ⟨c2_0, c2_1, c2_2, c2_3, c2_4, c2_5⟩ := cs6 F2; clear c3_0 c3_1 c3_2 c3_3 c3_4 c3_5; obtain ⟨c3_0, c3_1, c3_2, c3_3, c3_4, c3_5⟩ := cs6 F3; clear c6_0 c6_1 c6_2 c6_3 c6_4 c6_5; obtain ⟨c6_0, c6_1, c6_2, c6_3, c6_4, c6_5⟩ := cs6 F6; clear c8_0 c8_1 c8_2 c8_3 c8_4 c8_5; obtain ⟨c8_0, c8_1, c8_2, c8_3, c8_4, c8_5⟩ := cs6 F8; clear c9_0 c9_1 c9_2 c9_3 c9_4 c9_5; obtain ⟨c9_0, c9_1, c9_2, c9_3, c9_4, c9_5⟩ := cs6 F9; clear hb)
      | ((with_reducible refine gate_dst (N := 10) rfl ?_); refine bx ?hg (N := 10) ?hd (cs := #[.string (⟨#[]⟩ : ByteArray), .string (⟨#[]⟩ : ByteArray), .slice none 0 0, .slice none 0 0, .bool false, .string (⟨#[]⟩ : ByteArray)]) (t := 34) ?hr B ?_; (case hd => rfl); (case hg => rfl); (case hr => first | (go_simp; done) | (go_simp; rfl)); intro g10 w19 hb B F10 L10 E10; have N2_10 := ne1 E10 F2; have N3_10 := ne1 E10 F3; have N6_10 := ne1 E10 F6; have N8_10 := ne1 E10 F8; have N9_10 := ne1 E10 F9; replace F2 := bn F2 hb; replace F3 := bn F3 hb; replace F6 := bn F6 hb; replace F8 := bn F8 hb; replace F9 := bn F9 hb; replace RPs32 := rn RPs32 hb; replace RSs32 := rn RSs32 hb; replace RP12 := rn RP12 hb; replace RS12 := rn RS12 hb; replace RP15 := rn RP15 hb; replace RS15 := rn RS15 hb; replace RP18 := rn RP18 hb; replace RS18 := rn RS18 hb; clear c2_0 c2_1 c2_2 c2_3 c2_4 c2_5; obtain ⟨c2_0, c2_1, c2_2, c2_3, c2_4, c2_5⟩ := cs6 F2; clear c3_0 c3_1 c3_2 c3_3 c3_4 c3_5; obtain ⟨c3_0, c3_1, c3_2, c3_3, c3_4, c3_5⟩ := cs6 F3; clear c6_0 c6_1 c6_2 c6_3 c6_4 c6_5; obtain ⟨c6_0, c6_1, c6_2, c6_3, c6_4, c6_5⟩ := cs6 F6; clear c8_0 c8_1 c8_2 c8_3 c8_4 c8_5; obtain ⟨c8_0, c8_1, c8_2, c8_3, c8_4, c8_5⟩ := cs6 F8; clear c9_0 c9_1 c9_2 c9_3 c9_4 c9_5; obtain ⟨c9_0, c9_1, c9_2, c9_3, c9_4, c9_5⟩ := cs6 F9; obtain ⟨c10_0, c10_1, c10_2, c10_3, c10_4, c10_5⟩ := cs6 F10; clear hb E10)
      | ((with_reducible refine gate_store (t := 34) (p := 10) rfl ?_); obtain ⟨y0, y1, y2, y3, y4, y5⟩ := cs6 F10; have z0 := fz F10 0; have z1 := fz F10 1; have z2 := fz F10 2; have z3 := fz F10 3; have z4 := fz F10 4; have z5 := fz F10 5; refine sx (t := 34) (t' := 34) (p := 10) (v := ?vo20) ?hg ?ho ?hn 0 [.string xa, .string xb, .slice AP18 xp.length kP18, .slice AS18 xs.length kS18, .bool xt, .string xc] [.string xa, .string xb, .slice AP18 xp.length kP18, .slice AS18 xs.length kS18, .bool xt, .string xc] ?hr B F10 L10 rfl (Nat.le_of_ble_eq_true rfl) ?_; (case ho => rfl); (case hg => rfl); (case hn => rfl); (case hr => first | (go_simp; done) | (go_simp; rfl)); intro w20 hk B G; replace F2 := bk F2 hk N2_10.out; replace F3 := bk F3 hk N3_10.out; replace F6 := bk F6 hk N6_10.out; replace F8 := bk F8 hk N8_10.out; replace F9 := bk F9 hk N9_10.out; replace RPs32 := rk RPs32 F10 (by decide) hk; replace RSs32 := rk RSs32 F10 (by decide) hk; replace RP12 := rk RP12 F10 (by decide) hk; replace RS12 := rk RS12 F10 (by decide) hk; replace RP15 := rk RP15 F10 (by decide) hk; replace RS15 := rk RS15 F10 (by decide) hk; replace RP18 := rk RP18 F10 (by decide) hk; replace RS18 := rk RS18 F10 (by decide) hk; replace F10 := G; clear c2_0 c2_1 c2_2 c2_3 c2_4 c2_5; obtain ⟨c2_0, c2_1, c2_2, c2_3, c2_4, c2_5⟩ := cs6 F2; clear c3_0 c3_1 c3_2 c3_3 c3_4 c3_5; obtain ⟨c3_0, c3_1, c3_2, c3_3, c3_4, c3_5⟩ := cs6 F3; clear c6_0 c6_1 c6_2 c6_3 c6_4 c6_5; obtain ⟨c6_0, c6_1, c6_2, c6_3, c6_4, c6_5⟩ := cs6 F6; clear c8_0 c8_1 c8_2 c8_3 c8_4 c8_5; obtain ⟨c8_0, c8_1, c8_2, c8_3, c8_4, c8_5⟩ := cs6 F8; clear c9_0 c9_1 c9_2 c9_3 c9_4 c9_5; obtain ⟨c9_0, c9_1, c9_2, c9_3, c9_4, c9_5⟩ := cs6 F9; clear c10_0 c10_1 c10_2 c10_3 c10_4 c10_5; obtain ⟨c10_0, c10_1, c10_2, c10_3, c10_4, c10_5⟩ := cs6 F10; clear hk y0 z0 y1 z1 y2 z2 y3 z3 y4 z4 y5 z5)
      | (go_at_call 15; with_reducible refine cl (laws_eqState.M xa xb _ _ _ _ xp _ _ _ _ xs xt xc w20 (rc RP18) (rc RPs32) (rc RS18) (rc RSs32)) B fun w21 hb B => ?_; replace F2 := bn F2 hb; replace F3 := bn F3 hb; replace F6 := bn F6 hb; replace F8 := bn F8 hb; replace F9 := bn F9 hb; replace F10 := bn F10 hb; replace RPs32 := rn RPs32 hb; replace RSs32 := rn RSs32 hb; replace RP12 := rn RP12 hb; replace RS12 := rn RS12 hb; replace RP15 := rn RP15 hb; replace RS15 := rn RS15 hb; replace RP18 := rn RP18 hb; replace RS18 := rn RS18 hb; clear c2_0 c2_1 c2_2 c2_3 c2_4 c2_5; obtain ⟨c2_0, c2_1, c2_2, c2_3, c2_4, c2_5⟩ := cs6 F2; clear c3_0 c3_1 c3_2 c3_3 c3_4 c3_5; obtain ⟨c3_0, c3_1, c3_2, c3_3, c3_4, c3_5⟩ := cs6 F3; clear c6_0 c6_1 c6_2 c6_3 c6_4 c6_5; obtain ⟨c6_0, c6_1, c6_2, c6_3, c6_4, c6_5⟩ := cs6 F6; clear c8_0 c8_1 c8_2 c8_3 c8_4 c8_5; obtain ⟨c8_0, c8_1, c8_2, c8_3, c8_4, c8_5⟩ := cs6 F8; clear c9_0 c9_1 c9_2 c9_3 c9_4 c9_5; obtain ⟨c9_0, c9_1, c9_2, c9_3, c9_4, c9_5⟩ := cs6 F9; clear c10_0 c10_1 c10_2 c10_3 c10_4 c10_5; obtain ⟨c10_0, c10_1, c10_2, c10_3, c10_4, c10_5⟩ := cs6 F10; clear hb))
    all_goals try (go_ret; exact ⟨rfl, B.out⟩)
    all_goals (
      refine rg (n := 5) (S := fun W => W.heap[g8]? = some (.cells #[.string a, .string b, .slice AP12 qs.length kP12, .slice AS12 us.length kS12, .bool t, .string c] 34 (0, 0)) ∧ W.heap[g2]? = some (.cells #[.string a, .string b, .slice AP ps.length cP, .slice AS ss.length cS, .bool t, .string c] 27 (0, 0))) (ds := []) #[false, false, false, false, false] (by kernel_rfl) rfl rfl ⟨F8.out, F2.out⟩ id B (fun w22 hb B hHeld => ?_)
      refine with_tabW laws_FnExactStateJoin.tab14 laws_FnExactStateJoin.bits14 (fun HT_ HW_ => ?_)
      replace F2 := bn F2 hb
      replace F3 := bn F3 hb
      replace F6 := bn F6 hb
      replace F8 := bn F8 hb
      replace F9 := bn F9 hb
      replace F10 := bn F10 hb
      replace RPs32 := rn RPs32 hb
      replace RSs32 := rn RSs32 hb
      replace RP12 := rn RP12 hb
      replace RS12 := rn RS12 hb
      replace RP15 := rn RP15 hb
      replace RS15 := rn RS15 hb
      replace RP18 := rn RP18 hb
      replace RS18 := rn RS18 hb
      clear hb
      refine ta (i := 0) (N := some 54) (v := ?_) (bits 5 1) rfl rfl (take_ofW HT_.out HW_.out (by kernel_rfl)) (fun _ _ _ h => h) (by kernel_rfl) hHeld ?_ ?_; rotate_left; (intro w' hS; obtain ⟨s0, s1⟩ := hS; obtain ⟨q0, q1, q2, q3, q4, q5⟩ := cs6 (Aside0.mk s0); go_simp; with_reducible rfl)
      refine ta (i := 1) (N := some 55) (v := ?_) (bits 5 3) rfl rfl (take_ofW HT_.out HW_.out (by kernel_rfl)) (fun _ _ _ h => h) (by kernel_rfl) hHeld ?_ ?_; rotate_left; (intro w' hS; obtain ⟨s0, s1⟩ := hS; obtain ⟨q0, q1, q2, q3, q4, q5⟩ := cs6 (Aside0.mk s1); go_simp; with_reducible rfl)
      refine norm_ (a' := ?_) ?_ ?_
      rotate_left
      · simp only [Act.put, List.setIfInBounds_toArray, List.set_cons_zero, List.set_cons_succ, i64_w, i32_w]
        rfl
      refine one_ (i := 2) (N := some 56) (bits 5 7) rfl rfl (one_of HT_.out (by kernel_rfl)) (by decide) (fun K hK => ?_)
      refine goes_ Try.func13 (by kernel_rfl) rfl #[.agg #[.string a, .string b, .slice AP ps.length cP, .slice AS ss.length cS, .bool t, .string c]] (by rfl) rfl rfl (by (try simp only [List.map_toArray, List.map_cons, List.map_nil]); rfl) ?_
      with_reducible refine c2r (laws_toState.M a b _ _ ps _ _ ss t c qs us w22 (cb HRP B) (cb HRS B) ⟨by omega, by omega⟩ HQS.out HUS.out) B fun AP23 kP23 AS23 kS23 w23 hb B RP23 QP23 RS23 QS23 => ?_
      have DPs32_P23 := fr QP23 RPs32
      have DSs32_P23 := fr QP23 RSs32
      have DP12_P23 := fr QP23 RP12
      have DS12_P23 := fr QP23 RS12
      have DP15_P23 := fr QP23 RP15
      have DS15_P23 := fr QP23 RS15
      have DP18_P23 := fr QP23 RP18
      have DS18_P23 := fr QP23 RS18
      have DPs32_S23 := fr QS23 RPs32
      have DSs32_S23 := fr QS23 RSs32
      have DP12_S23 := fr QS23 RP12
      have DS12_S23 := fr QS23 RS12
      have DP15_S23 := fr QS23 RP15
      have DS15_S23 := fr QS23 RS15
      have DP18_S23 := fr QS23 RP18
      have DS18_S23 := fr QS23 RS18
      replace F2 := bn F2 hb
      replace F3 := bn F3 hb
      replace F6 := bn F6 hb
      replace F8 := bn F8 hb
      replace F9 := bn F9 hb
      replace F10 := bn F10 hb
      replace RPs32 := rn RPs32 hb
      replace RSs32 := rn RSs32 hb
      replace RP12 := rn RP12 hb
      replace RS12 := rn RS12 hb
      replace RP15 := rn RP15 hb
      replace RS15 := rn RS15 hb
      replace RP18 := rn RP18 hb
      replace RS18 := rn RS18 hb
      clear hb
      refine ⟨_, rfl, ?_⟩
      refine hK.out _ _ ⟨F8.out, F2.out⟩ (fun hHeld => ?_)
      clear hK K
      refine norm_ (a' := ?_) ?_ ?_
      rotate_left
      · show Act.put _ (some 56) _ = _
        simp only [Act.put, List.setIfInBounds_toArray, List.set_cons_zero, List.set_cons_succ, i64_w, i32_w]
        rfl
      clear QP23 QS23
      refine one_ (i := 3) (N := some 57) (bits 5 15) rfl rfl (one_of HT_.out (by kernel_rfl)) (by decide) (fun K hK => ?_)
      refine goes_ Try.func15 (by kernel_rfl) rfl #[.agg #[.string a, .string b, .slice AP12 qs.length kP12, .slice AS12 us.length kS12, .bool t, .string c], .agg #[.string a, .string b, .slice AP23 qs.length kP23, .slice AS23 us.length kS23, .bool t, .string c]] (by rfl) rfl rfl (by (try simp only [List.map_toArray, List.map_cons, List.map_nil]); rfl) ?_
      with_reducible refine cl (laws_eqState.M a b _ _ _ _ qs _ _ _ _ us t c w23 (rc RP12) (rc RP23) (rc RS12) (rc RS23)) B fun w24 hb B => ?_
      replace F2 := bn F2 hb
      replace F3 := bn F3 hb
      replace F6 := bn F6 hb
      replace F8 := bn F8 hb
      replace F9 := bn F9 hb
      replace F10 := bn F10 hb
      replace RPs32 := rn RPs32 hb
      replace RSs32 := rn RSs32 hb
      replace RP12 := rn RP12 hb
      replace RS12 := rn RS12 hb
      replace RP15 := rn RP15 hb
      replace RS15 := rn RS15 hb
      replace RP18 := rn RP18 hb
      replace RS18 := rn RS18 hb
      clear hb
      refine ⟨_, rfl, ?_⟩
      refine hK.out _ _ ⟨F8.out, F2.out⟩ (fun hHeld => ?_)
      clear hK K
      refine norm_ (a' := ?_) ?_ ?_
      rotate_left
      · show Act.put _ (some 57) _ = _
        simp only [Act.put, List.setIfInBounds_toArray, List.set_cons_zero, List.set_cons_succ, i64_w, i32_w]
        rfl
      refine pu (i := 4) (N := some 58) (v := ?_) (bits 5 31) rfl rfl (any_of HT_.out (by kernel_rfl)) (fun _ _ _ h => h) (by kernel_rfl) ?_ ?_; rotate_left; (intro w'; go_simp; with_reducible rfl)
      refine norm_ (a' := ?_) ?_ ?_
      rotate_left
      · simp only [Act.put, List.setIfInBounds_toArray, List.set_cons_zero, List.set_cons_succ, i64_w, i32_w]
        rfl
      refine done_ (done_of HT_.out (by kernel_rfl)) ?_
      clear c2_0 c2_1 c2_2 c2_3 c2_4 c2_5
      obtain ⟨c2_0, c2_1, c2_2, c2_3, c2_4, c2_5⟩ := cs6 F2
      clear c3_0 c3_1 c3_2 c3_3 c3_4 c3_5
      obtain ⟨c3_0, c3_1, c3_2, c3_3, c3_4, c3_5⟩ := cs6 F3
      clear c6_0 c6_1 c6_2 c6_3 c6_4 c6_5
      obtain ⟨c6_0, c6_1, c6_2, c6_3, c6_4, c6_5⟩ := cs6 F6
      clear c8_0 c8_1 c8_2 c8_3 c8_4 c8_5
      obtain ⟨c8_0, c8_1, c8_2, c8_3, c8_4, c8_5⟩ := cs6 F8
      clear c9_0 c9_1 c9_2 c9_3 c9_4 c9_5
      obtain ⟨c9_0, c9_1, c9_2, c9_3, c9_4, c9_5⟩ := cs6 F9
      clear c10_0 c10_1 c10_2 c10_3 c10_4 c10_5
      obtain ⟨c10_0, c10_1, c10_2, c10_3, c10_4, c10_5⟩ := cs6 F10)
    all_goals try go_wp2
    all_goals try (go_ret; exact ⟨rfl, B.out⟩)
    all_goals (
      refine rg (n := 5) (S := fun W => W.heap[g9]? = some (.cells #[.string lo, .string hi, .slice AP15 qt.length kP15, .slice AS15 ut.length kS15, .bool u2, .string ct] 34 (0, 0)) ∧ W.heap[g3]? = some (.cells #[.string lo, .string hi, .slice AQ pt.length cQ, .slice AU st.length cU, .bool u2, .string ct] 27 (0, 0))) (ds := []) #[false, false, false, false, false] (by kernel_rfl) rfl rfl ⟨F9.out, F3.out⟩ id B (fun w25 hb B hHeld => ?_)
      refine with_tabW laws_FnExactStateJoin.tab16 laws_FnExactStateJoin.bits16 (fun HT_ HW_ => ?_)
      replace F2 := bn F2 hb
      replace F3 := bn F3 hb
      replace F6 := bn F6 hb
      replace F8 := bn F8 hb
      replace F9 := bn F9 hb
      replace F10 := bn F10 hb
      replace RPs32 := rn RPs32 hb
      replace RSs32 := rn RSs32 hb
      replace RP12 := rn RP12 hb
      replace RS12 := rn RS12 hb
      replace RP15 := rn RP15 hb
      replace RS15 := rn RS15 hb
      replace RP18 := rn RP18 hb
      replace RS18 := rn RS18 hb
      clear hb
      refine ta (i := 0) (N := some 59) (v := ?_) (bits 5 1) rfl rfl (take_ofW HT_.out HW_.out (by kernel_rfl)) (fun _ _ _ h => h) (by kernel_rfl) hHeld ?_ ?_; rotate_left; (intro w' hS; obtain ⟨s0, s1⟩ := hS; obtain ⟨q0, q1, q2, q3, q4, q5⟩ := cs6 (Aside0.mk s0); go_simp; with_reducible rfl)
      refine ta (i := 1) (N := some 60) (v := ?_) (bits 5 3) rfl rfl (take_ofW HT_.out HW_.out (by kernel_rfl)) (fun _ _ _ h => h) (by kernel_rfl) hHeld ?_ ?_; rotate_left; (intro w' hS; obtain ⟨s0, s1⟩ := hS; obtain ⟨q0, q1, q2, q3, q4, q5⟩ := cs6 (Aside0.mk s1); go_simp; with_reducible rfl)
      refine norm_ (a' := ?_) ?_ ?_
      rotate_left
      · simp only [Act.put, List.setIfInBounds_toArray, List.set_cons_zero, List.set_cons_succ, i64_w, i32_w]
        rfl
      refine one_ (i := 2) (N := some 61) (bits 5 7) rfl rfl (one_of HT_.out (by kernel_rfl)) (by decide) (fun K hK => ?_)
      refine goes_ Try.func13 (by kernel_rfl) rfl #[.agg #[.string lo, .string hi, .slice AQ pt.length cQ, .slice AU st.length cU, .bool u2, .string ct]] (by rfl) rfl rfl (by (try simp only [List.map_toArray, List.map_cons, List.map_nil]); rfl) ?_
      with_reducible refine c2r (laws_toState.M lo hi _ _ pt _ _ st u2 ct qt ut w25 (cb HRQ B) (cb HRU B) ⟨by omega, by omega⟩ HQT.out HUT.out) B fun AP26 kP26 AS26 kS26 w26 hb B RP26 QP26 RS26 QS26 => ?_
      have DPs32_P26 := fr QP26 RPs32
      have DSs32_P26 := fr QP26 RSs32
      have DP12_P26 := fr QP26 RP12
      have DS12_P26 := fr QP26 RS12
      have DP15_P26 := fr QP26 RP15
      have DS15_P26 := fr QP26 RS15
      have DP18_P26 := fr QP26 RP18
      have DS18_P26 := fr QP26 RS18
      have DPs32_S26 := fr QS26 RPs32
      have DSs32_S26 := fr QS26 RSs32
      have DP12_S26 := fr QS26 RP12
      have DS12_S26 := fr QS26 RS12
      have DP15_S26 := fr QS26 RP15
      have DS15_S26 := fr QS26 RS15
      have DP18_S26 := fr QS26 RP18
      have DS18_S26 := fr QS26 RS18
      replace F2 := bn F2 hb
      replace F3 := bn F3 hb
      replace F6 := bn F6 hb
      replace F8 := bn F8 hb
      replace F9 := bn F9 hb
      replace F10 := bn F10 hb
      replace RPs32 := rn RPs32 hb
      replace RSs32 := rn RSs32 hb
      replace RP12 := rn RP12 hb
      replace RS12 := rn RS12 hb
      replace RP15 := rn RP15 hb
      replace RS15 := rn RS15 hb
      replace RP18 := rn RP18 hb
      replace RS18 := rn RS18 hb
      clear hb
      refine ⟨_, rfl, ?_⟩
      refine hK.out _ _ ⟨F9.out, F3.out⟩ (fun hHeld => ?_)
      clear hK K
      refine norm_ (a' := ?_) ?_ ?_
      rotate_left
      · show Act.put _ (some 61) _ = _
        simp only [Act.put, List.setIfInBounds_toArray, List.set_cons_zero, List.set_cons_succ, i64_w, i32_w]
        rfl
      clear QP26 QS26
      refine one_ (i := 3) (N := some 62) (bits 5 15) rfl rfl (one_of HT_.out (by kernel_rfl)) (by decide) (fun K hK => ?_)
      refine goes_ Try.func15 (by kernel_rfl) rfl #[.agg #[.string lo, .string hi, .slice AP15 qt.length kP15, .slice AS15 ut.length kS15, .bool u2, .string ct], .agg #[.string lo, .string hi, .slice AP26 qt.length kP26, .slice AS26 ut.length kS26, .bool u2, .string ct]] (by rfl) rfl rfl (by (try simp only [List.map_toArray, List.map_cons, List.map_nil]); rfl) ?_
      with_reducible refine cl (laws_eqState.M lo hi _ _ _ _ qt _ _ _ _ ut u2 ct w26 (rc RP15) (rc RP26) (rc RS15) (rc RS26)) B fun w27 hb B => ?_
      replace F2 := bn F2 hb
      replace F3 := bn F3 hb
      replace F6 := bn F6 hb
      replace F8 := bn F8 hb
      replace F9 := bn F9 hb
      replace F10 := bn F10 hb
      replace RPs32 := rn RPs32 hb
      replace RSs32 := rn RSs32 hb
      replace RP12 := rn RP12 hb
      replace RS12 := rn RS12 hb
      replace RP15 := rn RP15 hb
      replace RS15 := rn RS15 hb
      replace RP18 := rn RP18 hb
      replace RS18 := rn RS18 hb
      clear hb
      refine ⟨_, rfl, ?_⟩
      refine hK.out _ _ ⟨F9.out, F3.out⟩ (fun hHeld => ?_)
      clear hK K
      refine norm_ (a' := ?_) ?_ ?_
      rotate_left
      · show Act.put _ (some 62) _ = _
        simp only [Act.put, List.setIfInBounds_toArray, List.set_cons_zero, List.set_cons_succ, i64_w, i32_w]
        rfl
      refine pu (i := 4) (N := some 63) (v := ?_) (bits 5 31) rfl rfl (any_of HT_.out (by kernel_rfl)) (fun _ _ _ h => h) (by kernel_rfl) ?_ ?_; rotate_left; (intro w'; go_simp; with_reducible rfl)
      refine norm_ (a' := ?_) ?_ ?_
      rotate_left
      · simp only [Act.put, List.setIfInBounds_toArray, List.set_cons_zero, List.set_cons_succ, i64_w, i32_w]
        rfl
      refine done_ (done_of HT_.out (by kernel_rfl)) ?_
      clear c2_0 c2_1 c2_2 c2_3 c2_4 c2_5
      obtain ⟨c2_0, c2_1, c2_2, c2_3, c2_4, c2_5⟩ := cs6 F2
      clear c3_0 c3_1 c3_2 c3_3 c3_4 c3_5
      obtain ⟨c3_0, c3_1, c3_2, c3_3, c3_4, c3_5⟩ := cs6 F3
      clear c6_0 c6_1 c6_2 c6_3 c6_4 c6_5
      obtain ⟨c6_0, c6_1, c6_2, c6_3, c6_4, c6_5⟩ := cs6 F6
      clear c8_0 c8_1 c8_2 c8_3 c8_4 c8_5
      obtain ⟨c8_0, c8_1, c8_2, c8_3, c8_4, c8_5⟩ := cs6 F8
      clear c9_0 c9_1 c9_2 c9_3 c9_4 c9_5
      obtain ⟨c9_0, c9_1, c9_2, c9_3, c9_4, c9_5⟩ := cs6 F9
      clear c10_0 c10_1 c10_2 c10_3 c10_4 c10_5
      obtain ⟨c10_0, c10_1, c10_2, c10_3, c10_4, c10_5⟩ := cs6 F10)
    all_goals go_wp2_with (first
      | (go_at_call 32; with_reducible refine cm2 (laws_markState.M a b _ _ qs _ _ us t c 1 w w27 B RP12 RS12 (by assumption) (by assumption) (by assumption) (by assumption)) fun w28 hk B RX RY => ?_; replace F2 := bkp2 F2 hk RP12 RS12 (by decide) (by decide); replace F3 := bkp2 F3 hk RP12 RS12 (by decide) (by decide); replace F6 := bkp2 F6 hk RP12 RS12 (by decide) (by decide); replace F9 := bkp2 F9 hk RP12 RS12 (by decide) (by decide); replace F10 := bkp2 F10 hk RP12 RS12 (by decide) (by decide); replace RPs32 := rkp2 RPs32 rfl hk (fun k p q => DPs32_P12.out k q p) (dty RS12 RPs32 (by decide)); replace RSs32 := rkp2 RSs32 rfl hk (dty RP12 RSs32 (by decide)) (fun k p q => DSs32_S12.out k q p); replace RP15 := rkp2 RP15 rfl hk DP12_P15.out (dty RS12 RP15 (by decide)); replace RS15 := rkp2 RS15 rfl hk (dty RP12 RS15 (by decide)) DS12_S15.out; replace RP18 := rkp2 RP18 rfl hk DP12_P18.out (dty RS12 RP18 (by decide)); replace RS18 := rkp2 RS18 rfl hk (dty RP12 RS18 (by decide)) DS12_S18.out; clear RX; clear RY; clear hk; clear c2_0 c2_1 c2_2 c2_3 c2_4 c2_5; obtain ⟨c2_0, c2_1, c2_2, c2_3, c2_4, c2_5⟩ := cs6 F2; clear c3_0 c3_1 c3_2 c3_3 c3_4 c3_5; obtain ⟨c3_0, c3_1, c3_2, c3_3, c3_4, c3_5⟩ := cs6 F3; clear c6_0 c6_1 c6_2 c6_3 c6_4 c6_5; obtain ⟨c6_0, c6_1, c6_2, c6_3, c6_4, c6_5⟩ := cs6 F6; clear c9_0 c9_1 c9_2 c9_3 c9_4 c9_5; obtain ⟨c9_0, c9_1, c9_2, c9_3, c9_4, c9_5⟩ := cs6 F9; clear c10_0 c10_1 c10_2 c10_3 c10_4 c10_5; obtain ⟨c10_0, c10_1, c10_2, c10_3, c10_4, c10_5⟩ := cs6 F10; skip)
      | (go_at_call 32; with_reducible refine cm2 (laws_markState.M lo hi _ _ qt _ _ ut u2 ct (1 + 2 * (qs.length : Int) + 3 * (us.length : Int)) w w28 B RP15 RS15 (by assumption) (by assumption) (by assumption) (by assumption)) fun w29 hk B RX RY => ?_; replace F2 := bkp2 F2 hk RP15 RS15 (by decide) (by decide); replace F3 := bkp2 F3 hk RP15 RS15 (by decide) (by decide); replace F6 := bkp2 F6 hk RP15 RS15 (by decide) (by decide); replace F9 := bkp2 F9 hk RP15 RS15 (by decide) (by decide); replace F10 := bkp2 F10 hk RP15 RS15 (by decide) (by decide); replace RPs32 := rkp2 RPs32 rfl hk (fun k p q => DPs32_P15.out k q p) (dty RS15 RPs32 (by decide)); replace RSs32 := rkp2 RSs32 rfl hk (dty RP15 RSs32 (by decide)) (fun k p q => DSs32_S15.out k q p); replace RP18 := rkp2 RP18 rfl hk DP15_P18.out (dty RS15 RP18 (by decide)); replace RS18 := rkp2 RS18 rfl hk (dty RP15 RS18 (by decide)) DS15_S18.out; replace RP15 := RX; replace RS15 := RY; clear hk; clear c2_0 c2_1 c2_2 c2_3 c2_4 c2_5; obtain ⟨c2_0, c2_1, c2_2, c2_3, c2_4, c2_5⟩ := cs6 F2; clear c3_0 c3_1 c3_2 c3_3 c3_4 c3_5; obtain ⟨c3_0, c3_1, c3_2, c3_3, c3_4, c3_5⟩ := cs6 F3; clear c6_0 c6_1 c6_2 c6_3 c6_4 c6_5; obtain ⟨c6_0, c6_1, c6_2, c6_3, c6_4, c6_5⟩ := cs6 F6; clear c10_0 c10_1 c10_2 c10_3 c10_4 c10_5; obtain ⟨c10_0, c10_1, c10_2, c10_3, c10_4, c10_5⟩ := cs6 F10; skip)
      | (go_at_call 15; with_reducible refine cl (laws_eqState.M xa xb _ _ _ _ xp _ _ _ _ xs xt xc w29 (rc RP18) (rc RPs32) (rc RS18) (rc RSs32)) B fun w30 hb B => ?_; replace F2 := bn F2 hb; replace F3 := bn F3 hb; replace F6 := bn F6 hb; replace F9 := bn F9 hb; replace F10 := bn F10 hb; replace RPs32 := rn RPs32 hb; replace RSs32 := rn RSs32 hb; replace RP15 := rn RP15 hb; replace RS15 := rn RS15 hb; replace RP18 := rn RP18 hb; replace RS18 := rn RS18 hb; clear c2_0 c2_1 c2_2 c2_3 c2_4 c2_5; obtain ⟨c2_0, c2_1, c2_2, c2_3, c2_4, c2_5⟩ := cs6 F2; clear c3_0 c3_1 c3_2 c3_3 c3_4 c3_5; obtain ⟨c3_0, c3_1, c3_2, c3_3, c3_4, c3_5⟩ := cs6 F3; clear c6_0 c6_1 c6_2 c6_3 c6_4 c6_5; obtain ⟨c6_0, c6_1, c6_2, c6_3, c6_4, c6_5⟩ := cs6 F6; clear c10_0 c10_1 c10_2 c10_3 c10_4 c10_5; obtain ⟨c10_0, c10_1, c10_2, c10_3, c10_4, c10_5⟩ := cs6 F10; clear hb)
      | (go_at_call 32; with_reducible refine cm2 (laws_markState.M xa xb _ _ xp _ _ xs xt xc 1 w w30 B RP18 RS18 (by assumption) (by assumption) (by assumption) (by assumption)) fun w31 hk B RX RY => ?_; replace F2 := bkp2 F2 hk RP18 RS18 (by decide) (by decide); replace F3 := bkp2 F3 hk RP18 RS18 (by decide) (by decide); replace F6 := bkp2 F6 hk RP18 RS18 (by decide) (by decide); replace F9 := bkp2 F9 hk RP18 RS18 (by decide) (by decide); replace F10 := bkp2 F10 hk RP18 RS18 (by decide) (by decide); replace RPs32 := rkp2 RPs32 rfl hk (fun k p q => DPs32_P18.out k q p) (dty RS18 RPs32 (by decide)); replace RSs32 := rkp2 RSs32 rfl hk (dty RP18 RSs32 (by decide)) (fun k p q => DSs32_S18.out k q p); replace RP15 := rkp2 RP15 rfl hk (fun k p q => DP15_P18.out k q p) (dty RS18 RP15 (by decide)); replace RS15 := rkp2 RS15 rfl hk (dty RP18 RS15 (by decide)) (fun k p q => DS15_S18.out k q p); replace RP18 := RX; replace RS18 := RY; clear hk; clear c2_0 c2_1 c2_2 c2_3 c2_4 c2_5; obtain ⟨c2_0, c2_1, c2_2, c2_3, c2_4, c2_5⟩ := cs6 F2; clear c3_0 c3_1 c3_2 c3_3 c3_4 c3_5; obtain ⟨c3_0, c3_1, c3_2, c3_3, c3_4, c3_5⟩ := cs6 F3; clear c6_0 c6_1 c6_2 c6_3 c6_4 c6_5; obtain ⟨c6_0, c6_1, c6_2, c6_3, c6_4, c6_5⟩ := cs6 F6; clear c10_0 c10_1 c10_2 c10_3 c10_4 c10_5; obtain ⟨c10_0, c10_1, c10_2, c10_3, c10_4, c10_5⟩ := cs6 F10; skip)
      | (go_at_call 33; with_reducible refine cl (laws_heldState.M xa xb _ _ xp _ _ xs xt xc 1 w31 (rc RP18) (rl2 RP18) (rc RS18) (rl2 RS18) (by assumption) (by assumption) (by assumption) (by assumption)) B fun w32 hb B => ?_; replace F2 := bn F2 hb; replace F3 := bn F3 hb; replace F6 := bn F6 hb; replace F9 := bn F9 hb; replace F10 := bn F10 hb; replace RPs32 := rn RPs32 hb; replace RSs32 := rn RSs32 hb; replace RP15 := rn RP15 hb; replace RS15 := rn RS15 hb; replace RP18 := rn RP18 hb; replace RS18 := rn RS18 hb; clear c2_0 c2_1 c2_2 c2_3 c2_4 c2_5; obtain ⟨c2_0, c2_1, c2_2, c2_3, c2_4, c2_5⟩ := cs6 F2; clear c3_0 c3_1 c3_2 c3_3 c3_4 c3_5; obtain ⟨c3_0, c3_1, c3_2, c3_3, c3_4, c3_5⟩ := cs6 F3; clear c6_0 c6_1 c6_2 c6_3 c6_4 c6_5; obtain ⟨c6_0, c6_1, c6_2, c6_3, c6_4, c6_5⟩ := cs6 F6; clear c10_0 c10_1 c10_2 c10_3 c10_4 c10_5; obtain ⟨c10_0, c10_1, c10_2, c10_3, c10_4, c10_5⟩ := cs6 F10; clear hb))
    all_goals try (go_ret; exact ⟨rfl, B.out⟩)
    all_goals (
      refine rg (n := 11) (S := fun W => W.heap[g2]? = some (.cells #[.string a, .string b, .slice AP ps.length cP, .slice AS ss.length cS, .bool t, .string c] 27 (0, 0)) ∧ W.heap[g3]? = some (.cells #[.string lo, .string hi, .slice AQ pt.length cQ, .slice AU st.length cU, .bool u2, .string ct] 27 (0, 0))) (ds := []) #[false, false, false, false, false, false, false, false, false, false, false] (by kernel_rfl) rfl rfl ⟨F2.out, F3.out⟩ id B (fun w33 hb B hHeld => ?_)
      refine with_tabW laws_FnExactStateJoin.tab31 laws_FnExactStateJoin.bits31 (fun HT_ HW_ => ?_)
      replace F2 := bn F2 hb
      replace F3 := bn F3 hb
      replace F6 := bn F6 hb
      replace F10 := bn F10 hb
      replace RPs32 := rn RPs32 hb
      replace RSs32 := rn RSs32 hb
      replace RP18 := rn RP18 hb
      replace RS18 := rn RS18 hb
      clear hb
      refine join_ 0 (bits 11 2047) (σ := Option Addr × Nat × Option Addr × Nat × Option Addr × Nat × Option Addr × Nat × Option Addr × Nat × Option Addr × Nat × Nat) (fun (APs96, kPs96, ASs96, kSs96, APs98, kPs98, ASs98, kSs98, APs99, kPs99, ASs99, kSs99, g15) => [(95, .agg #[.string a, .string b, .slice AP ps.length cP, .slice AS ss.length cS, .bool t, .string c]), (96, .agg #[.string a, .string b, .slice APs96 qs.length kPs96, .slice ASs96 us.length kSs96, .bool t, .string c]), (97, .agg #[.string lo, .string hi, .slice AQ pt.length cQ, .slice AU st.length cU, .bool u2, .string ct]), (98, .agg #[.string lo, .string hi, .slice APs98 qt.length kPs98, .slice ASs98 ut.length kSs98, .bool u2, .string ct]), (99, .tuple #[.agg #[.string xa, .string xb, .slice APs99 xp.length kPs99, .slice ASs99 xs.length kSs99, .bool xt, .string xc], .bool ok]), (94, .tuple #[.agg #[.string xa, .string xb, .slice APs99 xp.length kPs99, .slice ASs99 xs.length kSs99, .bool xt, .string xc], .bool ok]), (100, .agg #[.string xa, .string xb, .slice APs99 xp.length kPs99, .slice ASs99 xs.length kSs99, .bool xt, .string xc]), (101, .bool ok), (15, .pointer (some ⟨g15, 0, none⟩)), (16, .bool ok)]) (fun (APs96, kPs96, ASs96, kSs96, APs98, kPs98, ASs98, kSs98, APs99, kPs99, ASs99, kSs99, g15) W => Aside0 (Below w.heap.size w W) ∧ Aside0 (W.heap[g2]? = some (.cells #[.string a, .string b, .slice AP ps.length cP, .slice AS ss.length cS, .bool t, .string c] 27 (0, 0))) ∧ Aside0 (W.heap[g3]? = some (.cells #[.string lo, .string hi, .slice AQ pt.length cQ, .slice AU st.length cU, .bool u2, .string ct] 27 (0, 0))) ∧ Aside0 (W.heap[g6]? = some (.cells #[.string xa, .string xb, .slice APs32 xp.length kPs32, .slice ASs32 xs.length kSs32, .bool xt, .string xc] 34 (0, 0))) ∧ Aside0 (W.heap[g10]? = some (.cells #[.string xa, .string xb, .slice AP18 xp.length kP18, .slice AS18 xs.length kS18, .bool xt, .string xc] 34 (0, 0))) ∧ Aside0 (W.heap[g15]? = some (.cells #[.string xa, .string xb, .slice APs99 xp.length kPs99, .slice ASs99 xs.length kSs99, .bool xt, .string xc] 34 (0, 0))) ∧ Aside0 (w.heap.size ≤ g15) ∧ Aside0 (g2 ≠ g15) ∧ Aside0 (g3 ≠ g15) ∧ Aside0 (g6 ≠ g15) ∧ Aside0 (g10 ≠ g15) ∧ Aside0 (Ow k61 61 W w.heap.size (.slice APs32 xp.length kPs32) xp) ∧ Aside0 (Ow k100 100 W w.heap.size (.slice ASs32 xs.length kSs32) xs) ∧ Aside0 (Ow k61 61 W w.heap.size (.slice AP18 xp.length kP18) (prTo xp.length 1)) ∧ Aside0 (Ow k100 100 W w.heap.size (.slice AS18 xs.length kS18) (sesTo xs.length (1 + 2 * (xp.length : Int)))) ∧ Aside0 (Ow k61 61 W w.heap.size (.slice APs99 xp.length kPs99) xp) ∧ Aside0 (Ow k100 100 W w.heap.size (.slice ASs99 xs.length kSs99) xs) ∧ Aside0 (∀ k_, (.slice APs99 xp.length kPs99 : Value).ownBlock = some k_ → (.slice APs32 xp.length kPs32 : Value).ownBlock = some k_ → False) ∧ Aside0 (∀ k_, (.slice APs99 xp.length kPs99 : Value).ownBlock = some k_ → (.slice ASs32 xs.length kSs32 : Value).ownBlock = some k_ → False) ∧ Aside0 (∀ k_, (.slice APs99 xp.length kPs99 : Value).ownBlock = some k_ → (.slice AP18 xp.length kP18 : Value).ownBlock = some k_ → False) ∧ Aside0 (∀ k_, (.slice APs99 xp.length kPs99 : Value).ownBlock = some k_ → (.slice AS18 xs.length kS18 : Value).ownBlock = some k_ → False) ∧ Aside0 (∀ k_, (.slice ASs99 xs.length kSs99 : Value).ownBlock = some k_ → (.slice APs32 xp.length kPs32 : Value).ownBlock = some k_ → False) ∧ Aside0 (∀ k_, (.slice ASs99 xs.length kSs99 : Value).ownBlock = some k_ → (.slice ASs32 xs.length kSs32 : Value).ownBlock = some k_ → False) ∧ Aside0 (∀ k_, (.slice ASs99 xs.length kSs99 : Value).ownBlock = some k_ → (.slice AP18 xp.length kP18 : Value).ownBlock = some k_ → False) ∧ Aside0 (∀ k_, (.slice ASs99 xs.length kSs99 : Value).ownBlock = some k_ → (.slice AS18 xs.length kS18 : Value).ownBlock = some k_ → False)) ?_ (fun J => ?_)
      rotate_left
      · refine ta (i := 0) (N := some 95) (v := ?_) (bits 11 1) rfl rfl (take_ofW HT_.out HW_.out (by kernel_rfl)) (fun _ _ _ h => h) (by kernel_rfl) hHeld ?_ ?_; rotate_left; (intro w' hS; obtain ⟨s0, s1⟩ := hS; obtain ⟨q0, q1, q2, q3, q4, q5⟩ := cs6 (Aside0.mk s0); go_simp; with_reducible rfl)
        refine ta (i := 2) (N := some 97) (v := ?_) (bits 11 5) rfl rfl (take_ofW HT_.out HW_.out (by kernel_rfl)) (fun _ _ _ h => h) (by kernel_rfl) hHeld ?_ ?_; rotate_left; (intro w' hS; obtain ⟨s0, s1⟩ := hS; obtain ⟨q0, q1, q2, q3, q4, q5⟩ := cs6 (Aside0.mk s1); go_simp; with_reducible rfl)
        refine norm_ (a' := ?_) ?_ ?_
        rotate_left
        · simp only [Act.put, List.setIfInBounds_toArray, List.set_cons_zero, List.set_cons_succ, i64_w, i32_w]
          rfl
        refine two_ (i := 1) (j := 8) (Ni := some 96) (Nj := some 15) (bits 11 7) (bits 11 261) rfl rfl rfl rfl (two_of HT_.out (by kernel_rfl)) (by decide) (by decide) (fun K hK => ?_) (fun K hK => ?_)
        · refine goes_ Try.func13 (by kernel_rfl) rfl #[.agg #[.string a, .string b, .slice AP ps.length cP, .slice AS ss.length cS, .bool t, .string c]] (by rfl) rfl rfl (by (try simp only [List.map_toArray, List.map_cons, List.map_nil]); rfl) ?_
          with_reducible refine c2r (laws_toState.M a b _ _ ps _ _ ss t c qs us w33 (cb HRP B) (cb HRS B) ⟨by omega, by omega⟩ HQS.out HUS.out) B fun APs96 kPs96 ASs96 kSs96 w34 hb B RPs96 QPs96 RSs96 QSs96 => ?_
          have DPs32_Ps96 := fr QPs96 RPs32
          have DSs32_Ps96 := fr QPs96 RSs32
          have DP18_Ps96 := fr QPs96 RP18
          have DS18_Ps96 := fr QPs96 RS18
          have DPs32_Ss96 := fr QSs96 RPs32
          have DSs32_Ss96 := fr QSs96 RSs32
          have DP18_Ss96 := fr QSs96 RP18
          have DS18_Ss96 := fr QSs96 RS18
          replace F2 := bn F2 hb
          replace F3 := bn F3 hb
          replace F6 := bn F6 hb
          replace F10 := bn F10 hb
          replace RPs32 := rn RPs32 hb
          replace RSs32 := rn RSs32 hb
          replace RP18 := rn RP18 hb
          replace RS18 := rn RS18 hb
          clear hb
          refine ⟨_, rfl, ?_⟩
          refine hK.out _ _ ⟨F2.out, F3.out⟩ (fun hHeld => ?_)
          clear hK K
          refine norm_ (a' := ?_) ?_ ?_
          rotate_left
          · show Act.put _ (some 96) _ = _
            simp only [Act.put, List.setIfInBounds_toArray, List.set_cons_zero, List.set_cons_succ, i64_w, i32_w]
            rfl
          clear QPs96 QSs96
          refine two_ (i := 3) (j := 8) (Ni := some 98) (Nj := some 15) (bits 11 15) (bits 11 263) rfl rfl rfl rfl (two_of HT_.out (by kernel_rfl)) (by decide) (by decide) (fun K hK => ?_) (fun K hK => ?_)
          · refine goes_ Try.func13 (by kernel_rfl) rfl #[.agg #[.string lo, .string hi, .slice AQ pt.length cQ, .slice AU st.length cU, .bool u2, .string ct]] (by rfl) rfl rfl (by (try simp only [List.map_toArray, List.map_cons, List.map_nil]); rfl) ?_
            with_reducible refine c2r (laws_toState.M lo hi _ _ pt _ _ st u2 ct qt ut w34 (cb HRQ B) (cb HRU B) ⟨by omega, by omega⟩ HQT.out HUT.out) B fun APs98 kPs98 ASs98 kSs98 w35 hb B RPs98 QPs98 RSs98 QSs98 => ?_
            have DPs32_Ps98 := fr QPs98 RPs32
            have DSs32_Ps98 := fr QPs98 RSs32
            have DP18_Ps98 := fr QPs98 RP18
            have DS18_Ps98 := fr QPs98 RS18
            have DPs96_Ps98 := fr QPs98 RPs96
            have DSs96_Ps98 := fr QPs98 RSs96
            have DPs32_Ss98 := fr QSs98 RPs32
            have DSs32_Ss98 := fr QSs98 RSs32
            have DP18_Ss98 := fr QSs98 RP18
            have DS18_Ss98 := fr QSs98 RS18
            have DPs96_Ss98 := fr QSs98 RPs96
            have DSs96_Ss98 := fr QSs98 RSs96
            replace F2 := bn F2 hb
            replace F3 := bn F3 hb
            replace F6 := bn F6 hb
            replace F10 := bn F10 hb
            replace RPs32 := rn RPs32 hb
            replace RSs32 := rn RSs32 hb
            replace RP18 := rn RP18 hb
            replace RS18 := rn RS18 hb
            replace RPs96 := rn RPs96 hb
            replace RSs96 := rn RSs96 hb
            clear hb
            refine ⟨_, rfl, ?_⟩
            refine hK.out _ _ ⟨F2.out, F3.out⟩ (fun hHeld => ?_)
            clear hK K
            refine norm_ (a' := ?_) ?_ ?_
            rotate_left
            · show Act.put _ (some 98) _ = _
              simp only [Act.put, List.setIfInBounds_toArray, List.set_cons_zero, List.set_cons_succ, i64_w, i32_w]
              rfl
            clear QPs98 QSs98
            refine two_ (i := 4) (j := 8) (Ni := some 99) (Nj := some 15) (bits 11 31) (bits 11 271) rfl rfl rfl rfl (two_of HT_.out (by kernel_rfl)) (by decide) (by decide) (fun K hK => ?_) (fun K hK => ?_)
            · refine goes_ Try.func40 (by kernel_rfl) rfl #[.agg #[.string a, .string b, .slice APs96 qs.length kPs96, .slice ASs96 us.length kSs96, .bool t, .string c], .agg #[.string lo, .string hi, .slice APs98 qt.length kPs98, .slice ASs98 ut.length kSs98, .bool u2, .string ct]] (by rfl) rfl rfl (by (try simp only [List.map_toArray, List.map_cons, List.map_nil]); rfl) ?_
              with_reducible refine c2r (impl_StateJoin.Mr a b _ _ qs _ _ us t c lo hi _ _ qt _ _ ut u2 ct xa xb xp xs xt xc ok HM.out w35 (rc RPs96) (rc RSs96) (rc RPs98) (rc RSs98) (rl RPs96) (rl RSs96) (rl RPs98) (rl RSs98)) B fun APs99 kPs99 ASs99 kSs99 w36 hb B RPs99 QPs99 RSs99 QSs99 => ?_
              have DPs32_Ps99 := fr QPs99 RPs32
              have DSs32_Ps99 := fr QPs99 RSs32
              have DP18_Ps99 := fr QPs99 RP18
              have DS18_Ps99 := fr QPs99 RS18
              have DPs32_Ss99 := fr QSs99 RPs32
              have DSs32_Ss99 := fr QSs99 RSs32
              have DP18_Ss99 := fr QSs99 RP18
              have DS18_Ss99 := fr QSs99 RS18
              replace F2 := bn F2 hb
              replace F3 := bn F3 hb
              replace F6 := bn F6 hb
              replace F10 := bn F10 hb
              replace RPs32 := rn RPs32 hb
              replace RSs32 := rn RSs32 hb
              replace RP18 := rn RP18 hb
              replace RS18 := rn RS18 hb
              clear hb
              refine ⟨_, rfl, ?_⟩
              refine hK.out _ _ ⟨F2.out, F3.out⟩ (fun hHeld => ?_)
              clear hK K
              refine norm_ (a' := ?_) ?_ ?_
              rotate_left
              · show Act.put _ (some 99) _ = _
                simp only [Act.put, List.setIfInBounds_toArray, List.set_cons_zero, List.set_cons_succ, i64_w, i32_w]
                rfl
              clear QPs99 QSs99
              refine pu (i := 5) (N := some 94) (v := ?_) (bits 11 63) rfl rfl (any_of HT_.out (by kernel_rfl)) (fun _ _ _ h => h) (by kernel_rfl) ?_ ?_; rotate_left; (intro w'; go_simp; with_reducible rfl)
              refine pu (i := 6) (N := some 100) (v := ?_) (bits 11 127) rfl rfl (any_of HT_.out (by kernel_rfl)) (fun _ _ _ h => h) (by kernel_rfl) ?_ ?_; rotate_left; (intro w'; go_simp; with_reducible rfl)
              refine pu (i := 7) (N := some 101) (v := ?_) (bits 11 255) rfl rfl (any_of HT_.out (by kernel_rfl)) (fun _ _ _ h => h) (by kernel_rfl) ?_ ?_; rotate_left; (intro w'; go_simp; with_reducible rfl)
              refine norm_ (a' := ?_) ?_ ?_
              rotate_left
              · simp only [Act.put, List.setIfInBounds_toArray, List.set_cons_zero, List.set_cons_succ, i64_w, i32_w]
                rfl
              refine one_ (i := 8) (N := some 15) (bits 11 511) rfl rfl (one_of HT_.out (by kernel_rfl)) (by decide) (fun K hK => ?_)
              refine bxs (cs := #[.string (⟨#[]⟩ : ByteArray), .string (⟨#[]⟩ : ByteArray), .slice none 0 0, .slice none 0 0, .bool false, .string (⟨#[]⟩ : ByteArray)]) (t := 34) (by rfl) rfl ?hr B (fun g15 w37 hb B F15 L15 E15 => ?_)
              (case hr => first | (go_simp; done) | (go_simp; rfl))
              have N2_15 := ne1 E15 F2
              have N3_15 := ne1 E15 F3
              have N6_15 := ne1 E15 F6
              have N10_15 := ne1 E15 F10
              replace F2 := bn F2 hb
              replace F3 := bn F3 hb
              replace F6 := bn F6 hb
              replace F10 := bn F10 hb
              replace RPs32 := rn RPs32 hb
              replace RSs32 := rn RSs32 hb
              replace RP18 := rn RP18 hb
              replace RS18 := rn RS18 hb
              replace RPs99 := rn RPs99 hb
              replace RSs99 := rn RSs99 hb
              clear hb E15
              refine hK.out _ _ ⟨F2.out, F3.out⟩ (fun hHeld => ?_)
              clear hK K
              refine norm_ (a' := ?_) ?_ ?_
              rotate_left
              · show Act.put _ (some 15) _ = _
                simp only [Act.put, List.setIfInBounds_toArray, List.set_cons_zero, List.set_cons_succ, i64_w, i32_w]
                rfl
              refine one_ (i := 9) (N := none) (bits 11 1023) rfl rfl (one_of HT_.out (by kernel_rfl)) (by decide) (fun K hK => ?_)
              obtain ⟨y0, y1, y2, y3, y4, y5⟩ := cs6 F15
              have z0 := fz F15 0
              have z1 := fz F15 1
              have z2 := fz F15 2
              have z3 := fz F15 3
              have z4 := fz F15 4
              have z5 := fz F15 5
              refine sxs (g := g15) 0 [.string xa, .string xb, .slice APs99 xp.length kPs99, .slice ASs99 xs.length kSs99, .bool xt, .string xc] [.string xa, .string xb, .slice APs99 xp.length kPs99, .slice ASs99 xs.length kSs99, .bool xt, .string xc] (by rfl) rfl ?hr B F15 L15 rfl (Nat.le_of_ble_eq_true rfl) (fun w38 hk B G => ?_)
              (case hr => first | (go_simp; done) | (go_simp; rfl))
              replace F2 := bk F2 hk N2_15.out
              replace F3 := bk F3 hk N3_15.out
              replace F6 := bk F6 hk N6_15.out
              replace F10 := bk F10 hk N10_15.out
              replace RPs32 := rk RPs32 F15 (by decide) hk
              replace RSs32 := rk RSs32 F15 (by decide) hk
              replace RP18 := rk RP18 F15 (by decide) hk
              replace RS18 := rk RS18 F15 (by decide) hk
              replace RPs99 := rk RPs99 F15 (by decide) hk
              replace RSs99 := rk RSs99 F15 (by decide) hk
              replace F15 := G
              clear hk y0 z0 y1 z1 y2 z2 y3 z3 y4 z4 y5 z5
              refine hK.out _ _ ⟨F2.out, F3.out⟩ (fun hHeld => ?_)
              clear hK K
              refine pu (i := 10) (N := some 16) (v := ?_) (bits 11 2047) rfl rfl (any_of HT_.out (by kernel_rfl)) (fun _ _ _ h => h) (by kernel_rfl) ?_ ?_; rotate_left; (intro w'; go_simp; with_reducible rfl)
              refine norm_ (a' := ?_) ?_ ?_
              rotate_left
              · simp only [Act.put, List.setIfInBounds_toArray, List.set_cons_zero, List.set_cons_succ, i64_w, i32_w]
                rfl
              refine norm_ (a' := _) ?_ (J ⟨APs96, kPs96, ASs96, kSs96, APs98, kPs98, ASs98, kSs98, APs99, kPs99, ASs99, kSs99, g15⟩ _ ⟨B, F2, F3, F6, F10, F15, L15, N2_15, N3_15, N6_15, N10_15, RPs32, RSs32, RP18, RS18, RPs99, RSs99, DPs32_Ps99, DSs32_Ps99, DP18_Ps99, DS18_Ps99, DPs32_Ss99, DSs32_Ss99, DP18_Ss99, DS18_Ss99⟩)
              simp only [putAll, Act.put, List.setIfInBounds_toArray, List.set_cons_zero, List.set_cons_succ]
              try rfl
            · refine bxs (cs := #[.string (⟨#[]⟩ : ByteArray), .string (⟨#[]⟩ : ByteArray), .slice none 0 0, .slice none 0 0, .bool false, .string (⟨#[]⟩ : ByteArray)]) (t := 34) (by rfl) rfl ?hr B (fun g15 w36 hb B F15 L15 E15 => ?_)
              (case hr => first | (go_simp; done) | (go_simp; rfl))
              have N2_15 := ne1 E15 F2
              have N3_15 := ne1 E15 F3
              have N6_15 := ne1 E15 F6
              have N10_15 := ne1 E15 F10
              replace F2 := bn F2 hb
              replace F3 := bn F3 hb
              replace F6 := bn F6 hb
              replace F10 := bn F10 hb
              replace RPs32 := rn RPs32 hb
              replace RSs32 := rn RSs32 hb
              replace RP18 := rn RP18 hb
              replace RS18 := rn RS18 hb
              replace RPs96 := rn RPs96 hb
              replace RSs96 := rn RSs96 hb
              replace RPs98 := rn RPs98 hb
              replace RSs98 := rn RSs98 hb
              clear hb E15
              refine hK.out _ _ ⟨F2.out, F3.out⟩ (fun hHeld => ?_)
              clear hK K
              refine norm_ (a' := ?_) ?_ ?_
              rotate_left
              · show Act.put _ (some 15) _ = _
                simp only [Act.put, List.setIfInBounds_toArray, List.set_cons_zero, List.set_cons_succ, i64_w, i32_w]
                rfl
              refine one_ (i := 4) (N := some 99) (bits 11 287) rfl rfl (one_of HT_.out (by kernel_rfl)) (by decide) (fun K hK => ?_)
              refine goes_ Try.func40 (by kernel_rfl) rfl #[.agg #[.string a, .string b, .slice APs96 qs.length kPs96, .slice ASs96 us.length kSs96, .bool t, .string c], .agg #[.string lo, .string hi, .slice APs98 qt.length kPs98, .slice ASs98 ut.length kSs98, .bool u2, .string ct]] (by rfl) rfl rfl (by (try simp only [List.map_toArray, List.map_cons, List.map_nil]); rfl) ?_
              with_reducible refine c2r (impl_StateJoin.Mr a b _ _ qs _ _ us t c lo hi _ _ qt _ _ ut u2 ct xa xb xp xs xt xc ok HM.out w36 (rc RPs96) (rc RSs96) (rc RPs98) (rc RSs98) (rl RPs96) (rl RSs96) (rl RPs98) (rl RSs98)) B fun APs99 kPs99 ASs99 kSs99 w37 hb B RPs99 QPs99 RSs99 QSs99 => ?_
              have DPs32_Ps99 := fr QPs99 RPs32
              have DSs32_Ps99 := fr QPs99 RSs32
              have DP18_Ps99 := fr QPs99 RP18
              have DS18_Ps99 := fr QPs99 RS18
              have DPs32_Ss99 := fr QSs99 RPs32
              have DSs32_Ss99 := fr QSs99 RSs32
              have DP18_Ss99 := fr QSs99 RP18
              have DS18_Ss99 := fr QSs99 RS18
              replace F2 := bn F2 hb
              replace F3 := bn F3 hb
              replace F6 := bn F6 hb
              replace F10 := bn F10 hb
              replace F15 := bn F15 hb
              replace RPs32 := rn RPs32 hb
              replace RSs32 := rn RSs32 hb
              replace RP18 := rn RP18 hb
              replace RS18 := rn RS18 hb
              clear hb
              refine ⟨_, rfl, ?_⟩
              refine hK.out _ _ ⟨F2.out, F3.out⟩ (fun hHeld => ?_)
              clear hK K
              refine norm_ (a' := ?_) ?_ ?_
              rotate_left
              · show Act.put _ (some 99) _ = _
                simp only [Act.put, List.setIfInBounds_toArray, List.set_cons_zero, List.set_cons_succ, i64_w, i32_w]
                rfl
              clear QPs99 QSs99
              refine pu (i := 5) (N := some 94) (v := ?_) (bits 11 319) rfl rfl (any_of HT_.out (by kernel_rfl)) (fun _ _ _ h => h) (by kernel_rfl) ?_ ?_; rotate_left; (intro w'; go_simp; with_reducible rfl)
              refine pu (i := 6) (N := some 100) (v := ?_) (bits 11 383) rfl rfl (any_of HT_.out (by kernel_rfl)) (fun _ _ _ h => h) (by kernel_rfl) ?_ ?_; rotate_left; (intro w'; go_simp; with_reducible rfl)
              refine pu (i := 7) (N := some 101) (v := ?_) (bits 11 511) rfl rfl (any_of HT_.out (by kernel_rfl)) (fun _ _ _ h => h) (by kernel_rfl) ?_ ?_; rotate_left; (intro w'; go_simp; with_reducible rfl)
              refine norm_ (a' := ?_) ?_ ?_
              rotate_left
              · simp only [Act.put, List.setIfInBounds_toArray, List.set_cons_zero, List.set_cons_succ, i64_w, i32_w]
                rfl
              refine one_ (i := 9) (N := none) (bits 11 1023) rfl rfl (one_of HT_.out (by kernel_rfl)) (by decide) (fun K hK => ?_)
              obtain ⟨y0, y1, y2, y3, y4, y5⟩ := cs6 F15
              have z0 := fz F15 0
              have z1 := fz F15 1
              have z2 := fz F15 2
              have z3 := fz F15 3
              have z4 := fz F15 4
              have z5 := fz F15 5
              refine sxs (g := g15) 0 [.string xa, .string xb, .slice APs99 xp.length kPs99, .slice ASs99 xs.length kSs99, .bool xt, .string xc] [.string xa, .string xb, .slice APs99 xp.length kPs99, .slice ASs99 xs.length kSs99, .bool xt, .string xc] (by rfl) rfl ?hr B F15 L15 rfl (Nat.le_of_ble_eq_true rfl) (fun w38 hk B G => ?_)
              (case hr => first | (go_simp; done) | (go_simp; rfl))
              replace F2 := bk F2 hk N2_15.out
              replace F3 := bk F3 hk N3_15.out
              replace F6 := bk F6 hk N6_15.out
              replace F10 := bk F10 hk N10_15.out
              replace RPs32 := rk RPs32 F15 (by decide) hk
              replace RSs32 := rk RSs32 F15 (by decide) hk
              replace RP18 := rk RP18 F15 (by decide) hk
              replace RS18 := rk RS18 F15 (by decide) hk
              replace RPs99 := rk RPs99 F15 (by decide) hk
              replace RSs99 := rk RSs99 F15 (by decide) hk
              replace F15 := G
              clear hk y0 z0 y1 z1 y2 z2 y3 z3 y4 z4 y5 z5
              refine hK.out _ _ ⟨F2.out, F3.out⟩ (fun hHeld => ?_)
              clear hK K
              refine pu (i := 10) (N := some 16) (v := ?_) (bits 11 2047) rfl rfl (any_of HT_.out (by kernel_rfl)) (fun _ _ _ h => h) (by kernel_rfl) ?_ ?_; rotate_left; (intro w'; go_simp; with_reducible rfl)
              refine norm_ (a' := ?_) ?_ ?_
              rotate_left
              · simp only [Act.put, List.setIfInBounds_toArray, List.set_cons_zero, List.set_cons_succ, i64_w, i32_w]
                rfl
              refine norm_ (a' := _) ?_ (J ⟨APs96, kPs96, ASs96, kSs96, APs98, kPs98, ASs98, kSs98, APs99, kPs99, ASs99, kSs99, g15⟩ _ ⟨B, F2, F3, F6, F10, F15, L15, N2_15, N3_15, N6_15, N10_15, RPs32, RSs32, RP18, RS18, RPs99, RSs99, DPs32_Ps99, DSs32_Ps99, DP18_Ps99, DS18_Ps99, DPs32_Ss99, DSs32_Ss99, DP18_Ss99, DS18_Ss99⟩)
              simp only [putAll, Act.put, List.setIfInBounds_toArray, List.set_cons_zero, List.set_cons_succ]
              try rfl
          · refine bxs (cs := #[.string (⟨#[]⟩ : ByteArray), .string (⟨#[]⟩ : ByteArray), .slice none 0 0, .slice none 0 0, .bool false, .string (⟨#[]⟩ : ByteArray)]) (t := 34) (by rfl) rfl ?hr B (fun g15 w35 hb B F15 L15 E15 => ?_)
            (case hr => first | (go_simp; done) | (go_simp; rfl))
            have N2_15 := ne1 E15 F2
            have N3_15 := ne1 E15 F3
            have N6_15 := ne1 E15 F6
            have N10_15 := ne1 E15 F10
            replace F2 := bn F2 hb
            replace F3 := bn F3 hb
            replace F6 := bn F6 hb
            replace F10 := bn F10 hb
            replace RPs32 := rn RPs32 hb
            replace RSs32 := rn RSs32 hb
            replace RP18 := rn RP18 hb
            replace RS18 := rn RS18 hb
            replace RPs96 := rn RPs96 hb
            replace RSs96 := rn RSs96 hb
            clear hb E15
            refine hK.out _ _ ⟨F2.out, F3.out⟩ (fun hHeld => ?_)
            clear hK K
            refine norm_ (a' := ?_) ?_ ?_
            rotate_left
            · show Act.put _ (some 15) _ = _
              simp only [Act.put, List.setIfInBounds_toArray, List.set_cons_zero, List.set_cons_succ, i64_w, i32_w]
              rfl
            refine one_ (i := 3) (N := some 98) (bits 11 271) rfl rfl (one_of HT_.out (by kernel_rfl)) (by decide) (fun K hK => ?_)
            refine goes_ Try.func13 (by kernel_rfl) rfl #[.agg #[.string lo, .string hi, .slice AQ pt.length cQ, .slice AU st.length cU, .bool u2, .string ct]] (by rfl) rfl rfl (by (try simp only [List.map_toArray, List.map_cons, List.map_nil]); rfl) ?_
            with_reducible refine c2r (laws_toState.M lo hi _ _ pt _ _ st u2 ct qt ut w35 (cb HRQ B) (cb HRU B) ⟨by omega, by omega⟩ HQT.out HUT.out) B fun APs98 kPs98 ASs98 kSs98 w36 hb B RPs98 QPs98 RSs98 QSs98 => ?_
            have DPs32_Ps98 := fr QPs98 RPs32
            have DSs32_Ps98 := fr QPs98 RSs32
            have DP18_Ps98 := fr QPs98 RP18
            have DS18_Ps98 := fr QPs98 RS18
            have DPs96_Ps98 := fr QPs98 RPs96
            have DSs96_Ps98 := fr QPs98 RSs96
            have DPs32_Ss98 := fr QSs98 RPs32
            have DSs32_Ss98 := fr QSs98 RSs32
            have DP18_Ss98 := fr QSs98 RP18
            have DS18_Ss98 := fr QSs98 RS18
            have DPs96_Ss98 := fr QSs98 RPs96
            have DSs96_Ss98 := fr QSs98 RSs96
            replace F2 := bn F2 hb
            replace F3 := bn F3 hb
            replace F6 := bn F6 hb
            replace F10 := bn F10 hb
            replace F15 := bn F15 hb
            replace RPs32 := rn RPs32 hb
            replace RSs32 := rn RSs32 hb
            replace RP18 := rn RP18 hb
            replace RS18 := rn RS18 hb
            replace RPs96 := rn RPs96 hb
            replace RSs96 := rn RSs96 hb
            clear hb
            refine ⟨_, rfl, ?_⟩
            refine hK.out _ _ ⟨F2.out, F3.out⟩ (fun hHeld => ?_)
            clear hK K
            refine norm_ (a' := ?_) ?_ ?_
            rotate_left
            · show Act.put _ (some 98) _ = _
              simp only [Act.put, List.setIfInBounds_toArray, List.set_cons_zero, List.set_cons_succ, i64_w, i32_w]
              rfl
            clear QPs98 QSs98
            refine one_ (i := 4) (N := some 99) (bits 11 287) rfl rfl (one_of HT_.out (by kernel_rfl)) (by decide) (fun K hK => ?_)
            refine goes_ Try.func40 (by kernel_rfl) rfl #[.agg #[.string a, .string b, .slice APs96 qs.length kPs96, .slice ASs96 us.length kSs96, .bool t, .string c], .agg #[.string lo, .string hi, .slice APs98 qt.length kPs98, .slice ASs98 ut.length kSs98, .bool u2, .string ct]] (by rfl) rfl rfl (by (try simp only [List.map_toArray, List.map_cons, List.map_nil]); rfl) ?_
            with_reducible refine c2r (impl_StateJoin.Mr a b _ _ qs _ _ us t c lo hi _ _ qt _ _ ut u2 ct xa xb xp xs xt xc ok HM.out w36 (rc RPs96) (rc RSs96) (rc RPs98) (rc RSs98) (rl RPs96) (rl RSs96) (rl RPs98) (rl RSs98)) B fun APs99 kPs99 ASs99 kSs99 w37 hb B RPs99 QPs99 RSs99 QSs99 => ?_
            have DPs32_Ps99 := fr QPs99 RPs32
            have DSs32_Ps99 := fr QPs99 RSs32
            have DP18_Ps99 := fr QPs99 RP18
            have DS18_Ps99 := fr QPs99 RS18
            have DPs32_Ss99 := fr QSs99 RPs32
            have DSs32_Ss99 := fr QSs99 RSs32
            have DP18_Ss99 := fr QSs99 RP18
            have DS18_Ss99 := fr QSs99 RS18
            replace F2 := bn F2 hb
            replace F3 := bn F3 hb
            replace F6 := bn F6 hb
            replace F10 := bn F10 hb
            replace F15 := bn F15 hb
            replace RPs32 := rn RPs32 hb
            replace RSs32 := rn RSs32 hb
            replace RP18 := rn RP18 hb
            replace RS18 := rn RS18 hb
            clear hb
            refine ⟨_, rfl, ?_⟩
            refine hK.out _ _ ⟨F2.out, F3.out⟩ (fun hHeld => ?_)
            clear hK K
            refine norm_ (a' := ?_) ?_ ?_
            rotate_left
            · show Act.put _ (some 99) _ = _
              simp only [Act.put, List.setIfInBounds_toArray, List.set_cons_zero, List.set_cons_succ, i64_w, i32_w]
              rfl
            clear QPs99 QSs99
            refine pu (i := 5) (N := some 94) (v := ?_) (bits 11 319) rfl rfl (any_of HT_.out (by kernel_rfl)) (fun _ _ _ h => h) (by kernel_rfl) ?_ ?_; rotate_left; (intro w'; go_simp; with_reducible rfl)
            refine pu (i := 6) (N := some 100) (v := ?_) (bits 11 383) rfl rfl (any_of HT_.out (by kernel_rfl)) (fun _ _ _ h => h) (by kernel_rfl) ?_ ?_; rotate_left; (intro w'; go_simp; with_reducible rfl)
            refine pu (i := 7) (N := some 101) (v := ?_) (bits 11 511) rfl rfl (any_of HT_.out (by kernel_rfl)) (fun _ _ _ h => h) (by kernel_rfl) ?_ ?_; rotate_left; (intro w'; go_simp; with_reducible rfl)
            refine norm_ (a' := ?_) ?_ ?_
            rotate_left
            · simp only [Act.put, List.setIfInBounds_toArray, List.set_cons_zero, List.set_cons_succ, i64_w, i32_w]
              rfl
            refine one_ (i := 9) (N := none) (bits 11 1023) rfl rfl (one_of HT_.out (by kernel_rfl)) (by decide) (fun K hK => ?_)
            obtain ⟨y0, y1, y2, y3, y4, y5⟩ := cs6 F15
            have z0 := fz F15 0
            have z1 := fz F15 1
            have z2 := fz F15 2
            have z3 := fz F15 3
            have z4 := fz F15 4
            have z5 := fz F15 5
            refine sxs (g := g15) 0 [.string xa, .string xb, .slice APs99 xp.length kPs99, .slice ASs99 xs.length kSs99, .bool xt, .string xc] [.string xa, .string xb, .slice APs99 xp.length kPs99, .slice ASs99 xs.length kSs99, .bool xt, .string xc] (by rfl) rfl ?hr B F15 L15 rfl (Nat.le_of_ble_eq_true rfl) (fun w38 hk B G => ?_)
            (case hr => first | (go_simp; done) | (go_simp; rfl))
            replace F2 := bk F2 hk N2_15.out
            replace F3 := bk F3 hk N3_15.out
            replace F6 := bk F6 hk N6_15.out
            replace F10 := bk F10 hk N10_15.out
            replace RPs32 := rk RPs32 F15 (by decide) hk
            replace RSs32 := rk RSs32 F15 (by decide) hk
            replace RP18 := rk RP18 F15 (by decide) hk
            replace RS18 := rk RS18 F15 (by decide) hk
            replace RPs99 := rk RPs99 F15 (by decide) hk
            replace RSs99 := rk RSs99 F15 (by decide) hk
            replace F15 := G
            clear hk y0 z0 y1 z1 y2 z2 y3 z3 y4 z4 y5 z5
            refine hK.out _ _ ⟨F2.out, F3.out⟩ (fun hHeld => ?_)
            clear hK K
            refine pu (i := 10) (N := some 16) (v := ?_) (bits 11 2047) rfl rfl (any_of HT_.out (by kernel_rfl)) (fun _ _ _ h => h) (by kernel_rfl) ?_ ?_; rotate_left; (intro w'; go_simp; with_reducible rfl)
            refine norm_ (a' := ?_) ?_ ?_
            rotate_left
            · simp only [Act.put, List.setIfInBounds_toArray, List.set_cons_zero, List.set_cons_succ, i64_w, i32_w]
              rfl
            refine norm_ (a' := _) ?_ (J ⟨APs96, kPs96, ASs96, kSs96, APs98, kPs98, ASs98, kSs98, APs99, kPs99, ASs99, kSs99, g15⟩ _ ⟨B, F2, F3, F6, F10, F15, L15, N2_15, N3_15, N6_15, N10_15, RPs32, RSs32, RP18, RS18, RPs99, RSs99, DPs32_Ps99, DSs32_Ps99, DP18_Ps99, DS18_Ps99, DPs32_Ss99, DSs32_Ss99, DP18_Ss99, DS18_Ss99⟩)
            simp only [putAll, Act.put, List.setIfInBounds_toArray, List.set_cons_zero, List.set_cons_succ]
            try rfl
        · refine bxs (cs := #[.string (⟨#[]⟩ : ByteArray), .string (⟨#[]⟩ : ByteArray), .slice none 0 0, .slice none 0 0, .bool false, .string (⟨#[]⟩ : ByteArray)]) (t := 34) (by rfl) rfl ?hr B (fun g15 w34 hb B F15 L15 E15 => ?_)
          (case hr => first | (go_simp; done) | (go_simp; rfl))
          have N2_15 := ne1 E15 F2
          have N3_15 := ne1 E15 F3
          have N6_15 := ne1 E15 F6
          have N10_15 := ne1 E15 F10
          replace F2 := bn F2 hb
          replace F3 := bn F3 hb
          replace F6 := bn F6 hb
          replace F10 := bn F10 hb
          replace RPs32 := rn RPs32 hb
          replace RSs32 := rn RSs32 hb
          replace RP18 := rn RP18 hb
          replace RS18 := rn RS18 hb
          clear hb E15
          refine hK.out _ _ ⟨F2.out, F3.out⟩ (fun hHeld => ?_)
          clear hK K
          refine norm_ (a' := ?_) ?_ ?_
          rotate_left
          · show Act.put _ (some 15) _ = _
            simp only [Act.put, List.setIfInBounds_toArray, List.set_cons_zero, List.set_cons_succ, i64_w, i32_w]
            rfl
          refine one_ (i := 1) (N := some 96) (bits 11 263) rfl rfl (one_of HT_.out (by kernel_rfl)) (by decide) (fun K hK => ?_)
          refine goes_ Try.func13 (by kernel_rfl) rfl #[.agg #[.string a, .string b, .slice AP ps.length cP, .slice AS ss.length cS, .bool t, .string c]] (by rfl) rfl rfl (by (try simp only [List.map_toArray, List.map_cons, List.map_nil]); rfl) ?_
          with_reducible refine c2r (laws_toState.M a b _ _ ps _ _ ss t c qs us w34 (cb HRP B) (cb HRS B) ⟨by omega, by omega⟩ HQS.out HUS.out) B fun APs96 kPs96 ASs96 kSs96 w35 hb B RPs96 QPs96 RSs96 QSs96 => ?_
          have DPs32_Ps96 := fr QPs96 RPs32
          have DSs32_Ps96 := fr QPs96 RSs32
          have DP18_Ps96 := fr QPs96 RP18
          have DS18_Ps96 := fr QPs96 RS18
          have DPs32_Ss96 := fr QSs96 RPs32
          have DSs32_Ss96 := fr QSs96 RSs32
          have DP18_Ss96 := fr QSs96 RP18
          have DS18_Ss96 := fr QSs96 RS18
          replace F2 := bn F2 hb
          replace F3 := bn F3 hb
          replace F6 := bn F6 hb
          replace F10 := bn F10 hb
          replace F15 := bn F15 hb
          replace RPs32 := rn RPs32 hb
          replace RSs32 := rn RSs32 hb
          replace RP18 := rn RP18 hb
          replace RS18 := rn RS18 hb
          clear hb
          refine ⟨_, rfl, ?_⟩
          refine hK.out _ _ ⟨F2.out, F3.out⟩ (fun hHeld => ?_)
          clear hK K
          refine norm_ (a' := ?_) ?_ ?_
          rotate_left
          · show Act.put _ (some 96) _ = _
            simp only [Act.put, List.setIfInBounds_toArray, List.set_cons_zero, List.set_cons_succ, i64_w, i32_w]
            rfl
          clear QPs96 QSs96
          refine one_ (i := 3) (N := some 98) (bits 11 271) rfl rfl (one_of HT_.out (by kernel_rfl)) (by decide) (fun K hK => ?_)
          refine goes_ Try.func13 (by kernel_rfl) rfl #[.agg #[.string lo, .string hi, .slice AQ pt.length cQ, .slice AU st.length cU, .bool u2, .string ct]] (by rfl) rfl rfl (by (try simp only [List.map_toArray, List.map_cons, List.map_nil]); rfl) ?_
          with_reducible refine c2r (laws_toState.M lo hi _ _ pt _ _ st u2 ct qt ut w35 (cb HRQ B) (cb HRU B) ⟨by omega, by omega⟩ HQT.out HUT.out) B fun APs98 kPs98 ASs98 kSs98 w36 hb B RPs98 QPs98 RSs98 QSs98 => ?_
          have DPs32_Ps98 := fr QPs98 RPs32
          have DSs32_Ps98 := fr QPs98 RSs32
          have DP18_Ps98 := fr QPs98 RP18
          have DS18_Ps98 := fr QPs98 RS18
          have DPs96_Ps98 := fr QPs98 RPs96
          have DSs96_Ps98 := fr QPs98 RSs96
          have DPs32_Ss98 := fr QSs98 RPs32
          have DSs32_Ss98 := fr QSs98 RSs32
          have DP18_Ss98 := fr QSs98 RP18
          have DS18_Ss98 := fr QSs98 RS18
          have DPs96_Ss98 := fr QSs98 RPs96
          have DSs96_Ss98 := fr QSs98 RSs96
          replace F2 := bn F2 hb
          replace F3 := bn F3 hb
          replace F6 := bn F6 hb
          replace F10 := bn F10 hb
          replace F15 := bn F15 hb
          replace RPs32 := rn RPs32 hb
          replace RSs32 := rn RSs32 hb
          replace RP18 := rn RP18 hb
          replace RS18 := rn RS18 hb
          replace RPs96 := rn RPs96 hb
          replace RSs96 := rn RSs96 hb
          clear hb
          refine ⟨_, rfl, ?_⟩
          refine hK.out _ _ ⟨F2.out, F3.out⟩ (fun hHeld => ?_)
          clear hK K
          refine norm_ (a' := ?_) ?_ ?_
          rotate_left
          · show Act.put _ (some 98) _ = _
            simp only [Act.put, List.setIfInBounds_toArray, List.set_cons_zero, List.set_cons_succ, i64_w, i32_w]
            rfl
          clear QPs98 QSs98
          refine one_ (i := 4) (N := some 99) (bits 11 287) rfl rfl (one_of HT_.out (by kernel_rfl)) (by decide) (fun K hK => ?_)
          refine goes_ Try.func40 (by kernel_rfl) rfl #[.agg #[.string a, .string b, .slice APs96 qs.length kPs96, .slice ASs96 us.length kSs96, .bool t, .string c], .agg #[.string lo, .string hi, .slice APs98 qt.length kPs98, .slice ASs98 ut.length kSs98, .bool u2, .string ct]] (by rfl) rfl rfl (by (try simp only [List.map_toArray, List.map_cons, List.map_nil]); rfl) ?_
          with_reducible refine c2r (impl_StateJoin.Mr a b _ _ qs _ _ us t c lo hi _ _ qt _ _ ut u2 ct xa xb xp xs xt xc ok HM.out w36 (rc RPs96) (rc RSs96) (rc RPs98) (rc RSs98) (rl RPs96) (rl RSs96) (rl RPs98) (rl RSs98)) B fun APs99 kPs99 ASs99 kSs99 w37 hb B RPs99 QPs99 RSs99 QSs99 => ?_
          have DPs32_Ps99 := fr QPs99 RPs32
          have DSs32_Ps99 := fr QPs99 RSs32
          have DP18_Ps99 := fr QPs99 RP18
          have DS18_Ps99 := fr QPs99 RS18
          have DPs32_Ss99 := fr QSs99 RPs32
          have DSs32_Ss99 := fr QSs99 RSs32
          have DP18_Ss99 := fr QSs99 RP18
          have DS18_Ss99 := fr QSs99 RS18
          replace F2 := bn F2 hb
          replace F3 := bn F3 hb
          replace F6 := bn F6 hb
          replace F10 := bn F10 hb
          replace F15 := bn F15 hb
          replace RPs32 := rn RPs32 hb
          replace RSs32 := rn RSs32 hb
          replace RP18 := rn RP18 hb
          replace RS18 := rn RS18 hb
          clear hb
          refine ⟨_, rfl, ?_⟩
          refine hK.out _ _ ⟨F2.out, F3.out⟩ (fun hHeld => ?_)
          clear hK K
          refine norm_ (a' := ?_) ?_ ?_
          rotate_left
          · show Act.put _ (some 99) _ = _
            simp only [Act.put, List.setIfInBounds_toArray, List.set_cons_zero, List.set_cons_succ, i64_w, i32_w]
            rfl
          clear QPs99 QSs99
          refine pu (i := 5) (N := some 94) (v := ?_) (bits 11 319) rfl rfl (any_of HT_.out (by kernel_rfl)) (fun _ _ _ h => h) (by kernel_rfl) ?_ ?_; rotate_left; (intro w'; go_simp; with_reducible rfl)
          refine pu (i := 6) (N := some 100) (v := ?_) (bits 11 383) rfl rfl (any_of HT_.out (by kernel_rfl)) (fun _ _ _ h => h) (by kernel_rfl) ?_ ?_; rotate_left; (intro w'; go_simp; with_reducible rfl)
          refine pu (i := 7) (N := some 101) (v := ?_) (bits 11 511) rfl rfl (any_of HT_.out (by kernel_rfl)) (fun _ _ _ h => h) (by kernel_rfl) ?_ ?_; rotate_left; (intro w'; go_simp; with_reducible rfl)
          refine norm_ (a' := ?_) ?_ ?_
          rotate_left
          · simp only [Act.put, List.setIfInBounds_toArray, List.set_cons_zero, List.set_cons_succ, i64_w, i32_w]
            rfl
          refine one_ (i := 9) (N := none) (bits 11 1023) rfl rfl (one_of HT_.out (by kernel_rfl)) (by decide) (fun K hK => ?_)
          obtain ⟨y0, y1, y2, y3, y4, y5⟩ := cs6 F15
          have z0 := fz F15 0
          have z1 := fz F15 1
          have z2 := fz F15 2
          have z3 := fz F15 3
          have z4 := fz F15 4
          have z5 := fz F15 5
          refine sxs (g := g15) 0 [.string xa, .string xb, .slice APs99 xp.length kPs99, .slice ASs99 xs.length kSs99, .bool xt, .string xc] [.string xa, .string xb, .slice APs99 xp.length kPs99, .slice ASs99 xs.length kSs99, .bool xt, .string xc] (by rfl) rfl ?hr B F15 L15 rfl (Nat.le_of_ble_eq_true rfl) (fun w38 hk B G => ?_)
          (case hr => first | (go_simp; done) | (go_simp; rfl))
          replace F2 := bk F2 hk N2_15.out
          replace F3 := bk F3 hk N3_15.out
          replace F6 := bk F6 hk N6_15.out
          replace F10 := bk F10 hk N10_15.out
          replace RPs32 := rk RPs32 F15 (by decide) hk
          replace RSs32 := rk RSs32 F15 (by decide) hk
          replace RP18 := rk RP18 F15 (by decide) hk
          replace RS18 := rk RS18 F15 (by decide) hk
          replace RPs99 := rk RPs99 F15 (by decide) hk
          replace RSs99 := rk RSs99 F15 (by decide) hk
          replace F15 := G
          clear hk y0 z0 y1 z1 y2 z2 y3 z3 y4 z4 y5 z5
          refine hK.out _ _ ⟨F2.out, F3.out⟩ (fun hHeld => ?_)
          clear hK K
          refine pu (i := 10) (N := some 16) (v := ?_) (bits 11 2047) rfl rfl (any_of HT_.out (by kernel_rfl)) (fun _ _ _ h => h) (by kernel_rfl) ?_ ?_; rotate_left; (intro w'; go_simp; with_reducible rfl)
          refine norm_ (a' := ?_) ?_ ?_
          rotate_left
          · simp only [Act.put, List.setIfInBounds_toArray, List.set_cons_zero, List.set_cons_succ, i64_w, i32_w]
            rfl
          refine norm_ (a' := _) ?_ (J ⟨APs96, kPs96, ASs96, kSs96, APs98, kPs98, ASs98, kSs98, APs99, kPs99, ASs99, kSs99, g15⟩ _ ⟨B, F2, F3, F6, F10, F15, L15, N2_15, N3_15, N6_15, N10_15, RPs32, RSs32, RP18, RS18, RPs99, RSs99, DPs32_Ps99, DSs32_Ps99, DP18_Ps99, DS18_Ps99, DPs32_Ss99, DSs32_Ss99, DP18_Ss99, DS18_Ss99⟩)
          simp only [putAll, Act.put, List.setIfInBounds_toArray, List.set_cons_zero, List.set_cons_succ]
          try rfl
      rintro ⟨APs96, kPs96, ASs96, kSs96, APs98, kPs98, ASs98, kSs98, APs99, kPs99, ASs99, kSs99, g15⟩ w39 ⟨B, F2, F3, F6, F10, F15, L15, N2_15, N3_15, N6_15, N10_15, RPs32, RSs32, RP18, RS18, RPs99, RSs99, DPs32_Ps99, DSs32_Ps99, DP18_Ps99, DS18_Ps99, DPs32_Ss99, DSs32_Ss99, DP18_Ss99, DS18_Ss99⟩
      refine norm_ (a' := ?_) ?_ ?_
      rotate_left
      · simp only [putAll, Act.put, List.setIfInBounds_toArray, List.set_cons_zero, List.set_cons_succ]
        rfl
      refine done_ (done_of HT_.out (by kernel_rfl)) ?_
      clear c6_0 c6_1 c6_2 c6_3 c6_4 c6_5
      obtain ⟨c6_0, c6_1, c6_2, c6_3, c6_4, c6_5⟩ := cs6 F6
      clear c10_0 c10_1 c10_2 c10_3 c10_4 c10_5
      obtain ⟨c10_0, c10_1, c10_2, c10_3, c10_4, c10_5⟩ := cs6 F10
      obtain ⟨c15_0, c15_1, c15_2, c15_3, c15_4, c15_5⟩ := cs6 F15)
    all_goals go_wp2_with (first
      | (go_at_call 15; with_reducible refine cl (laws_eqState.M xa xb _ _ _ _ xp _ _ _ _ xs xt xc w39 (rc RPs99) (rc RPs32) (rc RSs99) (rc RSs32)) B fun w40 hb B => ?_; replace F2 := bn F2 hb; replace F3 := bn F3 hb; replace F10 := bn F10 hb; replace RP18 := rn RP18 hb; replace RS18 := rn RS18 hb; clear c10_0 c10_1 c10_2 c10_3 c10_4 c10_5; obtain ⟨c10_0, c10_1, c10_2, c10_3, c10_4, c10_5⟩ := cs6 F10; clear hb)
      | (go_at_call 33; with_reducible refine cl (laws_heldState.M xa xb _ _ xp _ _ xs xt xc 1 w40 (rc RP18) (rl2 RP18) (rc RS18) (rl2 RS18) (by assumption) (by assumption) (by assumption) (by assumption)) B fun w41 hb B => ?_; replace F2 := bn F2 hb; replace F3 := bn F3 hb; clear hb))
    all_goals try (go_ret; exact ⟨rfl, B.out⟩)
  · have HRP := Aside0.mk hrp
    have HRS := Aside0.mk hrs
    have HRQ := Aside0.mk hrq
    have HRU := Aside0.mk hru
    obtain ⟨hsa, hsb⟩ := hs
    have HSA := Aside0.mk hsa
    have HSB := Aside0.mk hsb
    clear hrp hrs hrq hru hsa hsb
    go_enter Try.func9, Try.ntmps9
    go_wp2_with (first
      | ((with_reducible refine gate_dst (N := 2) rfl ?_); refine bx ?hg (N := 2) ?hd (cs := #[.string a, .string b, .slice AP ps.length cP, .slice AS ss.length cS, .bool t, .string c]) (t := 27) ?hr B ?_; (case hd => rfl); (case hg => rfl); (case hr => first | (go_simp; done) | (go_simp; rfl)); intro g2 w1001 hb B F2 L2 E2; obtain ⟨c2_0, c2_1, c2_2, c2_3, c2_4, c2_5⟩ := cs6 F2; clear hb E2)
      | ((with_reducible refine gate_dst (N := 3) rfl ?_); refine bx ?hg (N := 3) ?hd (cs := #[.string lo, .string hi, .slice AQ pt.length cQ, .slice AU st.length cU, .bool u2, .string ct]) (t := 27) ?hr B ?_; (case hd => rfl); (case hg => rfl); (case hr => first | (go_simp; done) | (go_simp; rfl)); intro g3 w1002 hb B F3 L3 E3; replace F2 := bn F2 hb; clear c2_0 c2_1 c2_2 c2_3 c2_4 c2_5; obtain ⟨c2_0, c2_1, c2_2, c2_3, c2_4, c2_5⟩ := cs6 F2; obtain ⟨c3_0, c3_1, c3_2, c3_3, c3_4, c3_5⟩ := cs6 F3; clear hb E3)
      | (go_at_call 11; with_reducible refine cx (laws_szState.M a b _ _ ps _ _ ss t c 1048576 w1002 (cb HRP B) (cb HRS B) (by omega) HSA.out) B fun v1003 hv1003 w1003 hb B => ?_; replace F3 := bn F3 hb; clear c3_0 c3_1 c3_2 c3_3 c3_4 c3_5; obtain ⟨c3_0, c3_1, c3_2, c3_3, c3_4, c3_5⟩ := cs6 F3; clear hb)
      | (go_at_call 11; with_reducible refine cx (laws_szState.M lo hi _ _ pt _ _ st u2 ct v1003 w1003 (cb HRQ B) (cb HRU B) (by omega) HSB.out) B fun v1004 hv1004 w1004 hb B => ?_; clear hb))
    all_goals first
      | (go_ret; exact ⟨rfl, B.out⟩)
      | (exfalso; omega)
def laws_FnExactStateJoin.f (k : Nat) (a b : ByteArray) (ps : List S108) (ss : List S112) (t : Bool) (c : ByteArray) (lo hi : ByteArray) (pt : List S108) (st : List S112) (u2 : Bool) (ct : ByteArray) : Option Bool := if (a.size ≤ 9223372036854775807 ∧ b.size ≤ 9223372036854775807 ∧ c.size ≤ 9223372036854775807 ∧ ∀ y ∈ ps, y.f0.size ≤ 9223372036854775807) ∧ lo.size ≤ 9223372036854775807 ∧ hi.size ≤ 9223372036854775807 ∧ ct.size ≤ 9223372036854775807 ∧ ∀ y ∈ pt, y.f0.size ≤ 9223372036854775807 then some true else none
theorem laws_FnExactStateJoin.calls (k : Nat) (a b : ByteArray) (AP : Option Addr) (cP : Nat) (ps : List S108) (AS : Option Addr) (cS : Nat) (ss : List S112) (t : Bool) (c : ByteArray) (lo hi : ByteArray) (AQ : Option Addr) (cQ : Nat) (pt : List S108) (AU : Option Addr) (cU : Nat) (st : List S112) (u2 : Bool) (ct : ByteArray) (r : Bool) (w : World) (hrp : Kd.C k108 w AP ps.length ps) (hcp : ps.length ≤ cP) (hrs : Kd.C k112 w AS ss.length ss) (hcs : ss.length ≤ cS) (hrq : Kd.C k108 w AQ pt.length pt) (hcq : pt.length ≤ cQ) (hru : Kd.C k112 w AU st.length st) (hcu : st.length ≤ cU) (h : laws_FnExactStateJoin.f k a b ps ss t c lo hi pt st u2 ct = some r) : Calls Try.prog 9 #[.agg #[.string a, .string b, .slice AP ps.length cP, .slice AS ss.length cS, .bool t, .string c], .agg #[.string lo, .string hi, .slice AQ pt.length cQ, .slice AU st.length cU, .bool u2, .string ct]] w fun e w' => e = .returned (.bool r) ∧ Below w.heap.size w w' := by
  unfold laws_FnExactStateJoin.f at h
  split at h
  · rename_i hc
    obtain rfl := Option.some.inj h
    exact laws_FnExactStateJoin.M a b AP cP ps AS cS ss t c lo hi AQ cQ pt AU cU st u2 ct w hrp hrs hrq hru hc
  · cases h

end Go.Proofs.Ytenfiihcdhnamaa.PFnExactStateJoin
