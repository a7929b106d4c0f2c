/- Walks over models, part 2: tostate eqst markp marks markst lawFnExactStateCut. -/
import Derived.Test.YtenfiihcdhnamaaPFnExactStateCutx0
import Derived.Deep.RegionHeld3
import Derived.Lib.Strings
import Derived.Laws.BytesArg
import Derived.Test.YtenfiihcdhnamaaPFnExactStateCutx48
import Derived.Test.YtenfiihcdhnamaaPFnExactStateCutx51
import Derived.Test.YtenfiihcdhnamaaPFnExactStateCutx49
import Derived.Test.YtenfiihcdhnamaaPFnExactStateCutx52
import Derived.Test.YtenfiihcdhnamaaMFnExactStateCut0
import Derived.Test.YtenfiihcdhnamaaMFnExactStateCut1
namespace Go.Proofs.Ytenfiihcdhnamaa.PFnExactStateCut
open Go.RowKit Go.Proofs.YtenfiihcdhnamaaW.PrintWords Go.Proofs.YtenfiihcdhnamaaW.PrintLast Go.Proofs.YtenfiihcdhnamaaW.PrintMore
set_option linter.unusedVariables false
set_option linter.unusedSimpArgs false
set_option maxHeartbeats 4000000
set_option maxRecDepth 100000
attribute [local go_sem] leq_str geq_str gtr_str
theorem laws_toState.M (a b : ByteArray) (AP : Option Addr) (cP : Nat) (ps : List S108) (AS : Option Addr) (cS : Nat) (ss : List S112) (t : Bool) (c : ByteArray) (qs : List S61) (us : List S100) (w : World) (hrp : Kd.C k108 w AP ps.length ps) (hrs : Kd.C k112 w AS ss.length ss) (hl : ps.length ≤ 1048576 ∧ ss.length ≤ 1048576) (hqs : ps.map prOf = qs) (hus : ss.map sesOf = us) : Calls Try.prog 13 #[.agg #[.string a, .string b, .slice AP ps.length cP, .slice AS ss.length cS, .bool t, .string c]] w fun e w' => ∃ v2 v3, e = .returned (.agg #[.string a, .string b, v2, v3, .bool t, .string c]) ∧ Kd.R k61 61 w' w.heap.size (fun _ => True) v2 qs ∧ Kd.R k100 100 w' w.heap.size (fun _ => True) v3 us ∧ Below w.heap.size w w' := by
  have B := Aside0.mk (Below.refl w.heap.size w)
  have hu := Try.underlying34
  have hu2 := Try.underlying27
  have HRP := Aside0.mk hrp
  have HRS := Aside0.mk hrs
  have HQS := Aside0.mk hqs
  have HUS := Aside0.mk hus
  obtain ⟨hl1, hl2⟩ := hl
  clear hrp hrs hqs hus
  go_enter Try.func13, Try.ntmps13
  go_wp2_with (first
    | ((with_reducible refine gate_dst (N := 1) rfl ?_); refine bx ?hg (N := 1) ?hd (cs := #[.string a, .string b, .slice AP ps.length cP, .slice AS ss.length cS, .bool t, .string c]) (t := 27) ?hr B ?_; (case hd => rfl); (case hg => rfl); (case hr => first | (go_simp; done) | (go_simp; rfl)); intro g1 w1 hb B F1 L1 E1; obtain ⟨c1_0, c1_1, c1_2, c1_3, c1_4, c1_5⟩ := cs6 F1; clear hb E1)
    | ((with_reducible refine gate_dst (N := 2) rfl ?_); refine bx ?hg (N := 2) ?hd (cs := #[.string (⟨#[]⟩ : ByteArray), .string (⟨#[]⟩ : ByteArray), .slice none 0 0, .slice none 0 0, .bool false, .string (⟨#[]⟩ : ByteArray)]) (t := 34) ?hr B ?_; (case hd => rfl); (case hg => rfl); (case hr => first | (go_simp; done) | (go_simp; rfl)); intro g2 w2 hb B F2 L2 E2; have N1_2 := ne1 E2 F1; replace F1 := bn F1 hb; clear c1_0 c1_1 c1_2 c1_3 c1_4 c1_5; obtain ⟨c1_0, c1_1, c1_2, c1_3, c1_4, c1_5⟩ := cs6 F1; clear hb E2)
    | ((with_reducible refine gate_dst (N := 3) rfl ?_); refine bx ?hg (N := 3) ?hd (cs := #[.string (⟨#[]⟩ : ByteArray), .string (⟨#[]⟩ : ByteArray), .slice none 0 0, .slice none 0 0, .bool false, .string (⟨#[]⟩ : ByteArray)]) (t := 34) ?hr B ?_; (case hd => rfl); (case hg => rfl); (case hr => first | (go_simp; done) | (go_simp; rfl)); intro g3 w3 hb B F3 L3 E3; have N1_3 := ne1 E3 F1; have N2_3 := ne1 E3 F2; replace F1 := bn F1 hb; replace F2 := bn F2 hb; clear c1_0 c1_1 c1_2 c1_3 c1_4 c1_5; obtain ⟨c1_0, c1_1, c1_2, c1_3, c1_4, c1_5⟩ := cs6 F1; obtain ⟨c3_0, c3_1, c3_2, c3_3, c3_4, c3_5⟩ := cs6 F3; clear hb E3)
    | (go_at_call 52; with_reducible refine cl (laws_toInterval.M a b _) B fun w4 hb B => ?_; replace F1 := bn F1 hb; replace F2 := bn F2 hb; replace F3 := bn F3 hb; clear c1_0 c1_1 c1_2 c1_3 c1_4 c1_5; obtain ⟨c1_0, c1_1, c1_2, c1_3, c1_4, c1_5⟩ := cs6 F1; clear c3_0 c3_1 c3_2 c3_3 c3_4 c3_5; obtain ⟨c3_0, c3_1, c3_2, c3_3, c3_4, c3_5⟩ := cs6 F3; clear hb)
    | ((with_reducible refine gate_store (t := 30) (p := 7) rfl ?_); obtain ⟨y0, y1, y2, y3, y4, y5⟩ := cs6 F3; have z0 := fz F3 0; have z1 := fz F3 1; have z2 := fz F3 2; have z3 := fz F3 3; have z4 := fz F3 4; have z5 := fz F3 5; refine sx (t := 34) (t' := 30) (p := 7) (v := ?vo5) ?hg ?ho ?hn 0 [.string a, .string b] [.string a, .string b, .slice none 0 0, .slice none 0 0, .bool false, .string (⟨#[]⟩ : ByteArray)] ?hr B F3 L3 rfl (Nat.le_of_ble_eq_true rfl) ?_; (case ho => rfl); (case hg => rfl); (case hn => rfl); (case hr => first | (go_simp; done) | (go_simp; rfl)); intro w5 hk B G; replace F1 := bk F1 hk N1_3.out; replace F2 := bk F2 hk N2_3.out; replace F3 := G; clear c1_0 c1_1 c1_2 c1_3 c1_4 c1_5; obtain ⟨c1_0, c1_1, c1_2, c1_3, c1_4, c1_5⟩ := cs6 F1; clear c3_0 c3_1 c3_2 c3_3 c3_4 c3_5; obtain ⟨c3_0, c3_1, c3_2, c3_3, c3_4, c3_5⟩ := cs6 F3; clear hk y0 z0 y1 z1 y2 z2 y3 z3 y4 z4 y5 z5)
    | (go_at_call 53; with_reducible refine cr (laws_toPairS.M _ _ ps qs _ (cb HRP B) (by omega) HQS.out) B fun AP6 kP6 w6 hb B RP6 QP6 => ?_; replace F1 := bn F1 hb; replace F2 := bn F2 hb; replace F3 := bn F3 hb; clear QP6; clear c1_0 c1_1 c1_2 c1_3 c1_4 c1_5; obtain ⟨c1_0, c1_1, c1_2, c1_3, c1_4, c1_5⟩ := cs6 F1; clear c3_0 c3_1 c3_2 c3_3 c3_4 c3_5; obtain ⟨c3_0, c3_1, c3_2, c3_3, c3_4, c3_5⟩ := cs6 F3; clear hb)
    | ((with_reducible refine gate_store (t := 31) (p := 11) rfl ?_); obtain ⟨y0, y1, y2, y3, y4, y5⟩ := cs6 F3; have z0 := fz F3 0; have z1 := fz F3 1; have z2 := fz F3 2; have z3 := fz F3 3; have z4 := fz F3 4; have z5 := fz F3 5; refine sx (t := 34) (t' := 31) (p := 11) (v := ?vo7) ?hg ?ho ?hn 2 [.slice AP6 qs.length kP6] [.string a, .string b, .slice AP6 qs.length kP6, .slice none 0 0, .bool false, .string (⟨#[]⟩ : ByteArray)] ?hr B F3 L3 rfl (Nat.le_of_ble_eq_true rfl) ?_; (case ho => rfl); (case hg => rfl); (case hn => rfl); (case hr => first | (go_simp; done) | (go_simp; rfl)); intro w7 hk B G; replace F1 := bk F1 hk N1_3.out; replace F2 := bk F2 hk N2_3.out; replace RP6 := rk RP6 F3 (by decide) hk; replace F3 := G; clear c1_0 c1_1 c1_2 c1_3 c1_4 c1_5; obtain ⟨c1_0, c1_1, c1_2, c1_3, c1_4, c1_5⟩ := cs6 F1; clear c3_0 c3_1 c3_2 c3_3 c3_4 c3_5; obtain ⟨c3_0, c3_1, c3_2, c3_3, c3_4, c3_5⟩ := cs6 F3; clear hk y0 z0 y1 z1 y2 z2 y3 z3 y4 z4 y5 z5)
    | (go_at_call 54; with_reducible refine cr (laws_toSessionS.M _ _ ss us _ (cb HRS B) (by omega) HUS.out) B fun AS8 kS8 w8 hb B RS8 QS8 => ?_; replace F1 := bn F1 hb; replace F2 := bn F2 hb; replace F3 := bn F3 hb; replace RP6 := rn RP6 hb; clear QS8; clear c1_0 c1_1 c1_2 c1_3 c1_4 c1_5; obtain ⟨c1_0, c1_1, c1_2, c1_3, c1_4, c1_5⟩ := cs6 F1; clear c3_0 c3_1 c3_2 c3_3 c3_4 c3_5; obtain ⟨c3_0, c3_1, c3_2, c3_3, c3_4, c3_5⟩ := cs6 F3; clear hb)
    | ((with_reducible refine gate_store (t := 32) (p := 15) rfl ?_); obtain ⟨y0, y1, y2, y3, y4, y5⟩ := cs6 F3; have z0 := fz F3 0; have z1 := fz F3 1; have z2 := fz F3 2; have z3 := fz F3 3; have z4 := fz F3 4; have z5 := fz F3 5; refine sx (t := 34) (t' := 32) (p := 15) (v := ?vo9) ?hg ?ho ?hn 3 [.slice AS8 us.length kS8] [.string a, .string b, .slice AP6 qs.length kP6, .slice AS8 us.length kS8, .bool false, .string (⟨#[]⟩ : ByteArray)] ?hr B F3 L3 rfl (Nat.le_of_ble_eq_true rfl) ?_; (case ho => rfl); (case hg => rfl); (case hn => rfl); (case hr => first | (go_simp; done) | (go_simp; rfl)); intro w9 hk B G; replace F1 := bk F1 hk N1_3.out; replace F2 := bk F2 hk N2_3.out; replace RP6 := rk RP6 F3 (by decide) hk; replace RS8 := rk RS8 F3 (by decide) hk; replace F3 := G; clear c1_0 c1_1 c1_2 c1_3 c1_4 c1_5; obtain ⟨c1_0, c1_1, c1_2, c1_3, c1_4, c1_5⟩ := cs6 F1; clear c3_0 c3_1 c3_2 c3_3 c3_4 c3_5; obtain ⟨c3_0, c3_1, c3_2, c3_3, c3_4, c3_5⟩ := cs6 F3; clear hk y0 z0 y1 z1 y2 z2 y3 z3 y4 z4 y5 z5)
    | ((with_reducible refine gate_store (t := 4) (p := 18) rfl ?_); obtain ⟨y0, y1, y2, y3, y4, y5⟩ := cs6 F3; have z0 := fz F3 0; have z1 := fz F3 1; have z2 := fz F3 2; have z3 := fz F3 3; have z4 := fz F3 4; have z5 := fz F3 5; refine sx (t := 34) (t' := 4) (p := 18) (v := ?vo10) ?hg ?ho ?hn 4 [.bool t] [.string a, .string b, .slice AP6 qs.length kP6, .slice AS8 us.length kS8, .bool t, .string (⟨#[]⟩ : ByteArray)] ?hr B F3 L3 rfl (Nat.le_of_ble_eq_true rfl) ?_; (case ho => rfl); (case hg => rfl); (case hn => rfl); (case hr => first | (go_simp; done) | (go_simp; rfl)); intro w10 hk B G; replace F1 := bk F1 hk N1_3.out; replace F2 := bk F2 hk N2_3.out; replace RP6 := rk RP6 F3 (by decide) hk; replace RS8 := rk RS8 F3 (by decide) hk; replace F3 := G; clear c1_0 c1_1 c1_2 c1_3 c1_4 c1_5; obtain ⟨c1_0, c1_1, c1_2, c1_3, c1_4, c1_5⟩ := cs6 F1; clear c3_0 c3_1 c3_2 c3_3 c3_4 c3_5; obtain ⟨c3_0, c3_1, c3_2, c3_3, c3_4, c3_5⟩ := cs6 F3; clear hk y0 z0 y1 z1 y2 z2 y3 z3 y4 z4 y5 z5)
    | ((with_reducible refine gate_store (t := 9) (p := 21) rfl ?_); obtain ⟨y0, y1, y2, y3, y4, y5⟩ := cs6 F3; have z0 := fz F3 0; have z1 := fz F3 1; have z2 := fz F3 2; have z3 := fz F3 3; have z4 := fz F3 4; have z5 := fz F3 5; refine sx (t := 34) (t' := 9) (p := 21) (v := ?vo11) ?hg ?ho ?hn 5 [.string c] [.string a, .string b, .slice AP6 qs.length kP6, .slice AS8 us.length kS8, .bool t, .string c] ?hr B F3 L3 rfl (Nat.le_of_ble_eq_true rfl) ?_; (case ho => rfl); (case hg => rfl); (case hn => rfl); (case hr => first | (go_simp; done) | (go_simp; rfl)); intro w11 hk B G; replace F2 := bk F2 hk N2_3.out; replace RP6 := rk RP6 F3 (by decide) hk; replace RS8 := rk RS8 F3 (by decide) hk; replace F3 := G; clear c3_0 c3_1 c3_2 c3_3 c3_4 c3_5; obtain ⟨c3_0, c3_1, c3_2, c3_3, c3_4, c3_5⟩ := cs6 F3; clear hk y0 z0 y1 z1 y2 z2 y3 z3 y4 z4 y5 z5)
    | ((with_reducible refine gate_store (t := 34) (p := 2) rfl ?_); obtain ⟨y0, y1, y2, y3, y4, y5⟩ := cs6 F2; have z0 := fz F2 0; have z1 := fz F2 1; have z2 := fz F2 2; have z3 := fz F2 3; have z4 := fz F2 4; have z5 := fz F2 5; refine sx (t := 34) (t' := 34) (p := 2) (v := ?vo12) ?hg ?ho ?hn 0 [.string a, .string b, .slice AP6 qs.length kP6, .slice AS8 us.length kS8, .bool t, .string c] [.string a, .string b, .slice AP6 qs.length kP6, .slice AS8 us.length kS8, .bool t, .string c] ?hr B F2 L2 rfl (Nat.le_of_ble_eq_true rfl) ?_; (case ho => rfl); (case hg => rfl); (case hn => rfl); (case hr => first | (go_simp; done) | (go_simp; rfl)); intro w12 hk B G; replace RP6 := rk RP6 F2 (by decide) hk; replace RS8 := rk RS8 F2 (by decide) hk; replace F2 := G; clear hk y0 z0 y1 z1 y2 z2 y3 z3 y4 z4 y5 z5))
  refine bodyPost_ret (results_single rfl (.cell g2 34 _ (0, 0) _ rfl F2.out hu rfl (by kernel_rfl) .nil)) rfl ?_
  exact ⟨_, _, rfl, RP6.out, RS8.out, B.out⟩

theorem laws_eqInterval.M (x0 : ByteArray) (x1 : ByteArray) (w : World) : Calls Try.prog 60 #[.agg #[.string x0, .string x1], .agg #[.string x0, .string x1]] w fun e w' => e = .returned (.bool true) ∧ Below w.heap.size w w' := by
  have B := Aside0.mk (Below.refl w.heap.size w)
  have hu := Try.underlying30
  go_enter Try.func60, Try.ntmps60
  go_wp2_with (first
    | ((with_reducible refine gate_dst (N := 2) rfl ?_); refine bx ?hg (N := 2) ?hd (cs := #[.string x0, .string x1]) (t := 30) ?hr B ?_; (case hd => rfl); (case hg => rfl); (case hr => first | (go_simp; done) | (go_simp; rfl)); intro g2 w1 hb B F2 L2 E2; obtain ⟨c2_0, c2_1⟩ := cs2 F2; clear hb E2)
    | ((with_reducible refine gate_dst (N := 3) rfl ?_); refine bx ?hg (N := 3) ?hd (cs := #[.string x0, .string x1]) (t := 30) ?hr B ?_; (case hd => rfl); (case hg => rfl); (case hr => first | (go_simp; done) | (go_simp; rfl)); intro g3 w2 hb B F3 L3 E3; replace F2 := bn F2 hb; clear c2_0 c2_1; obtain ⟨c2_0, c2_1⟩ := cs2 F2; obtain ⟨c3_0, c3_1⟩ := cs2 F3; clear hb E3))
  all_goals go_ret
  all_goals (refine ⟨?_, B.out⟩; first | rfl | simp_all)
theorem laws_eqPair.M (x0 : ByteArray) (x1 : Int) (w : World) : Calls Try.prog 67 #[.agg #[.string x0, .int .i64 (x1)], .agg #[.string x0, .int .i64 (x1)]] w fun e w' => e = .returned (.bool true) ∧ Below w.heap.size w w' := by
  have B := Aside0.mk (Below.refl w.heap.size w)
  have hu := Try.underlying61
  go_enter Try.func67, Try.ntmps67
  go_wp2_with (first
    | ((with_reducible refine gate_dst (N := 2) rfl ?_); refine bx ?hg (N := 2) ?hd (cs := #[.string x0, .int .i64 (x1)]) (t := 61) ?hr B ?_; (case hd => rfl); (case hg => rfl); (case hr => first | (go_simp; done) | (go_simp; rfl)); intro g2 w1 hb B F2 L2 E2; obtain ⟨c2_0, c2_1⟩ := cs2 F2; clear hb E2)
    | ((with_reducible refine gate_dst (N := 3) rfl ?_); refine bx ?hg (N := 3) ?hd (cs := #[.string x0, .int .i64 (x1)]) (t := 61) ?hr B ?_; (case hd => rfl); (case hg => rfl); (case hr => first | (go_simp; done) | (go_simp; rfl)); intro g3 w2 hb B F3 L3 E3; replace F2 := bn F2 hb; clear c2_0 c2_1; obtain ⟨c2_0, c2_1⟩ := cs2 F2; obtain ⟨c3_0, c3_1⟩ := cs2 F3; clear hb E3))
  all_goals go_ret
  all_goals (refine ⟨?_, B.out⟩; first | rfl | simp_all)
def laws_eqPairS.T6 : Bool × List (List Nat × List Nat) := (true, [([], []), ([], []), ([0, 1], [0, 1]), ([2], [2]), ([], []), ([], []), ([4, 5], [4, 5]), ([6], [6]), ([3, 7], [3, 7]), ([8], [8])])
def laws_eqPairS.B6 : List Nat := [0, 0, 3, 7, 0, 0, 48, 112, 255, 511]
theorem laws_eqPairS.tab6 : rtab .any (opsOf Try.f22 6) = laws_eqPairS.T6 := by kernel_rfl
theorem laws_eqPairS.bits6 : waitsOk laws_eqPairS.T6.2 laws_eqPairS.B6 = true := by kernel_rfl
theorem laws_eqPairS.M (A0 : Option Addr) (c0 : Nat) (A1 : Option Addr) (c1 : Nat) (l : List S61) (w : World) (hr0 : Kd.C k61 w A0 l.length l) (hr1 : Kd.C k61 w A1 l.length l) : Calls Try.prog 22 #[.slice A0 l.length c0, .slice A1 l.length c1] w fun e w' => e = .returned (.bool true) ∧ Below w.heap.size w w' := by
  have B := Aside0.mk (Below.refl w.heap.size w)
  have hu := Try.underlying61
  have HR0 := Aside0.mk hr0
  have HR1 := Aside0.mk hr1
  have L48 := Aside0.mk hr0.2.1
  clear hr0 hr1
  go_enter Try.func22, Try.ntmps22
  go_wp2
  go_loopg [5] (l.length + 1) (fun kx v5 wr => ∃ j : Nat, v5 = .int .i64 (j : Int) ∧ j ≤ l.length ∧ l.length < j + kx ∧ Aside0 (Below w.heap.size w wr))
  case atStart => exact ⟨0, rfl, by omega, by omega, B⟩
  case round =>
    clear B
    obtain ⟨j, rfl, hj, hk, B⟩ := hrel
    have h48 := L48.out
    by_cases hlt : j < l.length
    · obtain ⟨d, rfl⟩ : ∃ d, gk = d + 1 := ⟨gk - 1, by omega⟩
      have cj : decide ((j : Int) < (l.length : Int)) = true := decide_eq_true (by omega)
      obtain ⟨ad, hA, _⟩ := at_T61 (cb HR0 B) (j : Int) (by omega) (by omega)
      cases hA
      obtain ⟨bd, hA, _⟩ := at_T61 (cb HR1 B) (j : Int) (by omega) (by omega)
      cases hA
      have j1 := eq_true (show (j : Int) < (l.length : Int) by omega)
      have j2 := eq_true hlt
      generalize hy : rd_T61 l (j : Int) = y
      try go_wp2
      all_goals (
        refine rg (n := 10) (S := fun W => Kd.C k61 W (some ad) l.length l ∧ Kd.C k61 W (some bd) l.length l) (ds := []) #[false, false, false, false, false, false, false, false, false, false] (by kernel_rfl) rfl rfl ⟨(cb HR0 B), (cb HR1 B)⟩ id B (fun w1 hb B hHeld => ?_)
        refine with_tabW laws_eqPairS.tab6 laws_eqPairS.bits6 (fun HT_ HW_ => ?_)
        clear hb
        refine pu (i := 0) (N := some 17) (v := ?_) (bits 10 1) rfl rfl (any_of HT_.out (by kernel_rfl)) (fun _ _ _ h => h) (by kernel_rfl) ?_ ?_; rotate_left; (intro w'; go_simp; with_reducible rfl)
        refine pu (i := 1) (N := some 18) (v := ?_) (bits 10 3) rfl rfl (any_of HT_.out (by kernel_rfl)) (fun _ _ _ h => h) (by kernel_rfl) ?_ ?_; rotate_left; (intro w'; go_simp; with_reducible rfl)
        refine pu (i := 2) (N := some 19) (v := ?_) (bits 10 7) rfl rfl (any_of HT_.out (by kernel_rfl)) (fun _ _ _ h => h) (by kernel_rfl) ?_ ?_; rotate_left; (intro w'; go_simp; with_reducible rfl)
        refine ta (i := 3) (N := some 20) (v := ?_) (bits 10 15) rfl rfl (take_ofW HT_.out HW_.out (by kernel_rfl)) (fun _ _ _ h => h) (by kernel_rfl) hHeld ?_ ?_; rotate_left; (intro w' hS; obtain ⟨s0, s1⟩ := hS; obtain ⟨_, hA, q0, q1⟩ := at_T61 s0 (j : Int) (by omega) (by omega); cases hA; rw [Int.toNat_natCast] at q0 q1; rw [hy] at q0 q1; go_simp; with_reducible rfl)
        refine pu (i := 4) (N := some 21) (v := ?_) (bits 10 31) rfl rfl (any_of HT_.out (by kernel_rfl)) (fun _ _ _ h => h) (by kernel_rfl) ?_ ?_; rotate_left; (intro w'; go_simp; with_reducible rfl)
        refine pu (i := 5) (N := some 22) (v := ?_) (bits 10 63) rfl rfl (any_of HT_.out (by kernel_rfl)) (fun _ _ _ h => h) (by kernel_rfl) ?_ ?_; rotate_left; (intro w'; go_simp; with_reducible rfl)
        refine pu (i := 6) (N := some 23) (v := ?_) (bits 10 127) rfl rfl (any_of HT_.out (by kernel_rfl)) (fun _ _ _ h => h) (by kernel_rfl) ?_ ?_; rotate_left; (intro w'; go_simp; with_reducible rfl)
        refine ta (i := 7) (N := some 24) (v := ?_) (bits 10 255) rfl rfl (take_ofW HT_.out HW_.out (by kernel_rfl)) (fun _ _ _ h => h) (by kernel_rfl) hHeld ?_ ?_; rotate_left; (intro w' hS; obtain ⟨s0, s1⟩ := hS; obtain ⟨_, hA, q0, q1⟩ := at_T61 s1 (j : Int) (by omega) (by omega); cases hA; rw [Int.toNat_natCast] at q0 q1; rw [hy] at q0 q1; go_simp; with_reducible rfl)
        refine norm_ (a' := ?_) ?_ ?_
        rotate_left
        · simp only [Act.put, List.setIfInBounds_toArray, List.set_cons_zero, List.set_cons_succ, i64_w, i32_w]
          rfl
        refine one_ (i := 8) (N := some 25) (bits 10 511) rfl rfl (one_of HT_.out (by kernel_rfl)) (by decide) (fun K hK => ?_)
        refine goes_ Try.func67 (by kernel_rfl) rfl #[.agg #[.string y.f0, .int .i64 (y.f1)], .agg #[.string y.f0, .int .i64 (y.f1)]] (by rfl) rfl rfl (by (try simp only [List.map_toArray, List.map_cons, List.map_nil]); rfl) ?_
        with_reducible refine cl (laws_eqPair.M y.f0 y.f1 _) B fun w2 hb B => ?_
        clear hb
        refine ⟨_, rfl, ?_⟩
        refine hK.out _ _ ⟨(cb HR0 B), (cb HR1 B)⟩ (fun hHeld => ?_)
        clear hK K
        refine norm_ (a' := ?_) ?_ ?_
        rotate_left
        · show Act.put _ (some 25) _ = _
          simp only [Act.put, List.setIfInBounds_toArray, List.set_cons_zero, List.set_cons_succ, i64_w, i32_w]
          rfl
        refine pu (i := 9) (N := some 26) (v := ?_) (bits 10 1023) rfl rfl (any_of HT_.out (by kernel_rfl)) (fun _ _ _ h => h) (by kernel_rfl) ?_ ?_; rotate_left; (intro w'; go_simp; with_reducible rfl)
        refine norm_ (a' := ?_) ?_ ?_
        rotate_left
        · simp only [Act.put, List.setIfInBounds_toArray, List.set_cons_zero, List.set_cons_succ, i64_w, i32_w]
          rfl
        refine done_ (done_of HT_.out (by kernel_rfl)) ?_
        try go_wp2
        go_roundg d
        case measure => omega
        case rel => exact ⟨j + 1, congrArg (Value.int .i64) (Int.natCast_succ _).symm, by omega, by omega, B⟩)
      all_goals try go_wp2
    · have cj : decide ((j : Int) < (l.length : Int)) = false := decide_eq_false (by omega)
      go_wp2
      go_ret
      exact ⟨rfl, B.out⟩
theorem laws_eqSession.M (x0 : Int) (x1 : Int) (x2 : Int) (w : World) : Calls Try.prog 96 #[.agg #[.int .i64 (x0), .int .i64 (x1), .int .i64 (x2)], .agg #[.int .i64 (x0), .int .i64 (x1), .int .i64 (x2)]] w fun e w' => e = .returned (.bool true) ∧ Below w.heap.size w w' := by
  have B := Aside0.mk (Below.refl w.heap.size w)
  have hu := Try.underlying100
  go_enter Try.func96, Try.ntmps96
  go_wp2_with (first
    | ((with_reducible refine gate_dst (N := 2) rfl ?_); refine bx ?hg (N := 2) ?hd (cs := #[.int .i64 (x0), .int .i64 (x1), .int .i64 (x2)]) (t := 100) ?hr B ?_; (case hd => rfl); (case hg => rfl); (case hr => first | (go_simp; done) | (go_simp; rfl)); intro g2 w1 hb B F2 L2 E2; obtain ⟨c2_0, c2_1, c2_2⟩ := cs3 F2; clear hb E2)
    | ((with_reducible refine gate_dst (N := 3) rfl ?_); refine bx ?hg (N := 3) ?hd (cs := #[.int .i64 (x0), .int .i64 (x1), .int .i64 (x2)]) (t := 100) ?hr B ?_; (case hd => rfl); (case hg => rfl); (case hr => first | (go_simp; done) | (go_simp; rfl)); intro g3 w2 hb B F3 L3 E3; replace F2 := bn F2 hb; clear c2_0 c2_1 c2_2; obtain ⟨c2_0, c2_1, c2_2⟩ := cs3 F2; obtain ⟨c3_0, c3_1, c3_2⟩ := cs3 F3; clear hb E3))
  all_goals go_ret
  all_goals (refine ⟨?_, B.out⟩; first | rfl | simp_all)
def laws_eqSessionS.T6 : Bool × List (List Nat × List Nat) := (true, [([], []), ([], []), ([0, 1], [0, 1]), ([2], [2]), ([], []), ([], []), ([4, 5], [4, 5]), ([6], [6]), ([3, 7], [3, 7]), ([8], [8])])
def laws_eqSessionS.B6 : List Nat := [0, 0, 3, 7, 0, 0, 48, 112, 255, 511]
theorem laws_eqSessionS.tab6 : rtab .any (opsOf Try.f61 6) = laws_eqSessionS.T6 := by kernel_rfl
theorem laws_eqSessionS.bits6 : waitsOk laws_eqSessionS.T6.2 laws_eqSessionS.B6 = true := by kernel_rfl
theorem laws_eqSessionS.M (A0 : Option Addr) (c0 : Nat) (A1 : Option Addr) (c1 : Nat) (l : List S100) (w : World) (hr0 : Kd.C k100 w A0 l.length l) (hr1 : Kd.C k100 w A1 l.length l) : Calls Try.prog 61 #[.slice A0 l.length c0, .slice A1 l.length c1] w fun e w' => e = .returned (.bool true) ∧ Below w.heap.size w w' := by
  have B := Aside0.mk (Below.refl w.heap.size w)
  have hu := Try.underlying100
  have HR0 := Aside0.mk hr0
  have HR1 := Aside0.mk hr1
  have L48 := Aside0.mk hr0.2.1
  clear hr0 hr1
  go_enter Try.func61, Try.ntmps61
  go_wp2
  go_loopg [5] (l.length + 1) (fun kx v5 wr => ∃ j : Nat, v5 = .int .i64 (j : Int) ∧ j ≤ l.length ∧ l.length < j + kx ∧ Aside0 (Below w.heap.size w wr))
  case atStart => exact ⟨0, rfl, by omega, by omega, B⟩
  case round =>
    clear B
    obtain ⟨j, rfl, hj, hk, B⟩ := hrel
    have h48 := L48.out
    by_cases hlt : j < l.length
    · obtain ⟨d, rfl⟩ : ∃ d, gk = d + 1 := ⟨gk - 1, by omega⟩
      have cj : decide ((j : Int) < (l.length : Int)) = true := decide_eq_true (by omega)
      obtain ⟨ad, hA, _⟩ := at_T100 (cb HR0 B) (j : Int) (by omega) (by omega)
      cases hA
      obtain ⟨bd, hA, _⟩ := at_T100 (cb HR1 B) (j : Int) (by omega) (by omega)
      cases hA
      have j1 := eq_true (show (j : Int) < (l.length : Int) by omega)
      have j2 := eq_true hlt
      generalize hy : rd_T100 l (j : Int) = y
      try go_wp2
      all_goals (
        refine rg (n := 10) (S := fun W => Kd.C k100 W (some ad) l.length l ∧ Kd.C k100 W (some bd) l.length l) (ds := []) #[false, false, false, false, false, false, false, false, false, false] (by kernel_rfl) rfl rfl ⟨(cb HR0 B), (cb HR1 B)⟩ id B (fun w1 hb B hHeld => ?_)
        refine with_tabW laws_eqSessionS.tab6 laws_eqSessionS.bits6 (fun HT_ HW_ => ?_)
        clear hb
        refine pu (i := 0) (N := some 17) (v := ?_) (bits 10 1) rfl rfl (any_of HT_.out (by kernel_rfl)) (fun _ _ _ h => h) (by kernel_rfl) ?_ ?_; rotate_left; (intro w'; go_simp; with_reducible rfl)
        refine pu (i := 1) (N := some 18) (v := ?_) (bits 10 3) rfl rfl (any_of HT_.out (by kernel_rfl)) (fun _ _ _ h => h) (by kernel_rfl) ?_ ?_; rotate_left; (intro w'; go_simp; with_reducible rfl)
        refine pu (i := 2) (N := some 19) (v := ?_) (bits 10 7) rfl rfl (any_of HT_.out (by kernel_rfl)) (fun _ _ _ h => h) (by kernel_rfl) ?_ ?_; rotate_left; (intro w'; go_simp; with_reducible rfl)
        refine ta (i := 3) (N := some 20) (v := ?_) (bits 10 15) rfl rfl (take_ofW HT_.out HW_.out (by kernel_rfl)) (fun _ _ _ h => h) (by kernel_rfl) hHeld ?_ ?_; rotate_left; (intro w' hS; obtain ⟨s0, s1⟩ := hS; obtain ⟨_, hA, q0, q1, q2⟩ := at_T100 s0 (j : Int) (by omega) (by omega); cases hA; rw [Int.toNat_natCast] at q0 q1 q2; rw [hy] at q0 q1 q2; go_simp; with_reducible rfl)
        refine pu (i := 4) (N := some 21) (v := ?_) (bits 10 31) rfl rfl (any_of HT_.out (by kernel_rfl)) (fun _ _ _ h => h) (by kernel_rfl) ?_ ?_; rotate_left; (intro w'; go_simp; with_reducible rfl)
        refine pu (i := 5) (N := some 22) (v := ?_) (bits 10 63) rfl rfl (any_of HT_.out (by kernel_rfl)) (fun _ _ _ h => h) (by kernel_rfl) ?_ ?_; rotate_left; (intro w'; go_simp; with_reducible rfl)
        refine pu (i := 6) (N := some 23) (v := ?_) (bits 10 127) rfl rfl (any_of HT_.out (by kernel_rfl)) (fun _ _ _ h => h) (by kernel_rfl) ?_ ?_; rotate_left; (intro w'; go_simp; with_reducible rfl)
        refine ta (i := 7) (N := some 24) (v := ?_) (bits 10 255) rfl rfl (take_ofW HT_.out HW_.out (by kernel_rfl)) (fun _ _ _ h => h) (by kernel_rfl) hHeld ?_ ?_; rotate_left; (intro w' hS; obtain ⟨s0, s1⟩ := hS; obtain ⟨_, hA, q0, q1, q2⟩ := at_T100 s1 (j : Int) (by omega) (by omega); cases hA; rw [Int.toNat_natCast] at q0 q1 q2; rw [hy] at q0 q1 q2; go_simp; with_reducible rfl)
        refine norm_ (a' := ?_) ?_ ?_
        rotate_left
        · simp only [Act.put, List.setIfInBounds_toArray, List.set_cons_zero, List.set_cons_succ, i64_w, i32_w]
          rfl
        refine one_ (i := 8) (N := some 25) (bits 10 511) rfl rfl (one_of HT_.out (by kernel_rfl)) (by decide) (fun K hK => ?_)
        refine goes_ Try.func96 (by kernel_rfl) rfl #[.agg #[.int .i64 (y.f0), .int .i64 (y.f1), .int .i64 (y.f2)], .agg #[.int .i64 (y.f0), .int .i64 (y.f1), .int .i64 (y.f2)]] (by rfl) rfl rfl (by (try simp only [List.map_toArray, List.map_cons, List.map_nil]); rfl) ?_
        with_reducible refine cl (laws_eqSession.M y.f0 y.f1 y.f2 _) B fun w2 hb B => ?_
        clear hb
        refine ⟨_, rfl, ?_⟩
        refine hK.out _ _ ⟨(cb HR0 B), (cb HR1 B)⟩ (fun hHeld => ?_)
        clear hK K
        refine norm_ (a' := ?_) ?_ ?_
        rotate_left
        · show Act.put _ (some 25) _ = _
          simp only [Act.put, List.setIfInBounds_toArray, List.set_cons_zero, List.set_cons_succ, i64_w, i32_w]
          rfl
        refine pu (i := 9) (N := some 26) (v := ?_) (bits 10 1023) rfl rfl (any_of HT_.out (by kernel_rfl)) (fun _ _ _ h => h) (by kernel_rfl) ?_ ?_; rotate_left; (intro w'; go_simp; with_reducible rfl)
        refine norm_ (a' := ?_) ?_ ?_
        rotate_left
        · simp only [Act.put, List.setIfInBounds_toArray, List.set_cons_zero, List.set_cons_succ, i64_w, i32_w]
          rfl
        refine done_ (done_of HT_.out (by kernel_rfl)) ?_
        try go_wp2
        go_roundg d
        case measure => omega
        case rel => exact ⟨j + 1, congrArg (Value.int .i64) (Int.natCast_succ _).symm, by omega, by omega, B⟩)
      all_goals try go_wp2
    · have cj : decide ((j : Int) < (l.length : Int)) = false := decide_eq_false (by omega)
      go_wp2
      go_ret
      exact ⟨rfl, B.out⟩
theorem laws_eqState.M (a b : ByteArray) (AP : Option Addr) (cP : Nat) (AQ : Option Addr) (cQ : Nat) (ps : List S61) (AS : Option Addr) (cS : Nat) (AU : Option Addr) (cU : Nat) (ss : List S100) (t : Bool) (c : ByteArray) (w : World) (hrp : Kd.C k61 w AP ps.length ps) (hrq : Kd.C k61 w AQ ps.length ps) (hrs : Kd.C k100 w AS ss.length ss) (hru : Kd.C k100 w AU ss.length ss) : Calls Try.prog 15 #[.agg #[.string a, .string b, .slice AP ps.length cP, .slice AS ss.length cS, .bool t, .string c], .agg #[.string a, .string b, .slice AQ ps.length cQ, .slice AU ss.length cU, .bool t, .string c]] w fun e w' => e = .returned (.bool true) ∧ Below w.heap.size w w' := by
  have B := Aside0.mk (Below.refl w.heap.size w)
  have hu := Try.underlying34
  have HRP := Aside0.mk hrp
  have HRQ := Aside0.mk hrq
  have HRS := Aside0.mk hrs
  have HRU := Aside0.mk hru
  clear hrp hrq hrs hru
  go_enter Try.func15, Try.ntmps15
  go_wp2_with (first
    | ((with_reducible refine gate_dst (N := 2) rfl ?_); refine bx ?hg (N := 2) ?hd (cs := #[.string a, .string b, .slice AP ps.length cP, .slice AS ss.length cS, .bool t, .string c]) (t := 34) ?hr B ?_; (case hd => rfl); (case hg => rfl); (case hr => first | (go_simp; done) | (go_simp; rfl)); intro g2 w1 hb B F2 L2 E2; obtain ⟨c2_0, c2_1, c2_2, c2_3, c2_4, c2_5⟩ := cs6 F2; clear hb E2)
    | ((with_reducible refine gate_dst (N := 3) rfl ?_); refine bx ?hg (N := 3) ?hd (cs := #[.string a, .string b, .slice AQ ps.length cQ, .slice AU ss.length cU, .bool t, .string c]) (t := 34) ?hr B ?_; (case hd => rfl); (case hg => rfl); (case hr => first | (go_simp; done) | (go_simp; rfl)); intro g3 w2 hb B F3 L3 E3; replace F2 := bn F2 hb; clear c2_0 c2_1 c2_2 c2_3 c2_4 c2_5; obtain ⟨c2_0, c2_1, c2_2, c2_3, c2_4, c2_5⟩ := cs6 F2; obtain ⟨c3_0, c3_1, c3_2, c3_3, c3_4, c3_5⟩ := cs6 F3; clear hb E3)
    | (go_at_call 60; with_reducible refine cl (laws_eqInterval.M a b _) B fun w3 hb B => ?_; replace F2 := bn F2 hb; replace F3 := bn F3 hb; clear c2_0 c2_1 c2_2 c2_3 c2_4 c2_5; obtain ⟨c2_0, c2_1, c2_2, c2_3, c2_4, c2_5⟩ := cs6 F2; clear c3_0 c3_1 c3_2 c3_3 c3_4 c3_5; obtain ⟨c3_0, c3_1, c3_2, c3_3, c3_4, c3_5⟩ := cs6 F3; clear hb)
    | (go_at_call 22; with_reducible refine cl (laws_eqPairS.M _ _ _ _ ps _ (cb HRP B) (cb HRQ B)) B fun w4 hb B => ?_; replace F2 := bn F2 hb; replace F3 := bn F3 hb; clear c2_0 c2_1 c2_2 c2_3 c2_4 c2_5; obtain ⟨c2_0, c2_1, c2_2, c2_3, c2_4, c2_5⟩ := cs6 F2; clear c3_0 c3_1 c3_2 c3_3 c3_4 c3_5; obtain ⟨c3_0, c3_1, c3_2, c3_3, c3_4, c3_5⟩ := cs6 F3; clear hb)
    | (go_at_call 61; with_reducible refine cl (laws_eqSessionS.M _ _ _ _ ss _ (cb HRS B) (cb HRU B)) B fun w5 hb B => ?_; replace F2 := bn F2 hb; replace F3 := bn F3 hb; clear c2_0 c2_1 c2_2 c2_3 c2_4 c2_5; obtain ⟨c2_0, c2_1, c2_2, c2_3, c2_4, c2_5⟩ := cs6 F2; clear c3_0 c3_1 c3_2 c3_3 c3_4 c3_5; obtain ⟨c3_0, c3_1, c3_2, c3_3, c3_4, c3_5⟩ := cs6 F3; clear hb))
  all_goals go_ret
  all_goals (refine ⟨?_, B.out⟩; first | rfl | simp_all)

/-! Marks: what is written into a list of pairs is found there. -/
theorem mtx_loop (d : Nat) : ∀ (a : Int) (x : ByteArray), 0 ≤ a → a ≤ 1000000000000000000 → a < 10 ^ d → x.size + d ≤ 1000 → ∃ r, ∀ j, d + 1 ≤ j → laws_markText.l0 j a x = some r := by
  induction d with
  | zero =>
    intro a x h0 hb h1 hx
    refine ⟨(⟨#[109]⟩ : ByteArray) ++ x, fun j hj => ?_⟩
    obtain ⟨i, rfl⟩ : ∃ i, j = i + 1 := ⟨j - 1, by omega⟩
    simp only [laws_markText.l0]
    rw [if_neg (by simp at h1; omega), if_pos (by omega)]
  | succ d ih =>
    intro a x h0 hb h1 hx
    by_cases hp : a > 0
    · have hq : wrap64 (Int.tdiv a 10) = a / 10 := by rw [Int.tdiv_eq_ediv_of_nonneg h0]; exact w64 (by omega) (by omega)
      obtain ⟨r, hr⟩ := ih (a / 10) (strOfNums ([(wrap64 (48 + (Int.tmod a 10))) % 256] : List Int) ++ x) (by omega) (by omega) (by rw [Int.pow_succ] at h1; omega) (by rw [ByteArray.size_append, strOfNums_size]; simp only [List.length_cons, List.length_nil]; omega)
      refine ⟨r, fun j hj => ?_⟩
      obtain ⟨i, rfl⟩ : ∃ i, j = i + 1 := ⟨j - 1, by omega⟩
      simp only [laws_markText.l0, Option.bind_some]
      rw [if_pos hp, if_pos (by rw [strOfNums_size]; simp only [List.length_cons, List.length_nil]; omega), hq]
      exact hr i (by omega)
    · refine ⟨(⟨#[109]⟩ : ByteArray) ++ x, fun j hj => ?_⟩
      obtain ⟨i, rfl⟩ : ∃ i, j = i + 1 := ⟨j - 1, by omega⟩
      simp only [laws_markText.l0]
      rw [if_neg hp, if_pos (by omega)]
def mtx (a : Int) : ByteArray := (laws_markText.f 20 a).getD ⟨#[]⟩
theorem mtx_ok (a : Int) (hb : a ≤ 100000000000000000) (k : Nat) (hk : 20 ≤ k) : laws_markText.f k a = some (mtx a) := by
  unfold mtx laws_markText.f
  by_cases h : a ≤ 0
  · simp only [if_pos h, Option.getD_some]
  · simp only [if_neg h]
    obtain ⟨r, hr⟩ := mtx_loop 19 a ⟨#[]⟩ (by omega) (by omega) (by omega) (by decide)
    rw [hr k (by omega), hr 20 (by omega)]
    rfl
def mkPr (q : Int) : S61 := ⟨mtx q, q + 1⟩
def prTo (n : Nat) (q : Int) : List S61 := (List.range n).map fun (i : Nat) => mkPr (q + 2 * (i : Int))
theorem prTo_length (n : Nat) (q : Int) : (prTo n q).length = n := by simp [prTo]
theorem rdp_nat {l : List S61} {j : Nat} (h : j < l.length) : rd_T61 l (j : Int) = l[j] := by
  simp [rd_T61, List.getD_eq_getElem?_getD, List.getElem?_eq_getElem h]
theorem rdp_set {l : List S61} {j : Nat} (h : j < l.length) (x : S61) : rd_T61 (l.set j x) (j : Int) = x := by
  rw [rdp_nat (by simpa using h)]
  simp
theorem markP_loop (n : Nat) (hn : n ≤ 2097152) (q : Int) (h0 : 0 ≤ q) (h1 : q ≤ 1099511627776) (d : Nat) : ∀ (j : Nat) (xs : List S61), j + d = n → xs.length = n → xs.take j = (prTo n q).take j →
    ∀ k, d + 21 ≤ k → laws_markPairS.l0 k xs (q + 2 * (j : Int)) (j : Int) = some (q + 2 * (n : Int), prTo n q) := by
  induction d with
  | zero =>
    intro j xs hj hl ht k hk
    obtain ⟨k, rfl⟩ : ∃ i, k = i + 1 := ⟨k - 1, by omega⟩
    simp only [laws_markPairS.l0]
    rw [if_neg (by omega)]
    rw [List.take_of_length_le (by omega), List.take_of_length_le (by rw [prTo_length]; omega)] at ht
    rw [ht, show j = n by omega]
  | succ d ih =>
    intro j xs hj hl ht k hk
    obtain ⟨k, rfl⟩ : ∃ i, k = i + 1 := ⟨k - 1, by omega⟩
    have e := ih (j + 1) (xs.set j (mkPr (q + 2 * (j : Int)))) (by omega) (by simpa using hl) (by
      rw [List.take_succ_eq_append_getElem (by simp; omega), List.take_succ_eq_append_getElem (by rw [prTo_length]; omega), ← ht]
      simp [List.take_set_of_le, prTo]) k (by omega)
    simp only [laws_markPairS.l0]
    rw [if_pos (by omega), mtx_ok _ (by omega) k (by omega)]
    simp only [Option.bind_some, Int.toNat_natCast]
    rw [if_pos (by omega), w64 (x := q + 2 * (j : Int) + 1) (by omega) (by omega), w64 (x := q + 2 * (j : Int) + 1 + 1) (by omega) (by omega), w64 (x := (j : Int) + 1) (by omega) (by omega)]
    rw [rdp_set (by omega)]
    simp only [List.set_set]
    rw [show q + 2 * (j : Int) + 1 + 1 = q + 2 * ((j + 1 : Nat) : Int) by omega]
    exact e
theorem markP (xs : List S61) (hn : xs.length ≤ 2097152) (q : Int) (h0 : 0 ≤ q) (h1 : q ≤ 1099511627776) : laws_markPairS.f (xs.length + 21) xs q = some (q + 2 * (xs.length : Int), prTo xs.length q) := by
  have e := markP_loop xs.length hn q h0 h1 xs.length 0 xs (by omega) rfl (by simp) (xs.length + 21) (by omega)
  unfold laws_markPairS.f
  simpa using e
theorem heldP_loop (n : Nat) (hn : n ≤ 2097152) (q : Int) (h0 : 0 ≤ q) (h1 : q ≤ 1099511627776) (d : Nat) : ∀ (j : Nat), j + d = n →
    ∀ k, d + 21 ≤ k → laws_heldPairS.l0 k (prTo n q) (q + 2 * (j : Int)) (j : Int) = some (q + 2 * (n : Int)) := by
  induction d with
  | zero =>
    intro j hj k hk
    obtain ⟨k, rfl⟩ : ∃ i, k = i + 1 := ⟨k - 1, by omega⟩
    simp only [laws_heldPairS.l0]
    rw [if_neg (by rw [prTo_length]; omega), show j = n by omega]
  | succ d ih =>
    intro j hj k hk
    obtain ⟨k, rfl⟩ : ∃ i, k = i + 1 := ⟨k - 1, by omega⟩
    have e := ih (j + 1) (by omega) k (by omega)
    have hx : rd_T61 (prTo n q) (j : Int) = mkPr (q + 2 * (j : Int)) := by
      rw [rdp_nat (by rw [prTo_length]; omega)]
      simp [prTo]
    simp only [laws_heldPairS.l0]
    rw [if_pos (by rw [prTo_length]; omega), if_pos (by omega), mtx_ok _ (by omega) k (by omega)]
    simp only [Option.bind_some]
    rw [hx, w64 (x := q + 2 * (j : Int) + 1) (by omega) (by omega), w64 (x := q + 2 * (j : Int) + 1 + 1) (by omega) (by omega), w64 (x := (j : Int) + 1) (by omega) (by omega)]
    rw [if_pos (show (mkPr (q + 2 * (j : Int))).f0.toList = (mtx (q + 2 * (j : Int))).toList from rfl), if_pos (show (mkPr (q + 2 * (j : Int))).f1 = q + 2 * (j : Int) + 1 from rfl)]
    rw [show q + 2 * (j : Int) + 1 + 1 = q + 2 * ((j + 1 : Nat) : Int) by omega]
    exact e
theorem heldP (n : Nat) (hn : n ≤ 2097152) (q : Int) (h0 : 0 ≤ q) (h1 : q ≤ 1099511627776) : laws_heldPairS.f (n + 21) (prTo n q) q = some (q + 2 * (n : Int)) := by
  have e := heldP_loop n hn q h0 h1 n 0 (by omega) (n + 21) (by omega)
  unfold laws_heldPairS.f
  simpa using e
theorem cm {P : Program} {F : FuncId} {args : Array Value} {w W : World} {Q : Ending → World → Prop} {α : Type} {d : Kd α} {t : Nat} {ys : List α} {ok S : Nat → Prop} {v u : Value} (c : Calls P F args W fun e w' => e = .returned u ∧ d.R t w' w.heap.size ok v ys ∧ Below w.heap.size w w' ∧ Kept W w' S)
    (h : ∀ W', Kept W W' S → Aside0 (Below w.heap.size w W') → Aside0 (Ow d t W' w.heap.size v ys) → Q (.returned u) W') : Calls P F args W Q :=
  c.mono (by rintro e W' ⟨rfl, hr, hb, hk⟩; exact h W' hk ⟨hb⟩ ⟨Kd.R_mono hr (fun _ _ => trivial)⟩)
theorem bkp {W W' : World} {α : Type} {d : Kd α} {e b g t : Nat} {cs : Array Value} {v : Value} {xs : List α} (F : Aside0 (W.heap[g]? = some (.cells cs t (0, 0)))) (hk : Kept W W' fun k => some k = v.ownBlock) (R : Aside0 (Ow d e W b v xs)) (ht : e ≠ t) : Aside0 (W'.heap[g]? = some (.cells cs t (0, 0))) :=
  ⟨blk_kept F.out hk (fun h => Kd.R_ne R.out F.out ht h)⟩
theorem rkp {W W' : World} {β : Type} {d' : Kd β} {e' b' : Nat} {v v' : Value} {ys : List β} (R' : Aside0 (Ow d' e' W b' v' ys)) (hE : d'.E = []) (hk : Kept W W' fun k => some k = v.ownBlock) (ne : ∀ k, v'.ownBlock = some k → v.ownBlock = some k → False) : Aside0 (Ow d' e' W' b' v' ys) :=
  ⟨Kd.R_mono (Kd.R_kept (Kd.R_tight hE R'.out) hk (fun k h1 h2 => ne k h1.symm h2.symm)) (fun _ _ => trivial)⟩
theorem laws_markPairS.M (v : Value) (l : List S61) (q : Int) (w W : World) (B : Aside0 (Below w.heap.size w W)) (R : Aside0 (Ow k61 61 W w.heap.size v l)) (hn : l.length ≤ 2097152) (h0 : 0 ≤ q) (h1 : q ≤ 1099511627776) :
    Calls Try.prog 25 #[v, .int .i64 q] W fun e w' => e = .returned (.int .i64 (q + 2 * (l.length : Int))) ∧ Kd.R k61 61 w' w.heap.size (fun k_ => (some k_ = v.ownBlock ∨ W.heap.size ≤ k_)) v (prTo l.length q) ∧ Below w.heap.size w w' ∧ Kept W w' (fun k_ => some k_ = v.ownBlock) :=
  laws_markPairS.calls (l.length + 21) (fun k => some k = v.ownBlock) v l q _ _ w W B.out (Kd.R_tight rfl R.out) (markP l hn q h0 h1)
theorem laws_heldPairS.M (A : Option Addr) (c n : Nat) (l : List S61) (q : Int) (hl : l = prTo n q) (W : World) (hr : Kd.C k61 W A l.length l) (hc : l.length ≤ c) (hn : n ≤ 2097152) (h0 : 0 ≤ q) (h1 : q ≤ 1099511627776) :
    Calls Try.prog 26 #[.slice A l.length c, .int .i64 q] W fun e w' => e = .returned (.int .i64 (q + 2 * (n : Int))) ∧ Below W.heap.size W w' :=
  laws_heldPairS.calls (n + 21) A c l q _ W hr hc (by rw [hl]; exact heldP n hn q h0 h1)
theorem laws_heldPairS.M2 (A : Option Addr) (c : Nat) (l : List S61) (q : Int) (W : World) (hr : Kd.C k61 W A (prTo l.length q).length (prTo l.length q)) (hc : (prTo l.length q).length ≤ c) (hn : l.length ≤ 2097152) (h0 : 0 ≤ q) (h1 : q ≤ 1099511627776) :
    Calls Try.prog 26 #[.slice A l.length c, .int .i64 q] W fun e w' => e = .returned (.int .i64 (q + 2 * (l.length : Int))) ∧ Below W.heap.size W w' := by
  have h := laws_heldPairS.M A c l.length (prTo l.length q) q rfl W hr hc hn h0 h1
  rwa [prTo_length] at h
theorem rl2 {α : Type} {d : Kd α} {e b n : Nat} {W : World} {A : Option Addr} {c : Nat} {xs : List α} (R : Aside0 (Ow d e W b (.slice A n c) xs)) : xs.length ≤ c := by have h := Kd.R_reads' R.out; have := h.1; have := h.2.1; omega

/-! Marks: what is written into a list of sessions is found there. -/
def mkSes (k : Int) : S100 := ⟨k, k + 1, k + 2⟩
def sesTo (n : Nat) (q : Int) : List S100 := (List.range n).map fun (i : Nat) => mkSes (q + 3 * (i : Int))
theorem sesTo_length (n : Nat) (q : Int) : (sesTo n q).length = n := by simp [sesTo]
theorem rds_set {l : List S100} {j : Nat} (h : j < l.length) (x : S100) : rd_T100 (l.set j x) (j : Int) = x := by
  rw [ses_nat (by simpa using h)]
  simp
theorem markSes_loop (n : Nat) (hn : n ≤ 2097152) (q : Int) (h0 : 0 ≤ q) (h1 : q ≤ 1099511627776) (d : Nat) : ∀ (j : Nat) (xs : List S100), j + d = n → xs.length = n → xs.take j = (sesTo n q).take j →
    ∀ k, d + 1 ≤ k → laws_markSessionS.l0 k xs (q + 3 * (j : Int)) (j : Int) = some (q + 3 * (n : Int), sesTo n q) := by
  induction d with
  | zero =>
    intro j xs hj hl ht k hk
    obtain ⟨k, rfl⟩ : ∃ i, k = i + 1 := ⟨k - 1, by omega⟩
    simp only [laws_markSessionS.l0]
    rw [if_neg (by omega)]
    rw [List.take_of_length_le (by omega), List.take_of_length_le (by rw [sesTo_length]; omega)] at ht
    rw [ht, show j = n by omega]
  | succ d ih =>
    intro j xs hj hl ht k hk
    obtain ⟨k, rfl⟩ : ∃ i, k = i + 1 := ⟨k - 1, by omega⟩
    have e := ih (j + 1) (xs.set j (mkSes (q + 3 * (j : Int)))) (by omega) (by simpa using hl) (by
      rw [List.take_succ_eq_append_getElem (by simp; omega), List.take_succ_eq_append_getElem (by rw [sesTo_length]; omega), ← ht]
      simp [List.take_set_of_le, sesTo]) k (by omega)
    · simp only [laws_markSessionS.l0, Option.bind_some, Int.toNat_natCast]
      rw [if_pos (by omega), if_pos (by omega), w64 (x := q + 3 * (j : Int) + 1) (by omega) (by omega), w64 (x := q + 3 * (j : Int) + 1 + 1) (by omega) (by omega), w64 (x := q + 3 * (j : Int) + 1 + 1 + 1) (by omega) (by omega), w64 (x := (j : Int) + 1) (by omega) (by omega)]
      rw [rds_set (by omega), rds_set (by rw [List.length_set]; omega)]
      simp only [List.set_set]
      rw [show q + 3 * (j : Int) + 1 + 1 + 1 = q + 3 * ((j + 1 : Nat) : Int) by omega]
      refine Eq.trans ?_ e
      rw [show mkSes (q + 3 * (j : Int)) = (⟨q + 3 * (j : Int), q + 3 * (j : Int) + 1, q + 3 * (j : Int) + 1 + 1⟩ : S100) from by unfold mkSes; congr 1; omega]
      rfl
theorem markSes (xs : List S100) (hn : xs.length ≤ 2097152) (q : Int) (h0 : 0 ≤ q) (h1 : q ≤ 1099511627776) :
    laws_markSessionS.f (xs.length + 21) xs q = some (q + 3 * (xs.length : Int), sesTo xs.length q) := by
  have e := markSes_loop xs.length hn q h0 h1 xs.length 0 xs (by omega) rfl (by simp) (xs.length + 21) (by omega)
  unfold laws_markSessionS.f
  simpa using e
theorem heldSes_loop (n : Nat) (hn : n ≤ 2097152) (q : Int) (h0 : 0 ≤ q) (h1 : q ≤ 1099511627776) (d : Nat) : ∀ (j : Nat), j + d = n →
    ∀ k, d + 1 ≤ k → laws_heldSessionS.l0 k (sesTo n q) (q + 3 * (j : Int)) (j : Int) = some (q + 3 * (n : Int)) := by
  induction d with
  | zero =>
    intro j hj k hk
    obtain ⟨k, rfl⟩ : ∃ i, k = i + 1 := ⟨k - 1, by omega⟩
    simp only [laws_heldSessionS.l0]
    rw [if_neg (by rw [sesTo_length]; omega), show j = n by omega]
  | succ d ih =>
    intro j hj k hk
    obtain ⟨k, rfl⟩ : ∃ i, k = i + 1 := ⟨k - 1, by omega⟩
    have e := ih (j + 1) (by omega) k (by omega)
    have hx : rd_T100 (sesTo n q) (j : Int) = mkSes (q + 3 * (j : Int)) := by
      rw [ses_nat (by rw [sesTo_length]; omega)]
      simp [sesTo]
    simp only [laws_heldSessionS.l0]
    rw [if_pos (by rw [sesTo_length]; omega), if_pos (by omega), hx, w64 (x := q + 3 * (j : Int) + 1) (by omega) (by omega), w64 (x := q + 3 * (j : Int) + 1 + 1) (by omega) (by omega), w64 (x := q + 3 * (j : Int) + 1 + 1 + 1) (by omega) (by omega), w64 (x := (j : Int) + 1) (by omega) (by omega)]
    rw [if_pos (show (mkSes (q + 3 * (j : Int))).f0 = q + 3 * (j : Int) from rfl), if_pos (show (mkSes (q + 3 * (j : Int))).f1 = q + 3 * (j : Int) + 1 from rfl), if_pos (show (mkSes (q + 3 * (j : Int))).f2 = q + 3 * (j : Int) + 1 + 1 from show q + 3 * (j : Int) + 2 = q + 3 * (j : Int) + 1 + 1 by omega)]
    rw [show q + 3 * (j : Int) + 1 + 1 + 1 = q + 3 * ((j + 1 : Nat) : Int) by omega]
    exact e
theorem heldSes (n : Nat) (hn : n ≤ 2097152) (q : Int) (h0 : 0 ≤ q) (h1 : q ≤ 1099511627776) : laws_heldSessionS.f (n + 21) (sesTo n q) q = some (q + 3 * (n : Int)) := by
  have e := heldSes_loop n hn q h0 h1 n 0 (by omega) (n + 21) (by omega)
  unfold laws_heldSessionS.f
  simpa using e
theorem laws_markSessionS.M (v : Value) (l : List S100) (q : Int) (w W : World) (B : Aside0 (Below w.heap.size w W)) (R : Aside0 (Ow k100 100 W w.heap.size v l)) (hn : l.length ≤ 2097152) (h0 : 0 ≤ q) (h1 : q ≤ 1099511627776) :
    Calls Try.prog 69 #[v, .int .i64 q] W fun e w' => e = .returned (.int .i64 (q + 3 * (l.length : Int))) ∧ Kd.R k100 100 w' w.heap.size (fun k_ => (some k_ = v.ownBlock ∨ W.heap.size ≤ k_)) v (sesTo l.length q) ∧ Below w.heap.size w w' ∧ Kept W w' (fun k_ => some k_ = v.ownBlock) :=
  laws_markSessionS.calls (l.length + 21) (fun k => some k = v.ownBlock) v l q _ _ w W B.out (Kd.R_tight rfl R.out) (markSes l hn q h0 h1)
theorem laws_heldSessionS.M2 (A : Option Addr) (c : Nat) (l : List S100) (q : Int) (W : World) (hr : Kd.C k100 W A (sesTo l.length q).length (sesTo l.length q)) (hc : (sesTo l.length q).length ≤ c) (hn : l.length ≤ 2097152) (h0 : 0 ≤ q) (h1 : q ≤ 1099511627776) :
    Calls Try.prog 76 #[.slice A l.length c, .int .i64 q] W fun e w' => e = .returned (.int .i64 (q + 3 * (l.length : Int))) ∧ Below W.heap.size W w' := by
  have h := dnB (laws_heldSessionS.calls (l.length + 21) A c (sesTo l.length q) q _ W hr hc (heldSes l.length hn q h0 h1))
  rwa [sesTo_length] at h

theorem laws_markState.M (a b : ByteArray) (AP : Option Addr) (cP : Nat) (ps : List S61) (AS : Option Addr) (cS : Nat) (ss : List S100) (t : Bool) (c : ByteArray) (q : Int) (w W : World) (B : Aside0 (Below w.heap.size w W)) (RP : Aside0 (Ow k61 61 W w.heap.size (.slice AP ps.length cP) ps)) (RS : Aside0 (Ow k100 100 W w.heap.size (.slice AS ss.length cS) ss)) (hp : ps.length ≤ 2097152) (hs : ss.length ≤ 2097152) (h0 : 0 ≤ q) (h1 : q ≤ 1000000000000) : Calls Try.prog 32 #[.agg #[.string a, .string b, .slice AP ps.length cP, .slice AS ss.length cS, .bool t, .string c], .int .i64 q] W fun e w' => e = .returned (.int .i64 (q + 2 * (ps.length : Int) + 3 * (ss.length : Int))) ∧ Kd.R k61 61 w' w.heap.size (fun _ => True) (.slice AP ps.length cP) (prTo ps.length q) ∧ Kd.R k100 100 w' w.heap.size (fun _ => True) (.slice AS ss.length cS) (sesTo ss.length (q + 2 * (ps.length : Int))) ∧ Below w.heap.size w w' ∧ Kept W w' (fun k_ => some k_ = (Value.slice AP ps.length cP).ownBlock ∨ some k_ = (Value.slice AS ss.length cS).ownBlock) := by
  have hu := Try.underlying34
  have DP_S := Aside0.mk (dty RP RS (by decide))
  go_enter Try.func32, Try.ntmps32
  go_wp2_with (first
    | ((with_reducible refine gate_dst (N := 2) rfl ?_); refine bx ?hg (N := 2) ?hd (cs := #[.string a, .string b, .slice AP ps.length cP, .slice AS ss.length cS, .bool t, .string c]) (t := 34) ?hr B ?_; (case hd => rfl); (case hg => rfl); (case hr => first | (go_simp; done) | (go_simp; rfl)); intro g2 w1 hb B F2 L2 E2; have KK := Kept.of_below hb (fun k_ => some k_ = (Value.slice AP ps.length cP).ownBlock ∨ some k_ = (Value.slice AS ss.length cS).ownBlock); replace RP := rn RP hb; replace RS := rn RS hb; obtain ⟨c2_0, c2_1, c2_2, c2_3, c2_4, c2_5⟩ := cs6 F2; clear hb E2)
    | (go_at_call 25; with_reducible refine cm (laws_markPairS.M _ ps q w _ B RP (by assumption) (by omega) (by omega)) fun w2 hk B RX => ?_; replace KK := KK.then_ hk (fun k_ h_ => .inl (.inl h_)); replace F2 := bkp F2 hk RP (by decide); replace RS := rkp RS rfl hk DP_S.out; replace RP := RX; clear hk; clear c2_0 c2_1 c2_2 c2_3 c2_4 c2_5; obtain ⟨c2_0, c2_1, c2_2, c2_3, c2_4, c2_5⟩ := cs6 F2; skip)
    | (go_at_call 69; with_reducible refine cm (laws_markSessionS.M _ ss (q + 2 * (ps.length : Int)) w _ B RS (by assumption) (by omega) (by omega)) fun w3 hk B RX => ?_; replace KK := KK.then_ hk (fun k_ h_ => .inl (.inr h_)); replace RP := rkp RP rfl hk (fun k a b => DP_S.out k b a); replace RS := RX; clear hk; skip))
  go_ret
  exact ⟨rfl, RP.out, RS.out, B.out, KK⟩
theorem laws_heldState.M (a b : ByteArray) (AP : Option Addr) (cP : Nat) (ps : List S61) (AS : Option Addr) (cS : Nat) (ss : List S100) (t : Bool) (c : ByteArray) (q : Int) (w : World) (hrp : Kd.C k61 w AP (prTo ps.length q).length (prTo ps.length q)) (hcp : (prTo ps.length q).length ≤ cP) (hrs : Kd.C k100 w AS (sesTo ss.length (q + 2 * (ps.length : Int))).length (sesTo ss.length (q + 2 * (ps.length : Int)))) (hcs : (sesTo ss.length (q + 2 * (ps.length : Int))).length ≤ cS) (hp : ps.length ≤ 2097152) (hs : ss.length ≤ 2097152) (h0 : 0 ≤ q) (h1 : q ≤ 1000000000000) : Calls Try.prog 33 #[.agg #[.string a, .string b, .slice AP ps.length cP, .slice AS ss.length cS, .bool t, .string c], .int .i64 q] w fun e w' => e = .returned (.int .i64 (q + 2 * (ps.length : Int) + 3 * (ss.length : Int))) ∧ Below w.heap.size w w' := by
  have B := Aside0.mk (Below.refl w.heap.size w)
  have hu := Try.underlying34
  have HRP := Aside0.mk hrp
  have HRS := Aside0.mk hrs
  have HCP := Aside0.mk hcp
  have HCS := Aside0.mk hcs
  clear hrp hrs hcp hcs
  have d1 : decide (q + 2 * (ps.length : Int) < 0) = false := decide_eq_false (by omega)
  have d2 : decide ((q + 2 * (ps.length : Int) + 3 * (ss.length : Int)) < 0) = false := decide_eq_false (by omega)
  go_enter Try.func33, Try.ntmps33
  go_wp2_with (first
    | ((with_reducible refine gate_dst (N := 2) rfl ?_); refine bx ?hg (N := 2) ?hd (cs := #[.string a, .string b, .slice AP ps.length cP, .slice AS ss.length cS, .bool t, .string c]) (t := 34) ?hr B ?_; (case hd => rfl); (case hg => rfl); (case hr => first | (go_simp; done) | (go_simp; rfl)); intro g2 w1 hb B F2 L2 E2; obtain ⟨c2_0, c2_1, c2_2, c2_3, c2_4, c2_5⟩ := cs6 F2; clear hb E2)
    | (go_at_call 26; with_reducible refine cl (laws_heldPairS.M2 _ _ ps q _ (cb HRP B) HCP.out (by assumption) (by omega) (by omega)) B fun w2 hb B => ?_; replace F2 := bn F2 hb; clear c2_0 c2_1 c2_2 c2_3 c2_4 c2_5; obtain ⟨c2_0, c2_1, c2_2, c2_3, c2_4, c2_5⟩ := cs6 F2; clear hb)
    | (go_at_call 76; with_reducible refine cl (laws_heldSessionS.M2 _ _ ss (q + 2 * (ps.length : Int)) _ (cb HRS B) HCS.out (by assumption) (by omega) (by omega)) B fun w3 hb B => ?_; clear hb))
  all_goals go_ret
  all_goals exact ⟨rfl, B.out⟩

def laws_FnExactStateCut.T10 : Bool × List (List Nat × List Nat) := (true, [([], []), ([], []), ([1], [1]), ([0, 2, 2], [0, 2]), ([3], [3])])
def laws_FnExactStateCut.B10 : List Nat := [0, 0, 2, 7, 15]
theorem laws_FnExactStateCut.tab10 : rtab .any (opsOf Try.f7 10) = laws_FnExactStateCut.T10 := by kernel_rfl
theorem laws_FnExactStateCut.bits10 : waitsOk laws_FnExactStateCut.T10.2 laws_FnExactStateCut.B10 = true := by kernel_rfl
theorem csM_len (s : SM) : ((csM s).1.ps.length ≤ s.ps.length ∧ (csM s).1.ss.length ≤ s.ss.length) ∧ (csM s).2.1.ps.length ≤ s.ps.length ∧ (csM s).2.1.ss.length ≤ s.ss.length := by
  unfold csM
  split
  · exact ⟨⟨inM_len _ _ _, Nat.le_refl _⟩, inM_len _ _ _, Nat.le_refl _⟩
  · exact ⟨⟨Nat.zero_le _, Nat.zero_le _⟩, Nat.zero_le _, Nat.zero_le _⟩
theorem laws_FnExactStateCut.M (a b : ByteArray) (AP : Option Addr) (cP : Nat) (ps : List S108) (AS : Option Addr) (cS : Nat) (ss : List S112) (t : Bool) (c : ByteArray) (w : World) (hrp : Kd.C k108 w AP ps.length ps) (hrs : Kd.C k112 w AS ss.length ss) (hs : a.size ≤ 9223372036854775807 ∧ b.size ≤ 9223372036854775807 ∧ c.size ≤ 9223372036854775807 ∧ ∀ y ∈ ps, y.f0.size ≤ 9223372036854775807) : Calls Try.prog 7 #[.agg #[.string a, .string b, .slice AP ps.length cP, .slice AS ss.length cS, .bool t, .string c]] w fun e w' => e = .returned (.bool true) ∧ Below w.heap.size w w' := by
  have B := Aside0.mk (Below.refl w.heap.size w)
  have hu := Try.underlying34
  have hu2 := Try.underlying27
  by_cases hsz : ps.length ≤ 1048576 ∧ ss.length ≤ 1048576
  · obtain ⟨hl1, hl2⟩ := hsz
    obtain ⟨hsa, hsb⟩ : (0 : Int) ≤ 1 ∧ (1 : Int) ≤ 1000000000000 := by omega
    have HRP := Aside0.mk hrp
    have HRS := Aside0.mk hrs
    have HSA := Aside0.mk hs
    clear hrp hrs hs
    obtain ⟨qs, hqs⟩ : ∃ qs, ps.map prOf = qs := ⟨_, rfl⟩
    obtain ⟨us, hus⟩ : ∃ us, ss.map sesOf = us := ⟨_, rfl⟩
    have HQS := Aside0.mk hqs
    have HUS := Aside0.mk hus
    have hql : qs.length ≤ 1048576 := by rw [← hqs, List.length_map]; exact hl1
    have hul : us.length ≤ 1048576 := by rw [← hus, List.length_map]; exact hl2
    clear hqs hus
    obtain ⟨⟨hx1, hx2⟩, hx3, hx4⟩ := csM_len ⟨a, b, qs, us, t, c⟩
    obtain ⟨⟨⟨xa, xb, xp, xs, xt, xc⟩, ⟨ya, yb, yp, ys, yt, yc⟩, ok⟩, hm⟩ : ∃ r, csM ⟨a, b, qs, us, t, c⟩ = r := ⟨_, rfl⟩
    have HM := Aside0.mk hm
    rw [hm] at hx1 hx2 hx3 hx4
    replace hx1 : xp.length ≤ qs.length := hx1
    replace hx2 : xs.length ≤ us.length := hx2
    replace hx3 : yp.length ≤ qs.length := hx3
    replace hx4 : ys.length ≤ us.length := hx4
    clear hm
    have hy1 : xp.length ≤ 2097152 := by omega
    have hy2 : xs.length ≤ 2097152 := by omega
    have hy3 : yp.length ≤ 2097152 := by omega
    have hy4 : ys.length ≤ 2097152 := by omega
    have hy5 : qs.length ≤ 2097152 := by omega
    have hy6 : us.length ≤ 2097152 := by omega
    have : 0 ≤ (1 + 2 * (qs.length : Int) + 3 * (us.length : Int)) := by omega
    have : (1 + 2 * (qs.length : Int) + 3 * (us.length : Int)) ≤ 1000000000000 := by omega
    have : decide ((1 + 2 * (qs.length : Int) + 3 * (us.length : Int)) < 0) = false := decide_eq_false (by omega)
    have : 0 ≤ (1 + 2 * (xp.length : Int) + 3 * (xs.length : Int)) := by omega
    have : (1 + 2 * (xp.length : Int) + 3 * (xs.length : Int)) ≤ 1000000000000 := by omega
    have : decide ((1 + 2 * (xp.length : Int) + 3 * (xs.length : Int)) < 0) = false := decide_eq_false (by omega)
    have : 0 ≤ (1 + 2 * (xp.length : Int) + 3 * (xs.length : Int) + 2 * (yp.length : Int) + 3 * (ys.length : Int)) := by omega
    have : (1 + 2 * (xp.length : Int) + 3 * (xs.length : Int) + 2 * (yp.length : Int) + 3 * (ys.length : Int)) ≤ 1000000000000 := by omega
    have : decide ((1 + 2 * (xp.length : Int) + 3 * (xs.length : Int) + 2 * (yp.length : Int) + 3 * (ys.length : Int)) < 0) = false := decide_eq_false (by omega)
    clear hx1 hx2 hx3 hx4
    go_enter Try.func7, Try.ntmps7
    go_wp2_with (first
      | ((with_reducible refine gate_dst (N := 1) rfl ?_); refine bx ?hg (N := 1) ?hd (cs := #[.string a, .string b, .slice AP ps.length cP, .slice AS ss.length cS, .bool t, .string c]) (t := 27) ?hr B ?_; (case hd => rfl); (case hg => rfl); (case hr => first | (go_simp; done) | (go_simp; rfl)); intro g1 w1 hb B F1 L1 E1; obtain ⟨c1_0, c1_1, c1_2, c1_3, c1_4, c1_5⟩ := cs6 F1; clear hb E1)
      | (go_at_call 11; with_reducible refine cx (laws_szState.M a b _ _ ps _ _ ss t c 1048576 w1 (cb HRP B) (cb HRS B) (by omega) HSA.out) B fun v2 hv2 w2 hb B => ?_; replace F1 := bn F1 hb; clear c1_0 c1_1 c1_2 c1_3 c1_4 c1_5; obtain ⟨c1_0, c1_1, c1_2, c1_3, c1_4, c1_5⟩ := cs6 F1; clear hb)
      | (go_at_call 13; with_reducible refine c2r (laws_toState.M a b _ _ ps _ _ ss t c qs us w2 (cb HRP B) (cb HRS B) ⟨by omega, by omega⟩ HQS.out HUS.out) B fun AP3 kP3 AS3 kS3 w3 hb B RP3 QP3 RS3 QS3 => ?_; replace F1 := bn F1 hb; clear QP3 QS3; clear c1_0 c1_1 c1_2 c1_3 c1_4 c1_5; obtain ⟨c1_0, c1_1, c1_2, c1_3, c1_4, c1_5⟩ := cs6 F1; clear hb)
      | (go_at_call 30; with_reducible refine c4r (spec_StateCut.Mr a b _ _ qs _ _ us t c xa xb xp xs xt xc ya yb yp ys yt yc ok HM.out w3 (rc RP3) (rc RS3) (rl RP3) (rl RS3)) B fun AP4 kP4 AS4 kS4 AO4 kO4 AT4 kT4 w4 hb B RP4 QP4 RS4 QS4 RO4 QO4 RT4 QT4 DP4_O4 DS4_T4 => ?_; have DP3_P4 := fr QP4 RP3; have DS3_P4 := fr QP4 RS3; have DP3_S4 := fr QS4 RP3; have DS3_S4 := fr QS4 RS3; have DP3_O4 := fr QO4 RP3; have DS3_O4 := fr QO4 RS3; have DP3_T4 := fr QT4 RP3; have DS3_T4 := fr QT4 RS3; replace F1 := bn F1 hb; clear QP4 QS4 QO4 QT4; clear c1_0 c1_1 c1_2 c1_3 c1_4 c1_5; obtain ⟨c1_0, c1_1, c1_2, c1_3, c1_4, c1_5⟩ := cs6 F1; clear hb)
      | ((with_reducible refine gate_dst (N := 4) rfl ?_); refine bx ?hg (N := 4) ?hd (cs := #[.string (⟨#[]⟩ : ByteArray), .string (⟨#[]⟩ : ByteArray), .slice none 0 0, .slice none 0 0, .bool false, .string (⟨#[]⟩ : ByteArray)]) (t := 34) ?hr B ?_; (case hd => rfl); (case hg => rfl); (case hr => first | (go_simp; done) | (go_simp; rfl)); intro g4 w5 hb B F4 L4 E4; have N1_4 := ne1 E4 F1; replace F1 := bn F1 hb; replace RP4 := rn RP4 hb; replace RS4 := rn RS4 hb; replace RO4 := rn RO4 hb; replace RT4 := rn RT4 hb; clear c1_0 c1_1 c1_2 c1_3 c1_4 c1_5; obtain ⟨c1_0, c1_1, c1_2, c1_3, c1_4, c1_5⟩ := cs6 F1; obtain ⟨c4_0, c4_1, c4_2, c4_3, c4_4, c4_5⟩ := cs6 F4; clear hb E4)
      | ((with_reducible refine gate_dst (N := 5) rfl ?_); refine bx ?hg (N := 5) ?hd (cs := #[.string (⟨#[]⟩ : ByteArray), .string (⟨#[]⟩ : ByteArray), .slice none 0 0, .slice none 0 0, .bool false, .string (⟨#[]⟩ : ByteArray)]) (t := 34) ?hr B ?_; (case hd => rfl); (case hg => rfl); (case hr => first | (go_simp; done) | (go_simp; rfl)); intro g5 w6 hb B F5 L5 E5; have N1_5 := ne1 E5 F1; have N4_5 := ne1 E5 F4; replace F1 := bn F1 hb; replace F4 := bn F4 hb; replace RP4 := rn RP4 hb; replace RS4 := rn RS4 hb; replace RO4 := rn RO4 hb; replace RT4 := rn RT4 hb; clear c1_0 c1_1 c1_2 c1_3 c1_4 c1_5; obtain ⟨c1_0, c1_1, c1_2, c1_3, c1_4, c1_5⟩ := cs6 F1; clear c4_0 c4_1 c4_2 c4_3 c4_4 c4_5; obtain ⟨c4_0, c4_1, c4_2, c4_3, c4_4, c4_5⟩ := cs6 F4; obtain ⟨c5_0, c5_1, c5_2, c5_3, c5_4, c5_5⟩ := cs6 F5; clear hb E5)
      | ((with_reducible refine gate_store (t := 34) (p := 4) rfl ?_); obtain ⟨y0, y1, y2, y3, y4, y5⟩ := cs6 F4; have z0 := fz F4 0; have z1 := fz F4 1; have z2 := fz F4 2; have z3 := fz F4 3; have z4 := fz F4 4; have z5 := fz F4 5; refine sx (t := 34) (t' := 34) (p := 4) (v := ?vo7) ?hg ?ho ?hn 0 [.string xa, .string xb, .slice AP4 xp.length kP4, .slice AS4 xs.length kS4, .bool xt, .string xc] [.string xa, .string xb, .slice AP4 xp.length kP4, .slice AS4 xs.length kS4, .bool xt, .string xc] ?hr B F4 L4 rfl (Nat.le_of_ble_eq_true rfl) ?_; (case ho => rfl); (case hg => rfl); (case hn => rfl); (case hr => first | (go_simp; done) | (go_simp; rfl)); intro w7 hk B G; replace F1 := bk F1 hk N1_4.out; replace F5 := bk F5 hk N4_5.out.symm; replace RP4 := rk RP4 F4 (by decide) hk; replace RS4 := rk RS4 F4 (by decide) hk; replace RO4 := rk RO4 F4 (by decide) hk; replace RT4 := rk RT4 F4 (by decide) hk; replace F4 := G; clear c1_0 c1_1 c1_2 c1_3 c1_4 c1_5; obtain ⟨c1_0, c1_1, c1_2, c1_3, c1_4, c1_5⟩ := cs6 F1; clear c4_0 c4_1 c4_2 c4_3 c4_4 c4_5; obtain ⟨c4_0, c4_1, c4_2, c4_3, c4_4, c4_5⟩ := cs6 F4; clear c5_0 c5_1 c5_2 c5_3 c5_4 c5_5; obtain ⟨c5_0, c5_1, c5_2, c5_3, c5_4, c5_5⟩ := cs6 F5; clear hk y0 z0 y1 z1 y2 z2 y3 z3 y4 z4 y5 z5)
      | ((with_reducible refine gate_store (t := 34) (p := 5) rfl ?_); obtain ⟨y0, y1, y2, y3, y4, y5⟩ := cs6 F5; have z0 := fz F5 0; have z1 := fz F5 1; have z2 := fz F5 2; have z3 := fz F5 3; have z4 := fz F5 4; have z5 := fz F5 5; refine sx (t := 34) (t' := 34) (p := 5) (v := ?vo8) ?hg ?ho ?hn 0 [.string ya, .string yb, .slice AO4 yp.length kO4, .slice AT4 ys.length kT4, .bool yt, .string yc] [.string ya, .string yb, .slice AO4 yp.length kO4, .slice AT4 ys.length kT4, .bool yt, .string yc] ?hr B F5 L5 rfl (Nat.le_of_ble_eq_true rfl) ?_; (case ho => rfl); (case hg => rfl); (case hn => rfl); (case hr => first | (go_simp; done) | (go_simp; rfl)); intro w8 hk B G; replace F1 := bk F1 hk N1_5.out; replace F4 := bk F4 hk N4_5.out; replace RP4 := rk RP4 F5 (by decide) hk; replace RS4 := rk RS4 F5 (by decide) hk; replace RO4 := rk RO4 F5 (by decide) hk; replace RT4 := rk RT4 F5 (by decide) hk; replace F5 := G; clear c1_0 c1_1 c1_2 c1_3 c1_4 c1_5; obtain ⟨c1_0, c1_1, c1_2, c1_3, c1_4, c1_5⟩ := cs6 F1; clear c4_0 c4_1 c4_2 c4_3 c4_4 c4_5; obtain ⟨c4_0, c4_1, c4_2, c4_3, c4_4, c4_5⟩ := cs6 F4; clear c5_0 c5_1 c5_2 c5_3 c5_4 c5_5; obtain ⟨c5_0, c5_1, c5_2, c5_3, c5_4, c5_5⟩ := cs6 F5; clear hk y0 z0 y1 z1 y2 z2 y3 z3 y4 z4 y5 z5)
      | (go_at_call 13; with_reducible refine c2r (laws_toState.M a b _ _ ps _ _ ss t c qs us w8 (cb HRP B) (cb HRS B) ⟨by omega, by omega⟩ HQS.out HUS.out) B fun AP9 kP9 AS9 kS9 w9 hb B RP9 QP9 RS9 QS9 => ?_; have DP4_P9 := fr QP9 RP4; have DS4_P9 := fr QP9 RS4; have DO4_P9 := fr QP9 RO4; have DT4_P9 := fr QP9 RT4; have DP4_S9 := fr QS9 RP4; have DS4_S9 := fr QS9 RS4; have DO4_S9 := fr QS9 RO4; have DT4_S9 := fr QS9 RT4; replace F1 := bn F1 hb; replace F4 := bn F4 hb; replace F5 := bn F5 hb; replace RP4 := rn RP4 hb; replace RS4 := rn RS4 hb; replace RO4 := rn RO4 hb; replace RT4 := rn RT4 hb; clear QP9 QS9; clear c1_0 c1_1 c1_2 c1_3 c1_4 c1_5; obtain ⟨c1_0, c1_1, c1_2, c1_3, c1_4, c1_5⟩ := cs6 F1; clear c4_0 c4_1 c4_2 c4_3 c4_4 c4_5; obtain ⟨c4_0, c4_1, c4_2, c4_3, c4_4, c4_5⟩ := cs6 F4; clear c5_0 c5_1 c5_2 c5_3 c5_4 c5_5; obtain ⟨c5_0, c5_1, c5_2, c5_3, c5_4, c5_5⟩ := cs6 F5; clear hb)
      | ((with_reducible refine gate_dst (N := 7) rfl ?_); refine bx ?hg (N := 7) ?hd (cs := #[.string (⟨#[]⟩ : ByteArray), .string (⟨#[]⟩ : ByteArray), .slice none 0 0, .slice none 0 0, .bool false, .string (⟨#[]⟩ : ByteArray)]) (t := 34) ?hr B ?_; (case hd => rfl); (case hg => rfl); (case hr => first | (go_simp; done) | (go_simp; rfl)); intro g7 w10 hb B F7 L7 E7; have N1_7 := ne1 E7 F1; have N4_7 := ne1 E7 F4; have N5_7 := ne1 E7 F5; replace F1 := bn F1 hb; replace F4 := bn F4 hb; replace F5 := bn F5 hb; replace RP4 := rn RP4 hb; replace RS4 := rn RS4 hb; replace RO4 := rn RO4 hb; replace RT4 := rn RT4 hb; replace RP9 := rn RP9 hb; replace RS9 := rn RS9 hb; clear c1_0 c1_1 c1_2 c1_3 c1_4 c1_5; obtain ⟨c1_0, c1_1, c1_2, c1_3, c1_4, c1_5⟩ := cs6 F1; clear c4_0 c4_1 c4_2 c4_3 c4_4 c4_5; obtain ⟨c4_0, c4_1, c4_2, c4_3, c4_4, c4_5⟩ := cs6 F4; clear c5_0 c5_1 c5_2 c5_3 c5_4 c5_5; obtain ⟨c5_0, c5_1, c5_2, c5_3, c5_4, c5_5⟩ := cs6 F5; obtain ⟨c7_0, c7_1, c7_2, c7_3, c7_4, c7_5⟩ := cs6 F7; clear hb E7)
      | ((with_reducible refine gate_store (t := 34) (p := 7) rfl ?_); obtain ⟨y0, y1, y2, y3, y4, y5⟩ := cs6 F7; have z0 := fz F7 0; have z1 := fz F7 1; have z2 := fz F7 2; have z3 := fz F7 3; have z4 := fz F7 4; have z5 := fz F7 5; refine sx (t := 34) (t' := 34) (p := 7) (v := ?vo11) ?hg ?ho ?hn 0 [.string a, .string b, .slice AP9 qs.length kP9, .slice AS9 us.length kS9, .bool t, .string c] [.string a, .string b, .slice AP9 qs.length kP9, .slice AS9 us.length kS9, .bool t, .string c] ?hr B F7 L7 rfl (Nat.le_of_ble_eq_true rfl) ?_; (case ho => rfl); (case hg => rfl); (case hn => rfl); (case hr => first | (go_simp; done) | (go_simp; rfl)); intro w11 hk B G; replace F1 := bk F1 hk N1_7.out; replace F4 := bk F4 hk N4_7.out; replace F5 := bk F5 hk N5_7.out; replace RP4 := rk RP4 F7 (by decide) hk; replace RS4 := rk RS4 F7 (by decide) hk; replace RO4 := rk RO4 F7 (by decide) hk; replace RT4 := rk RT4 F7 (by decide) hk; replace RP9 := rk RP9 F7 (by decide) hk; replace RS9 := rk RS9 F7 (by decide) hk; replace F7 := G; clear c1_0 c1_1 c1_2 c1_3 c1_4 c1_5; obtain ⟨c1_0, c1_1, c1_2, c1_3, c1_4, c1_5⟩ := cs6 F1; clear c4_0 c4_1 c4_2 c4_3 c4_4 c4_5; obtain ⟨c4_0, c4_1, c4_2, c4_3, c4_4, c4_5⟩ := cs6 F4; clear c5_0 c5_1 c5_2 c5_3 c5_4 c5_5; obtain ⟨c5_0, c5_1, c5_2, c5_3, c5_4, c5_5⟩ := cs6 F5; clear c7_0 c7_1 c7_2 c7_3 c7_4 c7_5; obtain ⟨c7_0, c7_1, c7_2, c7_3, c7_4, c7_5⟩ := cs6 F7; clear hk y0 z0 y1 z1 y2 z2 y3 z3 y4 z4 y5 z5)
      | (go_at_call 31; with_reducible refine c4r (impl_StateCut.Mr a b _ _ qs _ _ us t c xa xb xp xs xt xc ya yb yp ys yt yc ok HM.out w11 (rc RP9) (rc RS9) (rl RP9) (rl RS9)) B fun AP12 kP12 AS12 kS12 AO12 kO12 AT12 kT12 w12 hb B RP12 QP12 RS12 QS12 RO12 QO12 RT12 QT12 DP12_O12 DS12_T12 => ?_; have DP4_P12 := fr QP12 RP4; have DS4_P12 := fr QP12 RS4; have DO4_P12 := fr QP12 RO4; have DT4_P12 := fr QP12 RT4; have DP9_P12 := fr QP12 RP9; have DS9_P12 := fr QP12 RS9; have DP4_S12 := fr QS12 RP4; have DS4_S12 := fr QS12 RS4; have DO4_S12 := fr QS12 RO4; have DT4_S12 := fr QS12 RT4; have DP9_S12 := fr QS12 RP9; have DS9_S12 := fr QS12 RS9; have DP4_O12 := fr QO12 RP4; have DS4_O12 := fr QO12 RS4; have DO4_O12 := fr QO12 RO4; have DT4_O12 := fr QO12 RT4; have DP9_O12 := fr QO12 RP9; have DS9_O12 := fr QO12 RS9; have DP4_T12 := fr QT12 RP4; have DS4_T12 := fr QT12 RS4; have DO4_T12 := fr QT12 RO4; have DT4_T12 := fr QT12 RT4; have DP9_T12 := fr QT12 RP9; have DS9_T12 := fr QT12 RS9; replace F1 := bn F1 hb; replace F4 := bn F4 hb; replace F5 := bn F5 hb; replace F7 := bn F7 hb; replace RP4 := rn RP4 hb; replace RS4 := rn RS4 hb; replace RO4 := rn RO4 hb; replace RT4 := rn RT4 hb; replace RP9 := rn RP9 hb; replace RS9 := rn RS9 hb; clear QP12 QS12 QO12 QT12; clear c1_0 c1_1 c1_2 c1_3 c1_4 c1_5; obtain ⟨c1_0, c1_1, c1_2, c1_3, c1_4, c1_5⟩ := cs6 F1; clear c4_0 c4_1 c4_2 c4_3 c4_4 c4_5; obtain ⟨c4_0, c4_1, c4_2, c4_3, c4_4, c4_5⟩ := cs6 F4; clear c5_0 c5_1 c5_2 c5_3 c5_4 c5_5; obtain ⟨c5_0, c5_1, c5_2, c5_3, c5_4, c5_5⟩ := cs6 F5; clear c7_0 c7_1 c7_2 c7_3 c7_4 c7_5; obtain ⟨c7_0, c7_1, c7_2, c7_3, c7_4, c7_5⟩ := cs6 F7; clear hb)
      | ((with_reducible refine gate_dst (N := 8) rfl ?_); refine bx ?hg (N := 8) ?hd (cs := #[.string (⟨#[]⟩ : ByteArray), .string (⟨#[]⟩ : ByteArray), .slice none 0 0, .slice none 0 0, .bool false, .string (⟨#[]⟩ : ByteArray)]) (t := 34) ?hr B ?_; (case hd => rfl); (case hg => rfl); (case hr => first | (go_simp; done) | (go_simp; rfl)); intro g8 w13 hb B F8 L8 E8; have N1_8 := ne1 E8 F1; have N4_8 := ne1 E8 F4; have N5_8 := ne1 E8 F5; have N7_8 := ne1 E8 F7; replace F1 := bn F1 hb; replace F4 := bn F4 hb; replace F5 := bn F5 hb; replace F7 := bn F7 hb; replace RP4 := rn RP4 hb; replace RS4 := rn RS4 hb; replace RO4 := rn RO4 hb; replace RT4 := rn RT4 hb; replace RP9 := rn RP9 hb; replace RS9 := rn RS9 hb; replace RP12 := rn RP12 hb; replace RS12 := rn RS12 hb; replace RO12 := rn RO12 hb; replace RT12 := rn RT12 hb; clear c1_0 c1_1 c1_2 c1_3 c1_4 c1_5; obtain ⟨c1_0, c1_1, c1_2, c1_3, c1_4, c1_5⟩ := cs6 F1; clear c4_0 c4_1 c4_2 c4_3 c4_4 c4_5; obtain ⟨c4_0, c4_1, c4_2, c4_3, c4_4, c4_5⟩ := cs6 F4; clear c5_0 c5_1 c5_2 c5_3 c5_4 c5_5; obtain ⟨c5_0, c5_1, c5_2, c5_3, c5_4, c5_5⟩ := cs6 F5; clear c7_0 c7_1 c7_2 c7_3 c7_4 c7_5; obtain ⟨c7_0, c7_1, c7_2, c7_3, c7_4, c7_5⟩ := cs6 F7; obtain ⟨c8_0, c8_1, c8_2, c8_3, c8_4, c8_5⟩ := cs6 F8; clear hb E8)
      | ((with_reducible refine gate_dst (N := 9) rfl ?_); refine bx ?hg (N := 9) ?hd (cs := #[.string (⟨#[]⟩ : ByteArray), .string (⟨#[]⟩ : ByteArray), .slice none 0 0, .slice none 0 0, .bool false, .string (⟨#[]⟩ : ByteArray)]) (t := 34) ?hr B ?_; (case hd => rfl); (case hg => rfl); (case hr => first | (go_simp; done) | (go_simp; rfl)); intro g9 w14 hb B F9 L9 E9; have N1_9 := ne1 E9 F1; have N4_9 := ne1 E9 F4; have N5_9 := ne1 E9 F5; have N7_9 := ne1 E9 F7; have N8_9 := ne1 E9 F8; replace F1 := bn F1 hb; replace F4 := bn F4 hb; replace F5 := bn F5 hb; replace F7 := bn F7 hb; replace F8 := bn F8 hb; replace RP4 := rn RP4 hb; replace RS4 := rn RS4 hb; replace RO4 := rn RO4 hb; replace RT4 := rn RT4 hb; replace RP9 := rn RP9 hb; replace RS9 := rn RS9 hb; replace RP12 := rn RP12 hb; replace RS12 := rn RS12 hb; replace RO12 := rn RO12 hb; replace RT12 := rn RT12 hb; clear c1_0 c1_1 c1_2 c1_3 c1_4 c1_5; obtain ⟨c1_0, c1_1, c1_2, c1_3, c1_4, c1_5⟩ := cs6 F1; clear c4_0 c4_1 c4_2 c4_3 c4_4 c4_5; obtain ⟨c4_0, c4_1, c4_2, c4_3, c4_4, c4_5⟩ := cs6 F4; clear c5_0 c5_1 c5_2 c5_3 c5_4 c5_5; obtain ⟨c5_0, c5_1, c5_2, c5_3, c5_4, c5_5⟩ := cs6 F5; clear c7_0 c7_1 c7_2 c7_3 c7_4 c7_5; obtain ⟨c7_0, c7_1, c7_2, c7_3, c7_4, c7_5⟩ := cs6 F7; clear c8_0 c8_1 c8_2 c8_3 c8_4 c8_5; obtain ⟨c8_0, c8_1, c8_2, c8_3, c8_4, c8_5⟩ := cs6 F8; obtain ⟨c9_0, c9_1, c9_2, c9_3, c9_4, c9_5⟩ := cs6 F9; clear hb E9)
      | ((with_reducible refine gate_store (t := 34) (p := 8) rfl ?_); obtain ⟨y0, y1, y2, y3, y4, y5⟩ := cs6 F8; have z0 := fz F8 0; have z1 := fz F8 1; have z2 := fz F8 2; have z3 := fz F8 3; have z4 := fz F8 4; have z5 := fz F8 5; refine sx (t := 34) (t' := 34) (p := 8) (v := ?vo15) ?hg ?ho ?hn 0 [.string xa, .string xb, .slice AP12 xp.length kP12, .slice AS12 xs.length kS12, .bool xt, .string xc] [.string xa, .string xb, .slice AP12 xp.length kP12, .slice AS12 xs.length kS12, .bool xt, .string xc] ?hr B F8 L8 rfl (Nat.le_of_ble_eq_true rfl) ?_; (case ho => rfl); (case hg => rfl); (case hn => rfl); (case hr => first | (go_simp; done) | (go_simp; rfl)); intro w15 hk B G; replace F1 := bk F1 hk N1_8.out; replace F4 := bk F4 hk N4_8.out; replace F5 := bk F5 hk N5_8.out; replace F7 := bk F7 hk N7_8.out; replace F9 := bk F9 hk N8_9.out.symm; replace RP4 := rk RP4 F8 (by decide) hk; replace RS4 := rk RS4 F8 (by decide) hk; replace RO4 := rk RO4 F8 (by decide) hk; replace RT4 := rk RT4 F8 (by decide) hk; replace RP9 := rk RP9 F8 (by decide) hk; replace RS9 := rk RS9 F8 (by decide) hk; replace RP12 := rk RP12 F8 (by decide) hk; replace RS12 := rk RS12 F8 (by decide) hk; replace RO12 := rk RO12 F8 (by decide) hk; replace RT12 := rk RT12 F8 (by decide) hk; replace F8 := G; clear c1_0 c1_1 c1_2 c1_3 c1_4 c1_5; obtain ⟨c1_0, c1_1, c1_2, c1_3, c1_4, c1_5⟩ := cs6 F1; clear c4_0 c4_1 c4_2 c4_3 c4_4 c4_5; obtain ⟨c4_0, c4_1, c4_2, c4_3, c4_4, c4_5⟩ := cs6 F4; clear c5_0 c5_1 c5_2 c5_3 c5_4 c5_5; obtain ⟨c5_0, c5_1, c5_2, c5_3, c5_4, c5_5⟩ := cs6 F5; clear c7_0 c7_1 c7_2 c7_3 c7_4 c7_5; obtain ⟨c7_0, c7_1, c7_2, c7_3, c7_4, c7_5⟩ := cs6 F7; clear c8_0 c8_1 c8_2 c8_3 c8_4 c8_5; obtain ⟨c8_0, c8_1, c8_2, c8_3, c8_4, c8_5⟩ := cs6 F8; clear c9_0 c9_1 c9_2 c9_3 c9_4 c9_5; obtain ⟨c9_0, c9_1, c9_2, c9_3, c9_4, c9_5⟩ := cs6 F9; clear hk y0 z0 y1 z1 y2 z2 y3 z3 y4 z4 y5 z5)
      | ((with_reducible refine gate_store (t := 34) (p := 9) rfl ?_); obtain ⟨y0, y1, y2, y3, y4, y5⟩ := cs6 F9; have z0 := fz F9 0; have z1 := fz F9 1; have z2 := fz F9 2; have z3 := fz F9 3; have z4 := fz F9 4; have z5 := fz F9 5; refine sx (t := 34) (t' := 34) (p := 9) (v := ?vo16) ?hg ?ho ?hn 0 [.string ya, .string yb, .slice AO12 yp.length kO12, .slice AT12 ys.length kT12, .bool yt, .string yc] [.string ya, .string yb, .slice AO12 yp.length kO12, .slice AT12 ys.length kT12, .bool yt, .string yc] ?hr B F9 L9 rfl (Nat.le_of_ble_eq_true rfl) ?_; (case ho => rfl); (case hg => rfl); (case hn => rfl); (case hr => first | (go_simp; done) | (go_simp; rfl)); intro w16 hk B G; replace F1 := bk F1 hk N1_9.out; replace F4 := bk F4 hk N4_9.out; replace F5 := bk F5 hk N5_9.out; replace F7 := bk F7 hk N7_9.out; replace F8 := bk F8 hk N8_9.out; replace RP4 := rk RP4 F9 (by decide) hk; replace RS4 := rk RS4 F9 (by decide) hk; replace RO4 := rk RO4 F9 (by decide) hk; replace RT4 := rk RT4 F9 (by decide) hk; replace RP9 := rk RP9 F9 (by decide) hk; replace RS9 := rk RS9 F9 (by decide) hk; replace RP12 := rk RP12 F9 (by decide) hk; replace RS12 := rk RS12 F9 (by decide) hk; replace RO12 := rk RO12 F9 (by decide) hk; replace RT12 := rk RT12 F9 (by decide) hk; replace F9 := G; clear c1_0 c1_1 c1_2 c1_3 c1_4 c1_5; obtain ⟨c1_0, c1_1, c1_2, c1_3, c1_4, c1_5⟩ := cs6 F1; clear c4_0 c4_1 c4_2 c4_3 c4_4 c4_5; obtain ⟨c4_0, c4_1, c4_2, c4_3, c4_4, c4_5⟩ := cs6 F4; clear c5_0 c5_1 c5_2 c5_3 c5_4 c5_5; obtain ⟨c5_0, c5_1, c5_2, c5_3, c5_4, c5_5⟩ := cs6 F5; clear c7_0 c7_1 c7_2 c7_3 c7_4 c7_5; obtain ⟨c7_0, c7_1, c7_2, c7_3, c7_4, c7_5⟩ := cs6 F7; clear c8_0 c8_1 c8_2 c8_3 c8_4 c8_5; obtain ⟨c8_0, c8_1, c8_2, c8_3, c8_4, c8_5⟩ := cs6 F8; clear c9_0 c9_1 c9_2 c9_3 c9_4 c9_5; obtain ⟨c9_0, c9_1, c9_2, c9_3, c9_4, c9_5⟩ := cs6 F9; clear hk y0 z0 y1 z1 y2 z2 y3 z3 y4 z4 y5 z5)
      | (go_at_call 15; with_reducible refine cl (laws_eqState.M xa xb _ _ _ _ xp _ _ _ _ xs xt xc w16 (rc RP12) (rc RP4) (rc RS12) (rc RS4)) B fun w17 hb B => ?_; replace F1 := bn F1 hb; replace F4 := bn F4 hb; replace F5 := bn F5 hb; replace F7 := bn F7 hb; replace F8 := bn F8 hb; replace F9 := bn F9 hb; replace RP4 := rn RP4 hb; replace RS4 := rn RS4 hb; replace RO4 := rn RO4 hb; replace RT4 := rn RT4 hb; replace RP9 := rn RP9 hb; replace RS9 := rn RS9 hb; replace RP12 := rn RP12 hb; replace RS12 := rn RS12 hb; replace RO12 := rn RO12 hb; replace RT12 := rn RT12 hb; clear c1_0 c1_1 c1_2 c1_3 c1_4 c1_5; obtain ⟨c1_0, c1_1, c1_2, c1_3, c1_4, c1_5⟩ := cs6 F1; clear c4_0 c4_1 c4_2 c4_3 c4_4 c4_5; obtain ⟨c4_0, c4_1, c4_2, c4_3, c4_4, c4_5⟩ := cs6 F4; clear c5_0 c5_1 c5_2 c5_3 c5_4 c5_5; obtain ⟨c5_0, c5_1, c5_2, c5_3, c5_4, c5_5⟩ := cs6 F5; clear c7_0 c7_1 c7_2 c7_3 c7_4 c7_5; obtain ⟨c7_0, c7_1, c7_2, c7_3, c7_4, c7_5⟩ := cs6 F7; clear c8_0 c8_1 c8_2 c8_3 c8_4 c8_5; obtain ⟨c8_0, c8_1, c8_2, c8_3, c8_4, c8_5⟩ := cs6 F8; clear c9_0 c9_1 c9_2 c9_3 c9_4 c9_5; obtain ⟨c9_0, c9_1, c9_2, c9_3, c9_4, c9_5⟩ := cs6 F9; clear hb)
      | (go_at_call 15; with_reducible refine cl (laws_eqState.M ya yb _ _ _ _ yp _ _ _ _ ys yt yc w17 (rc RO12) (rc RO4) (rc RT12) (rc RT4)) B fun w18 hb B => ?_; replace F1 := bn F1 hb; replace F4 := bn F4 hb; replace F5 := bn F5 hb; replace F7 := bn F7 hb; replace F8 := bn F8 hb; replace F9 := bn F9 hb; replace RP4 := rn RP4 hb; replace RS4 := rn RS4 hb; replace RO4 := rn RO4 hb; replace RT4 := rn RT4 hb; replace RP9 := rn RP9 hb; replace RS9 := rn RS9 hb; replace RP12 := rn RP12 hb; replace RS12 := rn RS12 hb; replace RO12 := rn RO12 hb; replace RT12 := rn RT12 hb; clear c1_0 c1_1 c1_2 c1_3 c1_4 c1_5; obtain ⟨c1_0, c1_1, c1_2, c1_3, c1_4, c1_5⟩ := cs6 F1; clear c4_0 c4_1 c4_2 c4_3 c4_4 c4_5; obtain ⟨c4_0, c4_1, c4_2, c4_3, c4_4, c4_5⟩ := cs6 F4; clear c5_0 c5_1 c5_2 c5_3 c5_4 c5_5; obtain ⟨c5_0, c5_1, c5_2, c5_3, c5_4, c5_5⟩ := cs6 F5; clear c7_0 c7_1 c7_2 c7_3 c7_4 c7_5; obtain ⟨c7_0, c7_1, c7_2, c7_3, c7_4, c7_5⟩ := cs6 F7; clear c8_0 c8_1 c8_2 c8_3 c8_4 c8_5; obtain ⟨c8_0, c8_1, c8_2, c8_3, c8_4, c8_5⟩ := cs6 F8; clear c9_0 c9_1 c9_2 c9_3 c9_4 c9_5; obtain ⟨c9_0, c9_1, c9_2, c9_3, c9_4, c9_5⟩ := cs6 F9; clear hb))
    all_goals try (go_ret; exact ⟨rfl, B.out⟩)
    all_goals (
      refine rg (n := 5) (S := fun W => W.heap[g7]? = some (.cells #[.string a, .string b, .slice AP9 qs.length kP9, .slice AS9 us.length kS9, .bool t, .string c] 34 (0, 0)) ∧ W.heap[g1]? = some (.cells #[.string a, .string b, .slice AP ps.length cP, .slice AS ss.length cS, .bool t, .string c] 27 (0, 0))) (ds := []) #[false, false, false, false, false] (by kernel_rfl) rfl rfl ⟨F7.out, F1.out⟩ id B (fun w19 hb B hHeld => ?_)
      refine with_tabW laws_FnExactStateCut.tab10 laws_FnExactStateCut.bits10 (fun HT_ HW_ => ?_)
      replace F1 := bn F1 hb
      replace F4 := bn F4 hb
      replace F5 := bn F5 hb
      replace F7 := bn F7 hb
      replace F8 := bn F8 hb
      replace F9 := bn F9 hb
      replace RP4 := rn RP4 hb
      replace RS4 := rn RS4 hb
      replace RO4 := rn RO4 hb
      replace RT4 := rn RT4 hb
      replace RP9 := rn RP9 hb
      replace RS9 := rn RS9 hb
      replace RP12 := rn RP12 hb
      replace RS12 := rn RS12 hb
      replace RO12 := rn RO12 hb
      replace RT12 := rn RT12 hb
      clear hb
      refine ta (i := 0) (N := some 52) (v := ?_) (bits 5 1) rfl rfl (take_ofW HT_.out HW_.out (by kernel_rfl)) (fun _ _ _ h => h) (by kernel_rfl) hHeld ?_ ?_; rotate_left; (intro w' hS; obtain ⟨s0, s1⟩ := hS; obtain ⟨q0, q1, q2, q3, q4, q5⟩ := cs6 (Aside0.mk s0); go_simp; with_reducible rfl)
      refine ta (i := 1) (N := some 53) (v := ?_) (bits 5 3) rfl rfl (take_ofW HT_.out HW_.out (by kernel_rfl)) (fun _ _ _ h => h) (by kernel_rfl) hHeld ?_ ?_; rotate_left; (intro w' hS; obtain ⟨s0, s1⟩ := hS; obtain ⟨q0, q1, q2, q3, q4, q5⟩ := cs6 (Aside0.mk s1); go_simp; with_reducible rfl)
      refine norm_ (a' := ?_) ?_ ?_
      rotate_left
      · simp only [Act.put, List.setIfInBounds_toArray, List.set_cons_zero, List.set_cons_succ, i64_w, i32_w]
        rfl
      refine one_ (i := 2) (N := some 54) (bits 5 7) rfl rfl (one_of HT_.out (by kernel_rfl)) (by decide) (fun K hK => ?_)
      refine goes_ Try.func13 (by kernel_rfl) rfl #[.agg #[.string a, .string b, .slice AP ps.length cP, .slice AS ss.length cS, .bool t, .string c]] (by rfl) rfl rfl (by (try simp only [List.map_toArray, List.map_cons, List.map_nil]); rfl) ?_
      with_reducible refine c2r (laws_toState.M a b _ _ ps _ _ ss t c qs us w19 (cb HRP B) (cb HRS B) ⟨by omega, by omega⟩ HQS.out HUS.out) B fun AP20 kP20 AS20 kS20 w20 hb B RP20 QP20 RS20 QS20 => ?_
      have DP4_P20 := fr QP20 RP4
      have DS4_P20 := fr QP20 RS4
      have DO4_P20 := fr QP20 RO4
      have DT4_P20 := fr QP20 RT4
      have DP9_P20 := fr QP20 RP9
      have DS9_P20 := fr QP20 RS9
      have DP12_P20 := fr QP20 RP12
      have DS12_P20 := fr QP20 RS12
      have DO12_P20 := fr QP20 RO12
      have DT12_P20 := fr QP20 RT12
      have DP4_S20 := fr QS20 RP4
      have DS4_S20 := fr QS20 RS4
      have DO4_S20 := fr QS20 RO4
      have DT4_S20 := fr QS20 RT4
      have DP9_S20 := fr QS20 RP9
      have DS9_S20 := fr QS20 RS9
      have DP12_S20 := fr QS20 RP12
      have DS12_S20 := fr QS20 RS12
      have DO12_S20 := fr QS20 RO12
      have DT12_S20 := fr QS20 RT12
      replace F1 := bn F1 hb
      replace F4 := bn F4 hb
      replace F5 := bn F5 hb
      replace F7 := bn F7 hb
      replace F8 := bn F8 hb
      replace F9 := bn F9 hb
      replace RP4 := rn RP4 hb
      replace RS4 := rn RS4 hb
      replace RO4 := rn RO4 hb
      replace RT4 := rn RT4 hb
      replace RP9 := rn RP9 hb
      replace RS9 := rn RS9 hb
      replace RP12 := rn RP12 hb
      replace RS12 := rn RS12 hb
      replace RO12 := rn RO12 hb
      replace RT12 := rn RT12 hb
      clear hb
      refine ⟨_, rfl, ?_⟩
      refine hK.out _ _ ⟨F7.out, F1.out⟩ (fun hHeld => ?_)
      clear hK K
      refine norm_ (a' := ?_) ?_ ?_
      rotate_left
      · show Act.put _ (some 54) _ = _
        simp only [Act.put, List.setIfInBounds_toArray, List.set_cons_zero, List.set_cons_succ, i64_w, i32_w]
        rfl
      clear QP20 QS20
      refine one_ (i := 3) (N := some 55) (bits 5 15) rfl rfl (one_of HT_.out (by kernel_rfl)) (by decide) (fun K hK => ?_)
      refine goes_ Try.func15 (by kernel_rfl) rfl #[.agg #[.string a, .string b, .slice AP9 qs.length kP9, .slice AS9 us.length kS9, .bool t, .string c], .agg #[.string a, .string b, .slice AP20 qs.length kP20, .slice AS20 us.length kS20, .bool t, .string c]] (by rfl) rfl rfl (by (try simp only [List.map_toArray, List.map_cons, List.map_nil]); rfl) ?_
      with_reducible refine cl (laws_eqState.M a b _ _ _ _ qs _ _ _ _ us t c w20 (rc RP9) (rc RP20) (rc RS9) (rc RS20)) B fun w21 hb B => ?_
      replace F1 := bn F1 hb
      replace F4 := bn F4 hb
      replace F5 := bn F5 hb
      replace F7 := bn F7 hb
      replace F8 := bn F8 hb
      replace F9 := bn F9 hb
      replace RP4 := rn RP4 hb
      replace RS4 := rn RS4 hb
      replace RO4 := rn RO4 hb
      replace RT4 := rn RT4 hb
      replace RP9 := rn RP9 hb
      replace RS9 := rn RS9 hb
      replace RP12 := rn RP12 hb
      replace RS12 := rn RS12 hb
      replace RO12 := rn RO12 hb
      replace RT12 := rn RT12 hb
      clear hb
      refine ⟨_, rfl, ?_⟩
      refine hK.out _ _ ⟨F7.out, F1.out⟩ (fun hHeld => ?_)
      clear hK K
      refine norm_ (a' := ?_) ?_ ?_
      rotate_left
      · show Act.put _ (some 55) _ = _
        simp only [Act.put, List.setIfInBounds_toArray, List.set_cons_zero, List.set_cons_succ, i64_w, i32_w]
        rfl
      refine pu (i := 4) (N := some 56) (v := ?_) (bits 5 31) rfl rfl (any_of HT_.out (by kernel_rfl)) (fun _ _ _ h => h) (by kernel_rfl) ?_ ?_; rotate_left; (intro w'; go_simp; with_reducible rfl)
      refine norm_ (a' := ?_) ?_ ?_
      rotate_left
      · simp only [Act.put, List.setIfInBounds_toArray, List.set_cons_zero, List.set_cons_succ, i64_w, i32_w]
        rfl
      refine done_ (done_of HT_.out (by kernel_rfl)) ?_
      clear c1_0 c1_1 c1_2 c1_3 c1_4 c1_5
      obtain ⟨c1_0, c1_1, c1_2, c1_3, c1_4, c1_5⟩ := cs6 F1
      clear c4_0 c4_1 c4_2 c4_3 c4_4 c4_5
      obtain ⟨c4_0, c4_1, c4_2, c4_3, c4_4, c4_5⟩ := cs6 F4
      clear c5_0 c5_1 c5_2 c5_3 c5_4 c5_5
      obtain ⟨c5_0, c5_1, c5_2, c5_3, c5_4, c5_5⟩ := cs6 F5
      clear c7_0 c7_1 c7_2 c7_3 c7_4 c7_5
      obtain ⟨c7_0, c7_1, c7_2, c7_3, c7_4, c7_5⟩ := cs6 F7
      clear c8_0 c8_1 c8_2 c8_3 c8_4 c8_5
      obtain ⟨c8_0, c8_1, c8_2, c8_3, c8_4, c8_5⟩ := cs6 F8
      clear c9_0 c9_1 c9_2 c9_3 c9_4 c9_5
      obtain ⟨c9_0, c9_1, c9_2, c9_3, c9_4, c9_5⟩ := cs6 F9)
    all_goals go_wp2_with (first
      | (go_at_call 32; with_reducible refine cm2 (laws_markState.M a b _ _ qs _ _ us t c 1 w w21 B RP9 RS9 (by assumption) (by assumption) (by assumption) (by assumption)) fun w22 hk B RX RY => ?_; replace F1 := bkp2 F1 hk RP9 RS9 (by decide) (by decide); replace F4 := bkp2 F4 hk RP9 RS9 (by decide) (by decide); replace F5 := bkp2 F5 hk RP9 RS9 (by decide) (by decide); replace F7 := bkp2 F7 hk RP9 RS9 (by decide) (by decide); replace F8 := bkp2 F8 hk RP9 RS9 (by decide) (by decide); replace F9 := bkp2 F9 hk RP9 RS9 (by decide) (by decide); replace RP4 := rkp2 RP4 rfl hk (fun k p q => DP4_P9.out k q p) (dty RS9 RP4 (by decide)); replace RS4 := rkp2 RS4 rfl hk (dty RP9 RS4 (by decide)) (fun k p q => DS4_S9.out k q p); replace RO4 := rkp2 RO4 rfl hk (fun k p q => DO4_P9.out k q p) (dty RS9 RO4 (by decide)); replace RT4 := rkp2 RT4 rfl hk (dty RP9 RT4 (by decide)) (fun k p q => DT4_S9.out k q p); replace RP12 := rkp2 RP12 rfl hk DP9_P12.out (dty RS9 RP12 (by decide)); replace RS12 := rkp2 RS12 rfl hk (dty RP9 RS12 (by decide)) DS9_S12.out; replace RO12 := rkp2 RO12 rfl hk DP9_O12.out (dty RS9 RO12 (by decide)); replace RT12 := rkp2 RT12 rfl hk (dty RP9 RT12 (by decide)) DS9_T12.out; replace RP9 := RX; replace RS9 := RY; clear hk; clear c1_0 c1_1 c1_2 c1_3 c1_4 c1_5; obtain ⟨c1_0, c1_1, c1_2, c1_3, c1_4, c1_5⟩ := cs6 F1; clear c4_0 c4_1 c4_2 c4_3 c4_4 c4_5; obtain ⟨c4_0, c4_1, c4_2, c4_3, c4_4, c4_5⟩ := cs6 F4; clear c5_0 c5_1 c5_2 c5_3 c5_4 c5_5; obtain ⟨c5_0, c5_1, c5_2, c5_3, c5_4, c5_5⟩ := cs6 F5; clear c8_0 c8_1 c8_2 c8_3 c8_4 c8_5; obtain ⟨c8_0, c8_1, c8_2, c8_3, c8_4, c8_5⟩ := cs6 F8; clear c9_0 c9_1 c9_2 c9_3 c9_4 c9_5; obtain ⟨c9_0, c9_1, c9_2, c9_3, c9_4, c9_5⟩ := cs6 F9; skip)
      | (go_at_call 15; with_reducible refine cl (laws_eqState.M xa xb _ _ _ _ xp _ _ _ _ xs xt xc w22 (rc RP12) (rc RP4) (rc RS12) (rc RS4)) B fun w23 hb B => ?_; replace F1 := bn F1 hb; replace F4 := bn F4 hb; replace F5 := bn F5 hb; replace F7 := bn F7 hb; replace F8 := bn F8 hb; replace F9 := bn F9 hb; replace RP4 := rn RP4 hb; replace RS4 := rn RS4 hb; replace RO4 := rn RO4 hb; replace RT4 := rn RT4 hb; replace RP9 := rn RP9 hb; replace RS9 := rn RS9 hb; replace RP12 := rn RP12 hb; replace RS12 := rn RS12 hb; replace RO12 := rn RO12 hb; replace RT12 := rn RT12 hb; clear c1_0 c1_1 c1_2 c1_3 c1_4 c1_5; obtain ⟨c1_0, c1_1, c1_2, c1_3, c1_4, c1_5⟩ := cs6 F1; clear c4_0 c4_1 c4_2 c4_3 c4_4 c4_5; obtain ⟨c4_0, c4_1, c4_2, c4_3, c4_4, c4_5⟩ := cs6 F4; clear c5_0 c5_1 c5_2 c5_3 c5_4 c5_5; obtain ⟨c5_0, c5_1, c5_2, c5_3, c5_4, c5_5⟩ := cs6 F5; clear c8_0 c8_1 c8_2 c8_3 c8_4 c8_5; obtain ⟨c8_0, c8_1, c8_2, c8_3, c8_4, c8_5⟩ := cs6 F8; clear c9_0 c9_1 c9_2 c9_3 c9_4 c9_5; obtain ⟨c9_0, c9_1, c9_2, c9_3, c9_4, c9_5⟩ := cs6 F9; clear hb)
      | (go_at_call 15; with_reducible refine cl (laws_eqState.M ya yb _ _ _ _ yp _ _ _ _ ys yt yc w23 (rc RO12) (rc RO4) (rc RT12) (rc RT4)) B fun w24 hb B => ?_; replace F1 := bn F1 hb; replace F4 := bn F4 hb; replace F5 := bn F5 hb; replace F7 := bn F7 hb; replace F8 := bn F8 hb; replace F9 := bn F9 hb; replace RP4 := rn RP4 hb; replace RS4 := rn RS4 hb; replace RO4 := rn RO4 hb; replace RT4 := rn RT4 hb; replace RP9 := rn RP9 hb; replace RS9 := rn RS9 hb; replace RP12 := rn RP12 hb; replace RS12 := rn RS12 hb; replace RO12 := rn RO12 hb; replace RT12 := rn RT12 hb; clear c1_0 c1_1 c1_2 c1_3 c1_4 c1_5; obtain ⟨c1_0, c1_1, c1_2, c1_3, c1_4, c1_5⟩ := cs6 F1; clear c4_0 c4_1 c4_2 c4_3 c4_4 c4_5; obtain ⟨c4_0, c4_1, c4_2, c4_3, c4_4, c4_5⟩ := cs6 F4; clear c5_0 c5_1 c5_2 c5_3 c5_4 c5_5; obtain ⟨c5_0, c5_1, c5_2, c5_3, c5_4, c5_5⟩ := cs6 F5; clear c8_0 c8_1 c8_2 c8_3 c8_4 c8_5; obtain ⟨c8_0, c8_1, c8_2, c8_3, c8_4, c8_5⟩ := cs6 F8; clear c9_0 c9_1 c9_2 c9_3 c9_4 c9_5; obtain ⟨c9_0, c9_1, c9_2, c9_3, c9_4, c9_5⟩ := cs6 F9; clear hb)
      | (go_at_call 32; with_reducible refine cm2 (laws_markState.M xa xb _ _ xp _ _ xs xt xc 1 w w24 B RP12 RS12 (by assumption) (by assumption) (by assumption) (by assumption)) fun w25 hk B RX RY => ?_; replace F1 := bkp2 F1 hk RP12 RS12 (by decide) (by decide); replace F4 := bkp2 F4 hk RP12 RS12 (by decide) (by decide); replace F5 := bkp2 F5 hk RP12 RS12 (by decide) (by decide); replace F7 := bkp2 F7 hk RP12 RS12 (by decide) (by decide); replace F8 := bkp2 F8 hk RP12 RS12 (by decide) (by decide); replace F9 := bkp2 F9 hk RP12 RS12 (by decide) (by decide); replace RP4 := rkp2 RP4 rfl hk (fun k p q => DP4_P12.out k q p) (dty RS12 RP4 (by decide)); replace RS4 := rkp2 RS4 rfl hk (dty RP12 RS4 (by decide)) (fun k p q => DS4_S12.out k q p); replace RO4 := rkp2 RO4 rfl hk (fun k p q => DO4_P12.out k q p) (dty RS12 RO4 (by decide)); replace RT4 := rkp2 RT4 rfl hk (dty RP12 RT4 (by decide)) (fun k p q => DT4_S12.out k q p); replace RP9 := rkp2 RP9 rfl hk (fun k p q => DP9_P12.out k q p) (dty RS12 RP9 (by decide)); replace RS9 := rkp2 RS9 rfl hk (dty RP12 RS9 (by decide)) (fun k p q => DS9_S12.out k q p); replace RO12 := rkp2 RO12 rfl hk DP12_O12.out (dty RS12 RO12 (by decide)); replace RT12 := rkp2 RT12 rfl hk (dty RP12 RT12 (by decide)) DS12_T12.out; replace RP12 := RX; replace RS12 := RY; clear hk; clear c1_0 c1_1 c1_2 c1_3 c1_4 c1_5; obtain ⟨c1_0, c1_1, c1_2, c1_3, c1_4, c1_5⟩ := cs6 F1; clear c4_0 c4_1 c4_2 c4_3 c4_4 c4_5; obtain ⟨c4_0, c4_1, c4_2, c4_3, c4_4, c4_5⟩ := cs6 F4; clear c5_0 c5_1 c5_2 c5_3 c5_4 c5_5; obtain ⟨c5_0, c5_1, c5_2, c5_3, c5_4, c5_5⟩ := cs6 F5; clear c8_0 c8_1 c8_2 c8_3 c8_4 c8_5; obtain ⟨c8_0, c8_1, c8_2, c8_3, c8_4, c8_5⟩ := cs6 F8; clear c9_0 c9_1 c9_2 c9_3 c9_4 c9_5; obtain ⟨c9_0, c9_1, c9_2, c9_3, c9_4, c9_5⟩ := cs6 F9; skip)
      | (go_at_call 32; with_reducible refine cm2 (laws_markState.M ya yb _ _ yp _ _ ys yt yc (1 + 2 * (xp.length : Int) + 3 * (xs.length : Int)) w w25 B RO12 RT12 (by assumption) (by assumption) (by assumption) (by assumption)) fun w26 hk B RX RY => ?_; replace F1 := bkp2 F1 hk RO12 RT12 (by decide) (by decide); replace F4 := bkp2 F4 hk RO12 RT12 (by decide) (by decide); replace F5 := bkp2 F5 hk RO12 RT12 (by decide) (by decide); replace F7 := bkp2 F7 hk RO12 RT12 (by decide) (by decide); replace F8 := bkp2 F8 hk RO12 RT12 (by decide) (by decide); replace F9 := bkp2 F9 hk RO12 RT12 (by decide) (by decide); replace RP4 := rkp2 RP4 rfl hk (fun k p q => DP4_O12.out k q p) (dty RT12 RP4 (by decide)); replace RS4 := rkp2 RS4 rfl hk (dty RO12 RS4 (by decide)) (fun k p q => DS4_T12.out k q p); replace RO4 := rkp2 RO4 rfl hk (fun k p q => DO4_O12.out k q p) (dty RT12 RO4 (by decide)); replace RT4 := rkp2 RT4 rfl hk (dty RO12 RT4 (by decide)) (fun k p q => DT4_T12.out k q p); replace RP9 := rkp2 RP9 rfl hk (fun k p q => DP9_O12.out k q p) (dty RT12 RP9 (by decide)); replace RS9 := rkp2 RS9 rfl hk (dty RO12 RS9 (by decide)) (fun k p q => DS9_T12.out k q p); replace RP12 := rkp2 RP12 rfl hk (fun k p q => DP12_O12.out k q p) (dty RT12 RP12 (by decide)); replace RS12 := rkp2 RS12 rfl hk (dty RO12 RS12 (by decide)) (fun k p q => DS12_T12.out k q p); replace RO12 := RX; replace RT12 := RY; clear hk; clear c1_0 c1_1 c1_2 c1_3 c1_4 c1_5; obtain ⟨c1_0, c1_1, c1_2, c1_3, c1_4, c1_5⟩ := cs6 F1; clear c4_0 c4_1 c4_2 c4_3 c4_4 c4_5; obtain ⟨c4_0, c4_1, c4_2, c4_3, c4_4, c4_5⟩ := cs6 F4; clear c5_0 c5_1 c5_2 c5_3 c5_4 c5_5; obtain ⟨c5_0, c5_1, c5_2, c5_3, c5_4, c5_5⟩ := cs6 F5; clear c8_0 c8_1 c8_2 c8_3 c8_4 c8_5; obtain ⟨c8_0, c8_1, c8_2, c8_3, c8_4, c8_5⟩ := cs6 F8; clear c9_0 c9_1 c9_2 c9_3 c9_4 c9_5; obtain ⟨c9_0, c9_1, c9_2, c9_3, c9_4, c9_5⟩ := cs6 F9; skip)
      | (go_at_call 33; with_reducible refine cl (laws_heldState.M xa xb _ _ xp _ _ xs xt xc 1 w26 (rc RP12) (rl2 RP12) (rc RS12) (rl2 RS12) (by assumption) (by assumption) (by assumption) (by assumption)) B fun w27 hb B => ?_; replace F1 := bn F1 hb; replace F4 := bn F4 hb; replace F5 := bn F5 hb; replace F7 := bn F7 hb; replace F8 := bn F8 hb; replace F9 := bn F9 hb; replace RP4 := rn RP4 hb; replace RS4 := rn RS4 hb; replace RO4 := rn RO4 hb; replace RT4 := rn RT4 hb; replace RP9 := rn RP9 hb; replace RS9 := rn RS9 hb; replace RP12 := rn RP12 hb; replace RS12 := rn RS12 hb; replace RO12 := rn RO12 hb; replace RT12 := rn RT12 hb; clear c1_0 c1_1 c1_2 c1_3 c1_4 c1_5; obtain ⟨c1_0, c1_1, c1_2, c1_3, c1_4, c1_5⟩ := cs6 F1; clear c4_0 c4_1 c4_2 c4_3 c4_4 c4_5; obtain ⟨c4_0, c4_1, c4_2, c4_3, c4_4, c4_5⟩ := cs6 F4; clear c5_0 c5_1 c5_2 c5_3 c5_4 c5_5; obtain ⟨c5_0, c5_1, c5_2, c5_3, c5_4, c5_5⟩ := cs6 F5; clear c8_0 c8_1 c8_2 c8_3 c8_4 c8_5; obtain ⟨c8_0, c8_1, c8_2, c8_3, c8_4, c8_5⟩ := cs6 F8; clear c9_0 c9_1 c9_2 c9_3 c9_4 c9_5; obtain ⟨c9_0, c9_1, c9_2, c9_3, c9_4, c9_5⟩ := cs6 F9; clear hb)
      | (go_at_call 33; with_reducible refine cl (laws_heldState.M ya yb _ _ yp _ _ ys yt yc (1 + 2 * (xp.length : Int) + 3 * (xs.length : Int)) w27 (rc RO12) (rl2 RO12) (rc RT12) (rl2 RT12) (by assumption) (by assumption) (by assumption) (by assumption)) B fun w28 hb B => ?_; replace F1 := bn F1 hb; replace F4 := bn F4 hb; replace F5 := bn F5 hb; replace F7 := bn F7 hb; replace F8 := bn F8 hb; replace F9 := bn F9 hb; replace RP4 := rn RP4 hb; replace RS4 := rn RS4 hb; replace RO4 := rn RO4 hb; replace RT4 := rn RT4 hb; replace RP9 := rn RP9 hb; replace RS9 := rn RS9 hb; replace RP12 := rn RP12 hb; replace RS12 := rn RS12 hb; replace RO12 := rn RO12 hb; replace RT12 := rn RT12 hb; clear c1_0 c1_1 c1_2 c1_3 c1_4 c1_5; obtain ⟨c1_0, c1_1, c1_2, c1_3, c1_4, c1_5⟩ := cs6 F1; clear c4_0 c4_1 c4_2 c4_3 c4_4 c4_5; obtain ⟨c4_0, c4_1, c4_2, c4_3, c4_4, c4_5⟩ := cs6 F4; clear c5_0 c5_1 c5_2 c5_3 c5_4 c5_5; obtain ⟨c5_0, c5_1, c5_2, c5_3, c5_4, c5_5⟩ := cs6 F5; clear c8_0 c8_1 c8_2 c8_3 c8_4 c8_5; obtain ⟨c8_0, c8_1, c8_2, c8_3, c8_4, c8_5⟩ := cs6 F8; clear c9_0 c9_1 c9_2 c9_3 c9_4 c9_5; obtain ⟨c9_0, c9_1, c9_2, c9_3, c9_4, c9_5⟩ := cs6 F9; clear hb)
      | (go_at_call 13; with_reducible refine c2r (laws_toState.M a b _ _ ps _ _ ss t c qs us w28 (cb HRP B) (cb HRS B) ⟨by omega, by omega⟩ HQS.out HUS.out) B fun AP29 kP29 AS29 kS29 w29 hb B RP29 QP29 RS29 QS29 => ?_; have DP4_P29 := fr QP29 RP4; have DS4_P29 := fr QP29 RS4; have DO4_P29 := fr QP29 RO4; have DT4_P29 := fr QP29 RT4; have DP9_P29 := fr QP29 RP9; have DS9_P29 := fr QP29 RS9; have DP12_P29 := fr QP29 RP12; have DS12_P29 := fr QP29 RS12; have DO12_P29 := fr QP29 RO12; have DT12_P29 := fr QP29 RT12; have DP4_S29 := fr QS29 RP4; have DS4_S29 := fr QS29 RS4; have DO4_S29 := fr QS29 RO4; have DT4_S29 := fr QS29 RT4; have DP9_S29 := fr QS29 RP9; have DS9_S29 := fr QS29 RS9; have DP12_S29 := fr QS29 RP12; have DS12_S29 := fr QS29 RS12; have DO12_S29 := fr QS29 RO12; have DT12_S29 := fr QS29 RT12; replace F1 := bn F1 hb; replace F4 := bn F4 hb; replace F5 := bn F5 hb; replace F7 := bn F7 hb; replace F8 := bn F8 hb; replace F9 := bn F9 hb; replace RP4 := rn RP4 hb; replace RS4 := rn RS4 hb; replace RO4 := rn RO4 hb; replace RT4 := rn RT4 hb; replace RP9 := rn RP9 hb; replace RS9 := rn RS9 hb; replace RP12 := rn RP12 hb; replace RS12 := rn RS12 hb; replace RO12 := rn RO12 hb; replace RT12 := rn RT12 hb; clear QP29 QS29; clear c4_0 c4_1 c4_2 c4_3 c4_4 c4_5; obtain ⟨c4_0, c4_1, c4_2, c4_3, c4_4, c4_5⟩ := cs6 F4; clear c5_0 c5_1 c5_2 c5_3 c5_4 c5_5; obtain ⟨c5_0, c5_1, c5_2, c5_3, c5_4, c5_5⟩ := cs6 F5; clear c8_0 c8_1 c8_2 c8_3 c8_4 c8_5; obtain ⟨c8_0, c8_1, c8_2, c8_3, c8_4, c8_5⟩ := cs6 F8; clear c9_0 c9_1 c9_2 c9_3 c9_4 c9_5; obtain ⟨c9_0, c9_1, c9_2, c9_3, c9_4, c9_5⟩ := cs6 F9; clear hb)
      | (go_at_call 31; with_reducible refine c4r (impl_StateCut.Mr a b _ _ qs _ _ us t c xa xb xp xs xt xc ya yb yp ys yt yc ok HM.out w29 (rc RP29) (rc RS29) (rl RP29) (rl RS29)) B fun AP30 kP30 AS30 kS30 AO30 kO30 AT30 kT30 w30 hb B RP30 QP30 RS30 QS30 RO30 QO30 RT30 QT30 DP30_O30 DS30_T30 => ?_; have DP4_P30 := fr QP30 RP4; have DS4_P30 := fr QP30 RS4; have DO4_P30 := fr QP30 RO4; have DT4_P30 := fr QP30 RT4; have DP9_P30 := fr QP30 RP9; have DS9_P30 := fr QP30 RS9; have DP12_P30 := fr QP30 RP12; have DS12_P30 := fr QP30 RS12; have DO12_P30 := fr QP30 RO12; have DT12_P30 := fr QP30 RT12; have DP29_P30 := fr QP30 RP29; have DS29_P30 := fr QP30 RS29; have DP4_S30 := fr QS30 RP4; have DS4_S30 := fr QS30 RS4; have DO4_S30 := fr QS30 RO4; have DT4_S30 := fr QS30 RT4; have DP9_S30 := fr QS30 RP9; have DS9_S30 := fr QS30 RS9; have DP12_S30 := fr QS30 RP12; have DS12_S30 := fr QS30 RS12; have DO12_S30 := fr QS30 RO12; have DT12_S30 := fr QS30 RT12; have DP29_S30 := fr QS30 RP29; have DS29_S30 := fr QS30 RS29; have DP4_O30 := fr QO30 RP4; have DS4_O30 := fr QO30 RS4; have DO4_O30 := fr QO30 RO4; have DT4_O30 := fr QO30 RT4; have DP9_O30 := fr QO30 RP9; have DS9_O30 := fr QO30 RS9; have DP12_O30 := fr QO30 RP12; have DS12_O30 := fr QO30 RS12; have DO12_O30 := fr QO30 RO12; have DT12_O30 := fr QO30 RT12; have DP29_O30 := fr QO30 RP29; have DS29_O30 := fr QO30 RS29; have DP4_T30 := fr QT30 RP4; have DS4_T30 := fr QT30 RS4; have DO4_T30 := fr QT30 RO4; have DT4_T30 := fr QT30 RT4; have DP9_T30 := fr QT30 RP9; have DS9_T30 := fr QT30 RS9; have DP12_T30 := fr QT30 RP12; have DS12_T30 := fr QT30 RS12; have DO12_T30 := fr QT30 RO12; have DT12_T30 := fr QT30 RT12; have DP29_T30 := fr QT30 RP29; have DS29_T30 := fr QT30 RS29; replace F1 := bn F1 hb; replace F4 := bn F4 hb; replace F5 := bn F5 hb; replace F7 := bn F7 hb; replace F8 := bn F8 hb; replace F9 := bn F9 hb; replace RP4 := rn RP4 hb; replace RS4 := rn RS4 hb; replace RO4 := rn RO4 hb; replace RT4 := rn RT4 hb; replace RP9 := rn RP9 hb; replace RS9 := rn RS9 hb; replace RP12 := rn RP12 hb; replace RS12 := rn RS12 hb; replace RO12 := rn RO12 hb; replace RT12 := rn RT12 hb; clear QP30 QS30 QO30 QT30; clear c4_0 c4_1 c4_2 c4_3 c4_4 c4_5; obtain ⟨c4_0, c4_1, c4_2, c4_3, c4_4, c4_5⟩ := cs6 F4; clear c5_0 c5_1 c5_2 c5_3 c5_4 c5_5; obtain ⟨c5_0, c5_1, c5_2, c5_3, c5_4, c5_5⟩ := cs6 F5; clear c8_0 c8_1 c8_2 c8_3 c8_4 c8_5; obtain ⟨c8_0, c8_1, c8_2, c8_3, c8_4, c8_5⟩ := cs6 F8; clear c9_0 c9_1 c9_2 c9_3 c9_4 c9_5; obtain ⟨c9_0, c9_1, c9_2, c9_3, c9_4, c9_5⟩ := cs6 F9; clear hb)
      | ((with_reducible refine gate_dst (N := 14) rfl ?_); refine bx ?hg (N := 14) ?hd (cs := #[.string (⟨#[]⟩ : ByteArray), .string (⟨#[]⟩ : ByteArray), .slice none 0 0, .slice none 0 0, .bool false, .string (⟨#[]⟩ : ByteArray)]) (t := 34) ?hr B ?_; (case hd => rfl); (case hg => rfl); (case hr => first | (go_simp; done) | (go_simp; rfl)); intro g14 w31 hb B F14 L14 E14; have N1_14 := ne1 E14 F1; have N4_14 := ne1 E14 F4; have N5_14 := ne1 E14 F5; have N7_14 := ne1 E14 F7; have N8_14 := ne1 E14 F8; have N9_14 := ne1 E14 F9; replace F1 := bn F1 hb; replace F4 := bn F4 hb; replace F5 := bn F5 hb; replace F7 := bn F7 hb; replace F8 := bn F8 hb; replace F9 := bn F9 hb; replace RP4 := rn RP4 hb; replace RS4 := rn RS4 hb; replace RO4 := rn RO4 hb; replace RT4 := rn RT4 hb; replace RP9 := rn RP9 hb; replace RS9 := rn RS9 hb; replace RP12 := rn RP12 hb; replace RS12 := rn RS12 hb; replace RO12 := rn RO12 hb; replace RT12 := rn RT12 hb; replace RP30 := rn RP30 hb; replace RS30 := rn RS30 hb; replace RO30 := rn RO30 hb; replace RT30 := rn RT30 hb; clear c4_0 c4_1 c4_2 c4_3 c4_4 c4_5; obtain ⟨c4_0, c4_1, c4_2, c4_3, c4_4, c4_5⟩ := cs6 F4; clear c5_0 c5_1 c5_2 c5_3 c5_4 c5_5; obtain ⟨c5_0, c5_1, c5_2, c5_3, c5_4, c5_5⟩ := cs6 F5; clear c8_0 c8_1 c8_2 c8_3 c8_4 c8_5; obtain ⟨c8_0, c8_1, c8_2, c8_3, c8_4, c8_5⟩ := cs6 F8; clear c9_0 c9_1 c9_2 c9_3 c9_4 c9_5; obtain ⟨c9_0, c9_1, c9_2, c9_3, c9_4, c9_5⟩ := cs6 F9; obtain ⟨c14_0, c14_1, c14_2, c14_3, c14_4, c14_5⟩ := cs6 F14; clear hb E14)
      | ((with_reducible refine gate_dst (N := 15) rfl ?_); refine bx ?hg (N := 15) ?hd (cs := #[.string (⟨#[]⟩ : ByteArray), .string (⟨#[]⟩ : ByteArray), .slice none 0 0, .slice none 0 0, .bool false, .string (⟨#[]⟩ : ByteArray)]) (t := 34) ?hr B ?_; (case hd => rfl); (case hg => rfl); (case hr => first | (go_simp; done) | (go_simp; rfl)); intro g15 w32 hb B F15 L15 E15; have N1_15 := ne1 E15 F1; have N4_15 := ne1 E15 F4; have N5_15 := ne1 E15 F5; have N7_15 := ne1 E15 F7; have N8_15 := ne1 E15 F8; have N9_15 := ne1 E15 F9; have N14_15 := ne1 E15 F14; replace F1 := bn F1 hb; replace F4 := bn F4 hb; replace F5 := bn F5 hb; replace F7 := bn F7 hb; replace F8 := bn F8 hb; replace F9 := bn F9 hb; replace F14 := bn F14 hb; replace RP4 := rn RP4 hb; replace RS4 := rn RS4 hb; replace RO4 := rn RO4 hb; replace RT4 := rn RT4 hb; replace RP9 := rn RP9 hb; replace RS9 := rn RS9 hb; replace RP12 := rn RP12 hb; replace RS12 := rn RS12 hb; replace RO12 := rn RO12 hb; replace RT12 := rn RT12 hb; replace RP30 := rn RP30 hb; replace RS30 := rn RS30 hb; replace RO30 := rn RO30 hb; replace RT30 := rn RT30 hb; clear c4_0 c4_1 c4_2 c4_3 c4_4 c4_5; obtain ⟨c4_0, c4_1, c4_2, c4_3, c4_4, c4_5⟩ := cs6 F4; clear c5_0 c5_1 c5_2 c5_3 c5_4 c5_5; obtain ⟨c5_0, c5_1, c5_2, c5_3, c5_4, c5_5⟩ := cs6 F5; clear c8_0 c8_1 c8_2 c8_3 c8_4 c8_5; obtain ⟨c8_0, c8_1, c8_2, c8_3, c8_4, c8_5⟩ := cs6 F8; clear c9_0 c9_1 c9_2 c9_3 c9_4 c9_5; obtain ⟨c9_0, c9_1, c9_2, c9_3, c9_4, c9_5⟩ := cs6 F9; clear c14_0 c14_1 c14_2 c14_3 c14_4 c14_5; obtain ⟨c14_0, c14_1, c14_2, c14_3, c14_4, c14_5⟩ := cs6 F14; obtain ⟨c15_0, c15_1, c15_2, c15_3, c15_4, c15_5⟩ := cs6 F15; clear hb E15)
      | ((with_reducible refine gate_store (t := 34) (p := 14) rfl ?_); obtain ⟨y0, y1, y2, y3, y4, y5⟩ := cs6 F14; have z0 := fz F14 0; have z1 := fz F14 1; have z2 := fz F14 2; have z3 := fz F14 3; have z4 := fz F14 4; have z5 := fz F14 5; refine sx (t := 34) (t' := 34) (p := 14) (v := ?vo33) ?hg ?ho ?hn 0 [.string xa, .string xb, .slice AP30 xp.length kP30, .slice AS30 xs.length kS30, .bool xt, .string xc] [.string xa, .string xb, .slice AP30 xp.length kP30, .slice AS30 xs.length kS30, .bool xt, .string xc] ?hr B F14 L14 rfl (Nat.le_of_ble_eq_true rfl) ?_; (case ho => rfl); (case hg => rfl); (case hn => rfl); (case hr => first | (go_simp; done) | (go_simp; rfl)); intro w33 hk B G; replace F1 := bk F1 hk N1_14.out; replace F4 := bk F4 hk N4_14.out; replace F5 := bk F5 hk N5_14.out; replace F7 := bk F7 hk N7_14.out; replace F8 := bk F8 hk N8_14.out; replace F9 := bk F9 hk N9_14.out; replace F15 := bk F15 hk N14_15.out.symm; replace RP4 := rk RP4 F14 (by decide) hk; replace RS4 := rk RS4 F14 (by decide) hk; replace RO4 := rk RO4 F14 (by decide) hk; replace RT4 := rk RT4 F14 (by decide) hk; replace RP9 := rk RP9 F14 (by decide) hk; replace RS9 := rk RS9 F14 (by decide) hk; replace RP12 := rk RP12 F14 (by decide) hk; replace RS12 := rk RS12 F14 (by decide) hk; replace RO12 := rk RO12 F14 (by decide) hk; replace RT12 := rk RT12 F14 (by decide) hk; replace RP30 := rk RP30 F14 (by decide) hk; replace RS30 := rk RS30 F14 (by decide) hk; replace RO30 := rk RO30 F14 (by decide) hk; replace RT30 := rk RT30 F14 (by decide) hk; replace F14 := G; clear c4_0 c4_1 c4_2 c4_3 c4_4 c4_5; obtain ⟨c4_0, c4_1, c4_2, c4_3, c4_4, c4_5⟩ := cs6 F4; clear c5_0 c5_1 c5_2 c5_3 c5_4 c5_5; obtain ⟨c5_0, c5_1, c5_2, c5_3, c5_4, c5_5⟩ := cs6 F5; clear c8_0 c8_1 c8_2 c8_3 c8_4 c8_5; obtain ⟨c8_0, c8_1, c8_2, c8_3, c8_4, c8_5⟩ := cs6 F8; clear c9_0 c9_1 c9_2 c9_3 c9_4 c9_5; obtain ⟨c9_0, c9_1, c9_2, c9_3, c9_4, c9_5⟩ := cs6 F9; clear c14_0 c14_1 c14_2 c14_3 c14_4 c14_5; obtain ⟨c14_0, c14_1, c14_2, c14_3, c14_4, c14_5⟩ := cs6 F14; clear c15_0 c15_1 c15_2 c15_3 c15_4 c15_5; obtain ⟨c15_0, c15_1, c15_2, c15_3, c15_4, c15_5⟩ := cs6 F15; clear hk y0 z0 y1 z1 y2 z2 y3 z3 y4 z4 y5 z5)
      | ((with_reducible refine gate_store (t := 34) (p := 15) rfl ?_); obtain ⟨y0, y1, y2, y3, y4, y5⟩ := cs6 F15; have z0 := fz F15 0; have z1 := fz F15 1; have z2 := fz F15 2; have z3 := fz F15 3; have z4 := fz F15 4; have z5 := fz F15 5; refine sx (t := 34) (t' := 34) (p := 15) (v := ?vo34) ?hg ?ho ?hn 0 [.string ya, .string yb, .slice AO30 yp.length kO30, .slice AT30 ys.length kT30, .bool yt, .string yc] [.string ya, .string yb, .slice AO30 yp.length kO30, .slice AT30 ys.length kT30, .bool yt, .string yc] ?hr B F15 L15 rfl (Nat.le_of_ble_eq_true rfl) ?_; (case ho => rfl); (case hg => rfl); (case hn => rfl); (case hr => first | (go_simp; done) | (go_simp; rfl)); intro w34 hk B G; replace F1 := bk F1 hk N1_15.out; replace F4 := bk F4 hk N4_15.out; replace F5 := bk F5 hk N5_15.out; replace F7 := bk F7 hk N7_15.out; replace F8 := bk F8 hk N8_15.out; replace F9 := bk F9 hk N9_15.out; replace F14 := bk F14 hk N14_15.out; replace RP4 := rk RP4 F15 (by decide) hk; replace RS4 := rk RS4 F15 (by decide) hk; replace RO4 := rk RO4 F15 (by decide) hk; replace RT4 := rk RT4 F15 (by decide) hk; replace RP9 := rk RP9 F15 (by decide) hk; replace RS9 := rk RS9 F15 (by decide) hk; replace RP12 := rk RP12 F15 (by decide) hk; replace RS12 := rk RS12 F15 (by decide) hk; replace RO12 := rk RO12 F15 (by decide) hk; replace RT12 := rk RT12 F15 (by decide) hk; replace RP30 := rk RP30 F15 (by decide) hk; replace RS30 := rk RS30 F15 (by decide) hk; replace RO30 := rk RO30 F15 (by decide) hk; replace RT30 := rk RT30 F15 (by decide) hk; replace F15 := G; clear c4_0 c4_1 c4_2 c4_3 c4_4 c4_5; obtain ⟨c4_0, c4_1, c4_2, c4_3, c4_4, c4_5⟩ := cs6 F4; clear c5_0 c5_1 c5_2 c5_3 c5_4 c5_5; obtain ⟨c5_0, c5_1, c5_2, c5_3, c5_4, c5_5⟩ := cs6 F5; clear c8_0 c8_1 c8_2 c8_3 c8_4 c8_5; obtain ⟨c8_0, c8_1, c8_2, c8_3, c8_4, c8_5⟩ := cs6 F8; clear c9_0 c9_1 c9_2 c9_3 c9_4 c9_5; obtain ⟨c9_0, c9_1, c9_2, c9_3, c9_4, c9_5⟩ := cs6 F9; clear c14_0 c14_1 c14_2 c14_3 c14_4 c14_5; obtain ⟨c14_0, c14_1, c14_2, c14_3, c14_4, c14_5⟩ := cs6 F14; clear c15_0 c15_1 c15_2 c15_3 c15_4 c15_5; obtain ⟨c15_0, c15_1, c15_2, c15_3, c15_4, c15_5⟩ := cs6 F15; clear hk y0 z0 y1 z1 y2 z2 y3 z3 y4 z4 y5 z5)
      | (go_at_call 15; with_reducible refine cl (laws_eqState.M xa xb _ _ _ _ xp _ _ _ _ xs xt xc w34 (rc RP30) (rc RP4) (rc RS30) (rc RS4)) B fun w35 hb B => ?_; replace F1 := bn F1 hb; replace F5 := bn F5 hb; replace F7 := bn F7 hb; replace F8 := bn F8 hb; replace F9 := bn F9 hb; replace F15 := bn F15 hb; replace RO4 := rn RO4 hb; replace RT4 := rn RT4 hb; replace RP9 := rn RP9 hb; replace RS9 := rn RS9 hb; replace RP12 := rn RP12 hb; replace RS12 := rn RS12 hb; replace RO12 := rn RO12 hb; replace RT12 := rn RT12 hb; replace RO30 := rn RO30 hb; replace RT30 := rn RT30 hb; clear c5_0 c5_1 c5_2 c5_3 c5_4 c5_5; obtain ⟨c5_0, c5_1, c5_2, c5_3, c5_4, c5_5⟩ := cs6 F5; clear c8_0 c8_1 c8_2 c8_3 c8_4 c8_5; obtain ⟨c8_0, c8_1, c8_2, c8_3, c8_4, c8_5⟩ := cs6 F8; clear c9_0 c9_1 c9_2 c9_3 c9_4 c9_5; obtain ⟨c9_0, c9_1, c9_2, c9_3, c9_4, c9_5⟩ := cs6 F9; clear c15_0 c15_1 c15_2 c15_3 c15_4 c15_5; obtain ⟨c15_0, c15_1, c15_2, c15_3, c15_4, c15_5⟩ := cs6 F15; clear hb)
      | (go_at_call 15; with_reducible refine cl (laws_eqState.M ya yb _ _ _ _ yp _ _ _ _ ys yt yc w35 (rc RO30) (rc RO4) (rc RT30) (rc RT4)) B fun w36 hb B => ?_; replace F1 := bn F1 hb; replace F7 := bn F7 hb; replace F8 := bn F8 hb; replace F9 := bn F9 hb; replace RP9 := rn RP9 hb; replace RS9 := rn RS9 hb; replace RP12 := rn RP12 hb; replace RS12 := rn RS12 hb; replace RO12 := rn RO12 hb; replace RT12 := rn RT12 hb; clear c8_0 c8_1 c8_2 c8_3 c8_4 c8_5; obtain ⟨c8_0, c8_1, c8_2, c8_3, c8_4, c8_5⟩ := cs6 F8; clear c9_0 c9_1 c9_2 c9_3 c9_4 c9_5; obtain ⟨c9_0, c9_1, c9_2, c9_3, c9_4, c9_5⟩ := cs6 F9; clear hb)
      | (go_at_call 33; with_reducible refine cl (laws_heldState.M xa xb _ _ xp _ _ xs xt xc 1 w36 (rc RP12) (rl2 RP12) (rc RS12) (rl2 RS12) (by assumption) (by assumption) (by assumption) (by assumption)) B fun w37 hb B => ?_; replace F1 := bn F1 hb; replace F7 := bn F7 hb; replace F9 := bn F9 hb; replace RP9 := rn RP9 hb; replace RS9 := rn RS9 hb; replace RO12 := rn RO12 hb; replace RT12 := rn RT12 hb; clear c9_0 c9_1 c9_2 c9_3 c9_4 c9_5; obtain ⟨c9_0, c9_1, c9_2, c9_3, c9_4, c9_5⟩ := cs6 F9; clear hb)
      | (go_at_call 33; with_reducible refine cl (laws_heldState.M ya yb _ _ yp _ _ ys yt yc (1 + 2 * (xp.length : Int) + 3 * (xs.length : Int)) w37 (rc RO12) (rl2 RO12) (rc RT12) (rl2 RT12) (by assumption) (by assumption) (by assumption) (by assumption)) B fun w38 hb B => ?_; replace F1 := bn F1 hb; replace F7 := bn F7 hb; replace RP9 := rn RP9 hb; replace RS9 := rn RS9 hb; clear hb))
    all_goals try (go_ret; exact ⟨rfl, B.out⟩)
  · have HRP := Aside0.mk hrp
    have HRS := Aside0.mk hrs
    have HSA := Aside0.mk hs
    clear hrp hrs hs
    go_enter Try.func7, Try.ntmps7
    go_wp2_with (first
      | ((with_reducible refine gate_dst (N := 1) rfl ?_); refine bx ?hg (N := 1) ?hd (cs := #[.string a, .string b, .slice AP ps.length cP, .slice AS ss.length cS, .bool t, .string c]) (t := 27) ?hr B ?_; (case hd => rfl); (case hg => rfl); (case hr => first | (go_simp; done) | (go_simp; rfl)); intro g1 w1001 hb B F1 L1 E1; obtain ⟨c1_0, c1_1, c1_2, c1_3, c1_4, c1_5⟩ := cs6 F1; clear hb E1)
      | (go_at_call 11; with_reducible refine cx (laws_szState.M a b _ _ ps _ _ ss t c 1048576 w1001 (cb HRP B) (cb HRS B) (by omega) HSA.out) B fun v1002 hv1002 w1002 hb B => ?_; clear hb))
    all_goals first
      | (go_ret; exact ⟨rfl, B.out⟩)
      | (exfalso; omega)
def laws_FnExactStateCut.f (k : Nat) (a b : ByteArray) (ps : List S108) (ss : List S112) (t : Bool) (c : ByteArray) : Option Bool := if a.size ≤ 9223372036854775807 ∧ b.size ≤ 9223372036854775807 ∧ c.size ≤ 9223372036854775807 ∧ ∀ y ∈ ps, y.f0.size ≤ 9223372036854775807 then some true else none
theorem laws_FnExactStateCut.calls (k : Nat) (a b : ByteArray) (AP : Option Addr) (cP : Nat) (ps : List S108) (AS : Option Addr) (cS : Nat) (ss : List S112) (t : Bool) (c : ByteArray) (r : Bool) (w : World) (hrp : Kd.C k108 w AP ps.length ps) (hcp : ps.length ≤ cP) (hrs : Kd.C k112 w AS ss.length ss) (hcs : ss.length ≤ cS) (h : laws_FnExactStateCut.f k a b ps ss t c = some r) : Calls Try.prog 7 #[.agg #[.string a, .string b, .slice AP ps.length cP, .slice AS ss.length cS, .bool t, .string c]] w fun e w' => e = .returned (.bool r) ∧ Below w.heap.size w w' := by
  unfold laws_FnExactStateCut.f at h
  split at h
  · rename_i hc
    obtain rfl := Option.some.inj h
    exact laws_FnExactStateCut.M a b AP cP ps AS cS ss t c w hrp hrs hc
  · cases h

end Go.Proofs.Ytenfiihcdhnamaa.PFnExactStateCut
