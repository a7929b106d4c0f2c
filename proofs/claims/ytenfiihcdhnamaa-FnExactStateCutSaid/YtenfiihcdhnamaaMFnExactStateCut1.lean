/- Walks over models, part 1: scutst keyval ipairs keyseq ises istate ipplace mkcap copyP iin copyS ipart c2r icutst szst tost. -/
import Derived.Test.YtenfiihcdhnamaaPFnExactStateCutx0
import Derived.Deep.RegionHeld3
import Derived.Lib.Strings
import Derived.Laws.BytesArg
import Derived.Test.YtenfiihcdhnamaaPFnExactStateCutx48
import Derived.Test.YtenfiihcdhnamaaPFnExactStateCutx51
import Derived.Test.YtenfiihcdhnamaaPFnExactStateCutx49
import Derived.Test.YtenfiihcdhnamaaPFnExactStateCutx52
import Derived.Test.YtenfiihcdhnamaaMFnExactStateCut0
namespace Go.Proofs.Ytenfiihcdhnamaa.PFnExactStateCut
open Go.RowKit Go.Proofs.YtenfiihcdhnamaaW.PrintWords Go.Proofs.YtenfiihcdhnamaaW.PrintLast Go.Proofs.YtenfiihcdhnamaaW.PrintMore
set_option linter.unusedVariables false
set_option linter.unusedSimpArgs false
set_option maxHeartbeats 4000000
set_option maxRecDepth 100000
attribute [local go_sem] leq_str geq_str gtr_str
theorem cs_bad {s : SM} (h : cutOk s = false) : csM s = (SM.zero, SM.zero, false) := if_neg (by rw [h]; simp)
def spec_StateCut.T4 : Bool × List (List Nat × List Nat) := (true, [([], []), ([], []), ([1], [1]), ([], []), ([2, 3], [2, 3]), ([], []), ([], []), ([6], [6]), ([5, 7, 4], [5, 7]), ([0, 4, 8], [0, 4, 8]), ([], []), ([10, 9, 8, 0, 1, 2, 3, 4, 5, 6, 7, 8, 9, 10], [9, 10])])
def spec_StateCut.B4 : List Nat := [0, 0, 2, 0, 14, 0, 0, 64, 254, 511, 0, 2047]
theorem spec_StateCut.tab4 : rtab .any (opsOf Try.f30 4) = spec_StateCut.T4 := by kernel_rfl
theorem spec_StateCut.bits4 : waitsOk spec_StateCut.T4.2 spec_StateCut.B4 = true := by kernel_rfl
def spec_StateCut.T5 : Bool × List (List Nat × List Nat) := (true, [([], []), ([], []), ([1], [1]), ([], []), ([2, 3], [2, 3]), ([], []), ([], []), ([6], [6]), ([5, 7, 4], [5, 7]), ([0, 4, 8], [0, 4, 8]), ([], []), ([10, 9, 8, 0, 1, 2, 3, 4, 5, 6, 7, 8, 9, 10], [9, 10])])
def spec_StateCut.B5 : List Nat := [0, 0, 2, 0, 14, 0, 0, 64, 254, 511, 0, 2047]
theorem spec_StateCut.tab5 : rtab .any (opsOf Try.f30 5) = spec_StateCut.T5 := by kernel_rfl
theorem spec_StateCut.bits5 : waitsOk spec_StateCut.T5.2 spec_StateCut.B5 = true := by kernel_rfl
def spec_StateCut.T6 : Bool × List (List Nat × List Nat) := (true, [([], []), ([], []), ([0, 0], [0]), ([1, 2, 0, 1, 2], [1]), ([3, 0, 1, 2, 3], [])])
def spec_StateCut.B6 : List Nat := [0, 0, 1, 7, 15]
theorem spec_StateCut.tab6 : rtab .any (opsOf Try.f30 6) = spec_StateCut.T6 := by kernel_rfl
theorem spec_StateCut.bits6 : waitsOk spec_StateCut.T6.2 spec_StateCut.B6 = true := by kernel_rfl
theorem spec_StateCut.Mt (a b : ByteArray) (AP : Option Addr) (cP : Nat) (ps : List S61) (AS : Option Addr) (cS : Nat) (ss : List S100) (c : ByteArray) (w : World) (hrp : Kd.C k61 w AP ps.length ps) (hrs : Kd.C k100 w AS ss.length ss) (hcp : ps.length ≤ cP) (hcs : ss.length ≤ cS) (hs : stB a b ps ss true c = true) (hcut : cutB a b c = true) : Calls Try.prog 30 #[.agg #[.string a, .string b, .slice AP ps.length cP, .slice AS ss.length cS, .bool true, .string c]] w fun e w' => ∃ v2 v3 v4 v5, e = .returned (.tuple #[.agg #[.string (csM ⟨a, b, ps, ss, true, c⟩).1.a, .string (csM ⟨a, b, ps, ss, true, c⟩).1.b, v2, v3, .bool (csM ⟨a, b, ps, ss, true, c⟩).1.t, .string (csM ⟨a, b, ps, ss, true, c⟩).1.c], .agg #[.string (csM ⟨a, b, ps, ss, true, c⟩).2.1.a, .string (csM ⟨a, b, ps, ss, true, c⟩).2.1.b, v4, v5, .bool (csM ⟨a, b, ps, ss, true, c⟩).2.1.t, .string (csM ⟨a, b, ps, ss, true, c⟩).2.1.c], .bool (csM ⟨a, b, ps, ss, true, c⟩).2.2]) ∧ Kd.R k61 61 w' w.heap.size (fun _ => True) v2 (csM ⟨a, b, ps, ss, true, c⟩).1.ps ∧ Kd.R k100 100 w' w.heap.size (fun _ => True) v3 (csM ⟨a, b, ps, ss, true, c⟩).1.ss ∧ Kd.R k61 61 w' w.heap.size (fun _ => True) v4 (csM ⟨a, b, ps, ss, true, c⟩).2.1.ps ∧ Kd.R k100 100 w' w.heap.size (fun _ => True) v5 (csM ⟨a, b, ps, ss, true, c⟩).2.1.ss ∧ (∀ k_, v4.ownBlock = some k_ → v2.ownBlock = some k_ → False) ∧ (∀ k_, v5.ownBlock = some k_ → v3.ownBlock = some k_ → False) ∧ Below w.heap.size w w' := by
  have B := Aside0.mk (Below.refl w.heap.size w)
  have hu := Try.underlying34
  have hu2 := Try.underlying30
  have HRP := Aside0.mk hrp
  have HRS := Aside0.mk hrs
  have HCP := Aside0.mk hcp
  have HCS := Aside0.mk hcs
  clear hrp hrs hcp hcs
  have hsl : ss.length ≤ 1000000 := by
    have := sesB_len (stB_parts.mp hs).2.2.1
    omega
  rw [show csM ⟨a, b, ps, ss, true, c⟩ = (⟨a, c, inM ps a c, ss, false, ⟨#[]⟩⟩, ⟨c, b, inM ps c b, ss, false, ⟨#[]⟩⟩, true) from if_pos (by unfold cutOk SM.ok; rw [hs, hcut]; rfl)]
  go_enter Try.func30, Try.ntmps30
  go_wp2_with (first
    | ((with_reducible refine gate_dst (N := 1) rfl ?_); refine bx ?hg (N := 1) ?hd (cs := #[.string a, .string b, .slice AP ps.length cP, .slice AS ss.length cS, .bool true, .string c]) (t := 34) ?hr B ?_; (case hd => rfl); (case hg => rfl); (case hr => first | (go_simp; done) | (go_simp; rfl)); intro g1 w1 hb B F1 L1 E1; obtain ⟨c1_0, c1_1, c1_2, c1_3, c1_4, c1_5⟩ := cs6 F1; clear hb E1)
    | ((with_reducible refine gate_dst (N := 2) rfl ?_); refine bx ?hg (N := 2) ?hd (cs := #[.string (⟨#[]⟩ : ByteArray), .string (⟨#[]⟩ : ByteArray), .slice none 0 0, .slice none 0 0, .bool false, .string (⟨#[]⟩ : ByteArray)]) (t := 34) ?hr B ?_; (case hd => rfl); (case hg => rfl); (case hr => first | (go_simp; done) | (go_simp; rfl)); intro g2 w2 hb B F2 L2 E2; have N1_2 := ne1 E2 F1; replace F1 := bn F1 hb; clear c1_0 c1_1 c1_2 c1_3 c1_4 c1_5; obtain ⟨c1_0, c1_1, c1_2, c1_3, c1_4, c1_5⟩ := cs6 F1; clear hb E2)
    | ((with_reducible refine gate_dst (N := 3) rfl ?_); refine bx ?hg (N := 3) ?hd (cs := #[.string (⟨#[]⟩ : ByteArray), .string (⟨#[]⟩ : ByteArray), .slice none 0 0, .slice none 0 0, .bool false, .string (⟨#[]⟩ : ByteArray)]) (t := 34) ?hr B ?_; (case hd => rfl); (case hg => rfl); (case hr => first | (go_simp; done) | (go_simp; rfl)); intro g3 w3 hb B F3 L3 E3; have N1_3 := ne1 E3 F1; have N2_3 := ne1 E3 F2; replace F1 := bn F1 hb; replace F2 := bn F2 hb; clear c1_0 c1_1 c1_2 c1_3 c1_4 c1_5; obtain ⟨c1_0, c1_1, c1_2, c1_3, c1_4, c1_5⟩ := cs6 F1; clear hb E3)
    | (go_at_call 51; with_reducible refine cl (spec_IntervalCut.Mt a b c hcut _) B fun w4 hb B => ?_; replace F1 := bn F1 hb; replace F2 := bn F2 hb; replace F3 := bn F3 hb; clear c1_0 c1_1 c1_2 c1_3 c1_4 c1_5; obtain ⟨c1_0, c1_1, c1_2, c1_3, c1_4, c1_5⟩ := cs6 F1; clear hb)
    | ((with_reducible refine gate_dst (N := 5) rfl ?_); refine bx ?hg (N := 5) ?hd (cs := #[.string (⟨#[]⟩ : ByteArray), .string (⟨#[]⟩ : ByteArray)]) (t := 30) ?hr B ?_; (case hd => rfl); (case hg => rfl); (case hr => first | (go_simp; done) | (go_simp; rfl)); intro g5 w5 hb B F5 L5 E5; have N1_5 := ne1 E5 F1; have N2_5 := ne1 E5 F2; have N3_5 := ne1 E5 F3; replace F1 := bn F1 hb; replace F2 := bn F2 hb; replace F3 := bn F3 hb; clear c1_0 c1_1 c1_2 c1_3 c1_4 c1_5; obtain ⟨c1_0, c1_1, c1_2, c1_3, c1_4, c1_5⟩ := cs6 F1; obtain ⟨c5_0, c5_1⟩ := cs2 F5; clear hb E5)
    | ((with_reducible refine gate_dst (N := 6) rfl ?_); refine bx ?hg (N := 6) ?hd (cs := #[.string (⟨#[]⟩ : ByteArray), .string (⟨#[]⟩ : ByteArray)]) (t := 30) ?hr B ?_; (case hd => rfl); (case hg => rfl); (case hr => first | (go_simp; done) | (go_simp; rfl)); intro g6 w6 hb B F6 L6 E6; have N1_6 := ne1 E6 F1; have N2_6 := ne1 E6 F2; have N3_6 := ne1 E6 F3; have N5_6 := ne1 E6 F5; replace F1 := bn F1 hb; replace F2 := bn F2 hb; replace F3 := bn F3 hb; replace F5 := bn F5 hb; clear c1_0 c1_1 c1_2 c1_3 c1_4 c1_5; obtain ⟨c1_0, c1_1, c1_2, c1_3, c1_4, c1_5⟩ := cs6 F1; clear c5_0 c5_1; obtain ⟨c5_0, c5_1⟩ := cs2 F5; obtain ⟨c6_0, c6_1⟩ := cs2 F6; clear hb E6)
    | ((with_reducible refine gate_store (t := 30) (p := 5) rfl ?_); obtain ⟨y0, y1⟩ := cs2 F5; have z0 := fz F5 0; have z1 := fz F5 1; refine sx (t := 30) (t' := 30) (p := 5) (v := ?vo7) ?hg ?ho ?hn 0 [.string a, .string c] [.string a, .string c] ?hr B F5 L5 rfl (Nat.le_of_ble_eq_true rfl) ?_; (case ho => rfl); (case hg => rfl); (case hn => rfl); (case hr => first | (go_simp; done) | (go_simp; rfl)); intro w7 hk B G; replace F1 := bk F1 hk N1_5.out; replace F2 := bk F2 hk N2_5.out; replace F3 := bk F3 hk N3_5.out; replace F6 := bk F6 hk N5_6.out.symm; replace F5 := G; clear c1_0 c1_1 c1_2 c1_3 c1_4 c1_5; obtain ⟨c1_0, c1_1, c1_2, c1_3, c1_4, c1_5⟩ := cs6 F1; clear c5_0 c5_1; obtain ⟨c5_0, c5_1⟩ := cs2 F5; clear c6_0 c6_1; obtain ⟨c6_0, c6_1⟩ := cs2 F6; clear hk y0 z0 y1 z1)
    | ((with_reducible refine gate_store (t := 30) (p := 6) rfl ?_); obtain ⟨y0, y1⟩ := cs2 F6; have z0 := fz F6 0; have z1 := fz F6 1; refine sx (t := 30) (t' := 30) (p := 6) (v := ?vo8) ?hg ?ho ?hn 0 [.string c, .string b] [.string c, .string b] ?hr B F6 L6 rfl (Nat.le_of_ble_eq_true rfl) ?_; (case ho => rfl); (case hg => rfl); (case hn => rfl); (case hr => first | (go_simp; done) | (go_simp; rfl)); intro w8 hk B G; replace F1 := bk F1 hk N1_6.out; replace F2 := bk F2 hk N2_6.out; replace F3 := bk F3 hk N3_6.out; replace F5 := bk F5 hk N5_6.out; replace F6 := G; clear c1_0 c1_1 c1_2 c1_3 c1_4 c1_5; obtain ⟨c1_0, c1_1, c1_2, c1_3, c1_4, c1_5⟩ := cs6 F1; clear c5_0 c5_1; obtain ⟨c5_0, c5_1⟩ := cs2 F5; clear c6_0 c6_1; obtain ⟨c6_0, c6_1⟩ := cs2 F6; clear hk y0 z0 y1 z1)
    | (go_at_call 12; with_reducible refine cl (spec_StateValid.M a b _ _ ps _ _ ss true c _ (cb HRP B) (cb HRS B)) B fun w9 hb B => ?_; replace F1 := bn F1 hb; replace F2 := bn F2 hb; replace F3 := bn F3 hb; replace F5 := bn F5 hb; replace F6 := bn F6 hb; clear c1_0 c1_1 c1_2 c1_3 c1_4 c1_5; obtain ⟨c1_0, c1_1, c1_2, c1_3, c1_4, c1_5⟩ := cs6 F1; clear c5_0 c5_1; obtain ⟨c5_0, c5_1⟩ := cs2 F5; clear c6_0 c6_1; obtain ⟨c6_0, c6_1⟩ := cs2 F6; clear hb))
  all_goals (
    refine rg (n := 12) (S := fun W => W.heap[g5]? = some (.cells #[.string a, .string c] 30 (0, 0)) ∧ W.heap[g1]? = some (.cells #[.string a, .string b, .slice AP ps.length cP, .slice AS ss.length cS, .bool true, .string c] 34 (0, 0))) (ds := []) #[false, false, false, false, false, false, false, false, false, false, false, false] (by kernel_rfl) rfl rfl ⟨F5.out, F1.out⟩ id B (fun w10 hb B hHeld => ?_)
    refine with_tabW spec_StateCut.tab4 spec_StateCut.bits4 (fun HT_ HW_ => ?_)
    replace F1 := bn F1 hb
    replace F2 := bn F2 hb
    replace F3 := bn F3 hb
    replace F5 := bn F5 hb
    replace F6 := bn F6 hb
    clear hb
    refine join_ 0 (bits 12 4095) (σ := Option Addr × Nat × Option Addr × Nat × Option Addr × Nat × List S100 × Nat) (fun (AIs37, kIs37, AL38, kL38, AL41, kL41, z41, g8) => [(33, .agg #[.string a, .string c]), (34, .pointer (some ⟨g1, 2, none⟩)), (35, .slice AP ps.length cP), (36, .agg #[.string a, .string c]), (37, .slice AIs37 (inM ps a c).length kIs37), (38, .slice AL38 ([] : List S100).length kL38), (39, .pointer (some ⟨g1, 3, none⟩)), (40, .slice AS ss.length cS), (41, .slice AL41 z41.length kL41), (42, .agg #[.string a, .string c, .slice AIs37 (inM ps a c).length kIs37, .slice AL41 z41.length kL41, .bool false, .string (⟨#[]⟩ : ByteArray)]), (8, .pointer (some ⟨g8, 0, none⟩))]) (fun (AIs37, kIs37, AL38, kL38, AL41, kL41, z41, g8) W => Aside0 (Below w.heap.size w W) ∧ Aside0 (W.heap[g1]? = some (.cells #[.string a, .string b, .slice AP ps.length cP, .slice AS ss.length cS, .bool true, .string c] 34 (0, 0))) ∧ Aside0 (W.heap[g2]? = some (.cells #[.string (⟨#[]⟩ : ByteArray), .string (⟨#[]⟩ : ByteArray), .slice none 0 0, .slice none 0 0, .bool false, .string (⟨#[]⟩ : ByteArray)] 34 (0, 0))) ∧ Aside0 (W.heap[g3]? = some (.cells #[.string (⟨#[]⟩ : ByteArray), .string (⟨#[]⟩ : ByteArray), .slice none 0 0, .slice none 0 0, .bool false, .string (⟨#[]⟩ : ByteArray)] 34 (0, 0))) ∧ Aside0 (W.heap[g5]? = some (.cells #[.string a, .string c] 30 (0, 0))) ∧ Aside0 (W.heap[g6]? = some (.cells #[.string c, .string b] 30 (0, 0))) ∧ Aside0 (W.heap[g8]? = some (.cells #[.string a, .string c, .slice AIs37 (inM ps a c).length kIs37, .slice AL41 z41.length kL41, .bool false, .string (⟨#[]⟩ : ByteArray)] 34 (0, 0))) ∧ Aside0 (w.heap.size ≤ g8) ∧ Aside0 (g1 ≠ g8) ∧ Aside0 (g2 ≠ g8) ∧ Aside0 (g3 ≠ g8) ∧ Aside0 (g5 ≠ g8) ∧ Aside0 (g6 ≠ g8) ∧ Aside0 (Ow k61 61 W w.heap.size (.slice AIs37 (inM ps a c).length kIs37) (inM ps a c)) ∧ Aside0 (Ow k100 100 W w.heap.size (.slice AL41 z41.length kL41) z41) ∧ ss = z41) ?_ (fun J => ?_)
    rotate_left
    · refine ta (i := 0) (N := some 33) (v := ?_) (bits 12 1) rfl rfl (take_ofW HT_.out HW_.out (by kernel_rfl)) (fun _ _ _ h => h) (by kernel_rfl) hHeld ?_ ?_; rotate_left; (intro w' hS; obtain ⟨s0, s1⟩ := hS; obtain ⟨q0, q1⟩ := cs2 (Aside0.mk s0); go_simp; with_reducible rfl)
      refine pu (i := 1) (N := some 34) (v := ?_) (bits 12 3) rfl rfl (any_of HT_.out (by kernel_rfl)) (fun _ _ _ h => h) (by kernel_rfl) ?_ ?_; rotate_left; (intro w'; go_simp; with_reducible rfl)
      refine ta (i := 2) (N := some 35) (v := ?_) (bits 12 7) rfl rfl (take_ofW HT_.out HW_.out (by kernel_rfl)) (fun _ _ _ h => h) (by kernel_rfl) hHeld ?_ ?_; rotate_left; (intro w' hS; obtain ⟨s0, s1⟩ := hS; obtain ⟨q0, q1, q2, q3, q4, q5⟩ := cs6 (Aside0.mk s1); go_simp; with_reducible rfl)
      refine ta (i := 3) (N := some 36) (v := ?_) (bits 12 15) rfl rfl (take_ofW HT_.out HW_.out (by kernel_rfl)) (fun _ _ _ h => h) (by kernel_rfl) hHeld ?_ ?_; rotate_left; (intro w' hS; obtain ⟨s0, s1⟩ := hS; obtain ⟨q0, q1⟩ := cs2 (Aside0.mk s0); go_simp; with_reducible rfl)
      refine pu (i := 6) (N := some 39) (v := ?_) (bits 12 79) rfl rfl (any_of HT_.out (by kernel_rfl)) (fun _ _ _ h => h) (by kernel_rfl) ?_ ?_; rotate_left; (intro w'; go_simp; with_reducible rfl)
      refine ta (i := 7) (N := some 40) (v := ?_) (bits 12 207) rfl rfl (take_ofW HT_.out HW_.out (by kernel_rfl)) (fun _ _ _ h => h) (by kernel_rfl) hHeld ?_ ?_; rotate_left; (intro w' hS; obtain ⟨s0, s1⟩ := hS; obtain ⟨q0, q1, q2, q3, q4, q5⟩ := cs6 (Aside0.mk s1); go_simp; with_reducible rfl)
      refine norm_ (a' := ?_) ?_ ?_
      rotate_left
      · simp only [Act.put, List.setIfInBounds_toArray, List.set_cons_zero, List.set_cons_succ, i64_w, i32_w]
        rfl
      refine three_ (i := 4) (j := 5) (k := 10) (Ni := some 37) (Nj := some 38) (Nk := some 8) (bits 12 223) (bits 12 239) (bits 12 1231) rfl rfl rfl rfl rfl rfl (three_of HT_.out (by kernel_rfl)) (by decide) (by decide) (by decide) (fun K hK => ?_) (fun K hK => ?_) (fun K hK => ?_)
      · refine goes_ Try.func74 (by kernel_rfl) rfl #[.slice AP ps.length cP, .agg #[.string a, .string c]] (by rfl) rfl rfl (by (try simp only [List.map_toArray, List.map_cons, List.map_nil]); rfl) ?_
        with_reducible refine cr (spec_PairsIn.M _ _ ps a c _ (cb HRP B) HCP.out) B fun AIs37 kIs37 w11 hb B RIs37 QIs37 => ?_
        replace F1 := bn F1 hb
        replace F2 := bn F2 hb
        replace F3 := bn F3 hb
        replace F5 := bn F5 hb
        replace F6 := bn F6 hb
        clear hb
        refine ⟨_, rfl, ?_⟩
        refine hK.out _ _ ⟨F5.out, F1.out⟩ (fun hHeld => ?_)
        clear hK K
        refine norm_ (a' := ?_) ?_ ?_
        rotate_left
        · show Act.put _ (some 37) _ = _
          simp only [Act.put, List.setIfInBounds_toArray, List.set_cons_zero, List.set_cons_succ, i64_w, i32_w]
          rfl
        clear QIs37
        refine two_ (i := 5) (j := 10) (Ni := some 38) (Nj := some 8) (bits 12 255) (bits 12 1247) rfl rfl rfl rfl (two_of HT_.out (by kernel_rfl)) (by decide) (by decide) (fun K hK => ?_) (fun K hK => ?_)
        · refine lts k100 100 (by rfl) rfl ([] : List S100) [] ?hr (Reps.none _ _) (by simp) B (fun z38 hz38 AL38 kL38 w12 hb B RL38 QL38 => ?_)
          (case hr => first | (go_simp; done) | (go_simp; rfl))
          have DIs37_L38 := fr QL38 RIs37
          replace F1 := bn F1 hb
          replace F2 := bn F2 hb
          replace F3 := bn F3 hb
          replace F5 := bn F5 hb
          replace F6 := bn F6 hb
          replace RIs37 := rn RIs37 hb
          clear hb QL38
          subst hz38
          refine hK.out _ _ ⟨F5.out, F1.out⟩ (fun hHeld => ?_)
          clear hK K
          refine norm_ (a' := ?_) ?_ ?_
          rotate_left
          · show Act.put _ (some 38) _ = _
            simp only [Act.put, List.setIfInBounds_toArray, List.set_cons_zero, List.set_cons_succ, i64_w, i32_w]
            rfl
          refine two_ (i := 8) (j := 10) (Ni := some 41) (Nj := some 8) (bits 12 511) (bits 12 1279) rfl rfl rfl rfl (two_of HT_.out (by kernel_rfl)) (by decide) (by decide) (fun K hK => ?_) (fun K hK => ?_)
          · refine aps k100 100 (by rfl) rfl (.tmp 38) (.tmp 40) 32 (.agg #[.int .i64 (0), .int .i64 (0), .int .i64 (0)]) 24 rfl Try.underlying32 info100 rfl (by decide) (by omega) rfl rfl RL38 (cb HRS B) (fun x cs h => by rw [k100_open h]; exact k100_mkM _ _ _ x) (by first | omega | (simp only [List.length_append, List.length_nil, List.length_cons]; omega)) B (fun z41 hz41 AL41 kL41 w13 hg B RL41 hat => ?_)
            replace F1 := bga F1 hg RL38 (by decide)
            replace F2 := bga F2 hg RL38 (by decide)
            replace F3 := bga F3 hg RL38 (by decide)
            replace F5 := bga F5 hg RL38 (by decide)
            replace F6 := bga F6 hg RL38 (by decide)
            replace RIs37 := rga RIs37 rfl hg (dty RL38 RIs37 (by decide))
            clear hg hat
            refine hK.out _ _ ⟨F5.out, F1.out⟩ (fun hHeld => ?_)
            clear hK K
            refine norm_ (a' := ?_) ?_ ?_
            rotate_left
            · show Act.put _ (some 41) _ = _
              simp only [Act.put, List.setIfInBounds_toArray, List.set_cons_zero, List.set_cons_succ, i64_w, i32_w]
              rfl
            refine pu (i := 9) (N := some 42) (v := ?_) (bits 12 1023) rfl rfl (any_of HT_.out (by kernel_rfl)) (fun _ _ _ h => h) (by kernel_rfl) ?_ ?_; rotate_left; (intro w'; go_simp; with_reducible rfl)
            refine norm_ (a' := ?_) ?_ ?_
            rotate_left
            · simp only [Act.put, List.setIfInBounds_toArray, List.set_cons_zero, List.set_cons_succ, i64_w, i32_w]
              rfl
            refine one_ (i := 10) (N := some 8) (bits 12 2047) rfl rfl (one_of HT_.out (by kernel_rfl)) (by decide) (fun K hK => ?_)
            refine bxs (cs := #[.string (⟨#[]⟩ : ByteArray), .string (⟨#[]⟩ : ByteArray), .slice none 0 0, .slice none 0 0, .bool false, .string (⟨#[]⟩ : ByteArray)]) (t := 34) (by rfl) rfl ?hr B (fun g8 w14 hb B F8 L8 E8 => ?_)
            (case hr => first | (go_simp; done) | (go_simp; rfl))
            have N1_8 := ne1 E8 F1
            have N2_8 := ne1 E8 F2
            have N3_8 := ne1 E8 F3
            have N5_8 := ne1 E8 F5
            have N6_8 := ne1 E8 F6
            replace F1 := bn F1 hb
            replace F2 := bn F2 hb
            replace F3 := bn F3 hb
            replace F5 := bn F5 hb
            replace F6 := bn F6 hb
            replace RIs37 := rn RIs37 hb
            replace RL41 := rn RL41 hb
            clear hb E8
            refine hK.out _ _ ⟨F5.out, F1.out⟩ (fun hHeld => ?_)
            clear hK K
            refine norm_ (a' := ?_) ?_ ?_
            rotate_left
            · show Act.put _ (some 8) _ = _
              simp only [Act.put, List.setIfInBounds_toArray, List.set_cons_zero, List.set_cons_succ, i64_w, i32_w]
              rfl
            refine one_ (i := 11) (N := none) (bits 12 4095) rfl rfl (one_of HT_.out (by kernel_rfl)) (by decide) (fun K hK => ?_)
            obtain ⟨y0, y1, y2, y3, y4, y5⟩ := cs6 F8
            have z0 := fz F8 0
            have z1 := fz F8 1
            have z2 := fz F8 2
            have z3 := fz F8 3
            have z4 := fz F8 4
            have z5 := fz F8 5
            refine sxs (g := g8) 0 [.string a, .string c, .slice AIs37 (inM ps a c).length kIs37, .slice AL41 z41.length kL41, .bool false, .string (⟨#[]⟩ : ByteArray)] [.string a, .string c, .slice AIs37 (inM ps a c).length kIs37, .slice AL41 z41.length kL41, .bool false, .string (⟨#[]⟩ : ByteArray)] (by rfl) rfl ?hr B F8 L8 rfl (Nat.le_of_ble_eq_true rfl) (fun w15 hk B G => ?_)
            (case hr => first | (go_simp; done) | (go_simp; rfl))
            replace F1 := bk F1 hk N1_8.out
            replace F2 := bk F2 hk N2_8.out
            replace F3 := bk F3 hk N3_8.out
            replace F5 := bk F5 hk N5_8.out
            replace F6 := bk F6 hk N6_8.out
            replace RIs37 := rk RIs37 F8 (by decide) hk
            replace RL41 := rk RL41 F8 (by decide) hk
            replace F8 := G
            clear hk y0 z0 y1 z1 y2 z2 y3 z3 y4 z4 y5 z5
            refine hK.out _ _ ⟨F5.out, F1.out⟩ (fun hHeld => ?_)
            clear hK K
            refine norm_ (a' := _) ?_ (J ⟨AIs37, kIs37, AL38, kL38, AL41, kL41, z41, g8⟩ _ ⟨B, F1, F2, F3, F5, F6, F8, L8, N1_8, N2_8, N3_8, N5_8, N6_8, RIs37, RL41, (by rw [← hz41]; rfl)⟩)
            simp only [putAll, Act.put, List.setIfInBounds_toArray, List.set_cons_zero, List.set_cons_succ]
            try rfl
          · refine bxs (cs := #[.string (⟨#[]⟩ : ByteArray), .string (⟨#[]⟩ : ByteArray), .slice none 0 0, .slice none 0 0, .bool false, .string (⟨#[]⟩ : ByteArray)]) (t := 34) (by rfl) rfl ?hr B (fun g8 w13 hb B F8 L8 E8 => ?_)
            (case hr => first | (go_simp; done) | (go_simp; rfl))
            have N1_8 := ne1 E8 F1
            have N2_8 := ne1 E8 F2
            have N3_8 := ne1 E8 F3
            have N5_8 := ne1 E8 F5
            have N6_8 := ne1 E8 F6
            replace F1 := bn F1 hb
            replace F2 := bn F2 hb
            replace F3 := bn F3 hb
            replace F5 := bn F5 hb
            replace F6 := bn F6 hb
            replace RIs37 := rn RIs37 hb
            replace RL38 := rn RL38 hb
            clear hb E8
            refine hK.out _ _ ⟨F5.out, F1.out⟩ (fun hHeld => ?_)
            clear hK K
            refine norm_ (a' := ?_) ?_ ?_
            rotate_left
            · show Act.put _ (some 8) _ = _
              simp only [Act.put, List.setIfInBounds_toArray, List.set_cons_zero, List.set_cons_succ, i64_w, i32_w]
              rfl
            refine one_ (i := 8) (N := some 41) (bits 12 1535) rfl rfl (one_of HT_.out (by kernel_rfl)) (by decide) (fun K hK => ?_)
            refine aps k100 100 (by rfl) rfl (.tmp 38) (.tmp 40) 32 (.agg #[.int .i64 (0), .int .i64 (0), .int .i64 (0)]) 24 rfl Try.underlying32 info100 rfl (by decide) (by omega) rfl rfl RL38 (cb HRS B) (fun x cs h => by rw [k100_open h]; exact k100_mkM _ _ _ x) (by first | omega | (simp only [List.length_append, List.length_nil, List.length_cons]; omega)) B (fun z41 hz41 AL41 kL41 w14 hg B RL41 hat => ?_)
            replace F1 := bga F1 hg RL38 (by decide)
            replace F2 := bga F2 hg RL38 (by decide)
            replace F3 := bga F3 hg RL38 (by decide)
            replace F5 := bga F5 hg RL38 (by decide)
            replace F6 := bga F6 hg RL38 (by decide)
            replace F8 := bga F8 hg RL38 (by decide)
            replace RIs37 := rga RIs37 rfl hg (dty RL38 RIs37 (by decide))
            clear hg hat
            refine hK.out _ _ ⟨F5.out, F1.out⟩ (fun hHeld => ?_)
            clear hK K
            refine norm_ (a' := ?_) ?_ ?_
            rotate_left
            · show Act.put _ (some 41) _ = _
              simp only [Act.put, List.setIfInBounds_toArray, List.set_cons_zero, List.set_cons_succ, i64_w, i32_w]
              rfl
            refine pu (i := 9) (N := some 42) (v := ?_) (bits 12 2047) rfl rfl (any_of HT_.out (by kernel_rfl)) (fun _ _ _ h => h) (by kernel_rfl) ?_ ?_; rotate_left; (intro w'; go_simp; with_reducible rfl)
            refine norm_ (a' := ?_) ?_ ?_
            rotate_left
            · simp only [Act.put, List.setIfInBounds_toArray, List.set_cons_zero, List.set_cons_succ, i64_w, i32_w]
              rfl
            refine one_ (i := 11) (N := none) (bits 12 4095) rfl rfl (one_of HT_.out (by kernel_rfl)) (by decide) (fun K hK => ?_)
            obtain ⟨y0, y1, y2, y3, y4, y5⟩ := cs6 F8
            have z0 := fz F8 0
            have z1 := fz F8 1
            have z2 := fz F8 2
            have z3 := fz F8 3
            have z4 := fz F8 4
            have z5 := fz F8 5
            refine sxs (g := g8) 0 [.string a, .string c, .slice AIs37 (inM ps a c).length kIs37, .slice AL41 z41.length kL41, .bool false, .string (⟨#[]⟩ : ByteArray)] [.string a, .string c, .slice AIs37 (inM ps a c).length kIs37, .slice AL41 z41.length kL41, .bool false, .string (⟨#[]⟩ : ByteArray)] (by rfl) rfl ?hr B F8 L8 rfl (Nat.le_of_ble_eq_true rfl) (fun w15 hk B G => ?_)
            (case hr => first | (go_simp; done) | (go_simp; rfl))
            replace F1 := bk F1 hk N1_8.out
            replace F2 := bk F2 hk N2_8.out
            replace F3 := bk F3 hk N3_8.out
            replace F5 := bk F5 hk N5_8.out
            replace F6 := bk F6 hk N6_8.out
            replace RIs37 := rk RIs37 F8 (by decide) hk
            replace RL41 := rk RL41 F8 (by decide) hk
            replace F8 := G
            clear hk y0 z0 y1 z1 y2 z2 y3 z3 y4 z4 y5 z5
            refine hK.out _ _ ⟨F5.out, F1.out⟩ (fun hHeld => ?_)
            clear hK K
            refine norm_ (a' := _) ?_ (J ⟨AIs37, kIs37, AL38, kL38, AL41, kL41, z41, g8⟩ _ ⟨B, F1, F2, F3, F5, F6, F8, L8, N1_8, N2_8, N3_8, N5_8, N6_8, RIs37, RL41, (by rw [← hz41]; rfl)⟩)
            simp only [putAll, Act.put, List.setIfInBounds_toArray, List.set_cons_zero, List.set_cons_succ]
            try rfl
        · refine bxs (cs := #[.string (⟨#[]⟩ : ByteArray), .string (⟨#[]⟩ : ByteArray), .slice none 0 0, .slice none 0 0, .bool false, .string (⟨#[]⟩ : ByteArray)]) (t := 34) (by rfl) rfl ?hr B (fun g8 w12 hb B F8 L8 E8 => ?_)
          (case hr => first | (go_simp; done) | (go_simp; rfl))
          have N1_8 := ne1 E8 F1
          have N2_8 := ne1 E8 F2
          have N3_8 := ne1 E8 F3
          have N5_8 := ne1 E8 F5
          have N6_8 := ne1 E8 F6
          replace F1 := bn F1 hb
          replace F2 := bn F2 hb
          replace F3 := bn F3 hb
          replace F5 := bn F5 hb
          replace F6 := bn F6 hb
          replace RIs37 := rn RIs37 hb
          clear hb E8
          refine hK.out _ _ ⟨F5.out, F1.out⟩ (fun hHeld => ?_)
          clear hK K
          refine norm_ (a' := ?_) ?_ ?_
          rotate_left
          · show Act.put _ (some 8) _ = _
            simp only [Act.put, List.setIfInBounds_toArray, List.set_cons_zero, List.set_cons_succ, i64_w, i32_w]
            rfl
          refine one_ (i := 5) (N := some 38) (bits 12 1279) rfl rfl (one_of HT_.out (by kernel_rfl)) (by decide) (fun K hK => ?_)
          refine lts k100 100 (by rfl) rfl ([] : List S100) [] ?hr (Reps.none _ _) (by simp) B (fun z38 hz38 AL38 kL38 w13 hb B RL38 QL38 => ?_)
          (case hr => first | (go_simp; done) | (go_simp; rfl))
          have DIs37_L38 := fr QL38 RIs37
          replace F1 := bn F1 hb
          replace F2 := bn F2 hb
          replace F3 := bn F3 hb
          replace F5 := bn F5 hb
          replace F6 := bn F6 hb
          replace F8 := bn F8 hb
          replace RIs37 := rn RIs37 hb
          clear hb QL38
          subst hz38
          refine hK.out _ _ ⟨F5.out, F1.out⟩ (fun hHeld => ?_)
          clear hK K
          refine norm_ (a' := ?_) ?_ ?_
          rotate_left
          · show Act.put _ (some 38) _ = _
            simp only [Act.put, List.setIfInBounds_toArray, List.set_cons_zero, List.set_cons_succ, i64_w, i32_w]
            rfl
          refine one_ (i := 8) (N := some 41) (bits 12 1535) rfl rfl (one_of HT_.out (by kernel_rfl)) (by decide) (fun K hK => ?_)
          refine aps k100 100 (by rfl) rfl (.tmp 38) (.tmp 40) 32 (.agg #[.int .i64 (0), .int .i64 (0), .int .i64 (0)]) 24 rfl Try.underlying32 info100 rfl (by decide) (by omega) rfl rfl RL38 (cb HRS B) (fun x cs h => by rw [k100_open h]; exact k100_mkM _ _ _ x) (by first | omega | (simp only [List.length_append, List.length_nil, List.length_cons]; omega)) B (fun z41 hz41 AL41 kL41 w14 hg B RL41 hat => ?_)
          replace F1 := bga F1 hg RL38 (by decide)
          replace F2 := bga F2 hg RL38 (by decide)
          replace F3 := bga F3 hg RL38 (by decide)
          replace F5 := bga F5 hg RL38 (by decide)
          replace F6 := bga F6 hg RL38 (by decide)
          replace F8 := bga F8 hg RL38 (by decide)
          replace RIs37 := rga RIs37 rfl hg (dty RL38 RIs37 (by decide))
          clear hg hat
          refine hK.out _ _ ⟨F5.out, F1.out⟩ (fun hHeld => ?_)
          clear hK K
          refine norm_ (a' := ?_) ?_ ?_
          rotate_left
          · show Act.put _ (some 41) _ = _
            simp only [Act.put, List.setIfInBounds_toArray, List.set_cons_zero, List.set_cons_succ, i64_w, i32_w]
            rfl
          refine pu (i := 9) (N := some 42) (v := ?_) (bits 12 2047) rfl rfl (any_of HT_.out (by kernel_rfl)) (fun _ _ _ h => h) (by kernel_rfl) ?_ ?_; rotate_left; (intro w'; go_simp; with_reducible rfl)
          refine norm_ (a' := ?_) ?_ ?_
          rotate_left
          · simp only [Act.put, List.setIfInBounds_toArray, List.set_cons_zero, List.set_cons_succ, i64_w, i32_w]
            rfl
          refine one_ (i := 11) (N := none) (bits 12 4095) rfl rfl (one_of HT_.out (by kernel_rfl)) (by decide) (fun K hK => ?_)
          obtain ⟨y0, y1, y2, y3, y4, y5⟩ := cs6 F8
          have z0 := fz F8 0
          have z1 := fz F8 1
          have z2 := fz F8 2
          have z3 := fz F8 3
          have z4 := fz F8 4
          have z5 := fz F8 5
          refine sxs (g := g8) 0 [.string a, .string c, .slice AIs37 (inM ps a c).length kIs37, .slice AL41 z41.length kL41, .bool false, .string (⟨#[]⟩ : ByteArray)] [.string a, .string c, .slice AIs37 (inM ps a c).length kIs37, .slice AL41 z41.length kL41, .bool false, .string (⟨#[]⟩ : ByteArray)] (by rfl) rfl ?hr B F8 L8 rfl (Nat.le_of_ble_eq_true rfl) (fun w15 hk B G => ?_)
          (case hr => first | (go_simp; done) | (go_simp; rfl))
          replace F1 := bk F1 hk N1_8.out
          replace F2 := bk F2 hk N2_8.out
          replace F3 := bk F3 hk N3_8.out
          replace F5 := bk F5 hk N5_8.out
          replace F6 := bk F6 hk N6_8.out
          replace RIs37 := rk RIs37 F8 (by decide) hk
          replace RL41 := rk RL41 F8 (by decide) hk
          replace F8 := G
          clear hk y0 z0 y1 z1 y2 z2 y3 z3 y4 z4 y5 z5
          refine hK.out _ _ ⟨F5.out, F1.out⟩ (fun hHeld => ?_)
          clear hK K
          refine norm_ (a' := _) ?_ (J ⟨AIs37, kIs37, AL38, kL38, AL41, kL41, z41, g8⟩ _ ⟨B, F1, F2, F3, F5, F6, F8, L8, N1_8, N2_8, N3_8, N5_8, N6_8, RIs37, RL41, (by rw [← hz41]; rfl)⟩)
          simp only [putAll, Act.put, List.setIfInBounds_toArray, List.set_cons_zero, List.set_cons_succ]
          try rfl
      · refine lts k100 100 (by rfl) rfl ([] : List S100) [] ?hr (Reps.none _ _) (by simp) B (fun z38 hz38 AL38 kL38 w11 hb B RL38 QL38 => ?_)
        (case hr => first | (go_simp; done) | (go_simp; rfl))
        replace F1 := bn F1 hb
        replace F2 := bn F2 hb
        replace F3 := bn F3 hb
        replace F5 := bn F5 hb
        replace F6 := bn F6 hb
        clear hb QL38
        subst hz38
        refine hK.out _ _ ⟨F5.out, F1.out⟩ (fun hHeld => ?_)
        clear hK K
        refine norm_ (a' := ?_) ?_ ?_
        rotate_left
        · show Act.put _ (some 38) _ = _
          simp only [Act.put, List.setIfInBounds_toArray, List.set_cons_zero, List.set_cons_succ, i64_w, i32_w]
          rfl
        refine two_ (i := 4) (j := 10) (Ni := some 37) (Nj := some 8) (bits 12 255) (bits 12 1263) rfl rfl rfl rfl (two_of HT_.out (by kernel_rfl)) (by decide) (by decide) (fun K hK => ?_) (fun K hK => ?_)
        · refine goes_ Try.func74 (by kernel_rfl) rfl #[.slice AP ps.length cP, .agg #[.string a, .string c]] (by rfl) rfl rfl (by (try simp only [List.map_toArray, List.map_cons, List.map_nil]); rfl) ?_
          with_reducible refine cr (spec_PairsIn.M _ _ ps a c _ (cb HRP B) HCP.out) B fun AIs37 kIs37 w12 hb B RIs37 QIs37 => ?_
          have DL38_Is37 := fr QIs37 RL38
          replace F1 := bn F1 hb
          replace F2 := bn F2 hb
          replace F3 := bn F3 hb
          replace F5 := bn F5 hb
          replace F6 := bn F6 hb
          replace RL38 := rn RL38 hb
          clear hb
          refine ⟨_, rfl, ?_⟩
          refine hK.out _ _ ⟨F5.out, F1.out⟩ (fun hHeld => ?_)
          clear hK K
          refine norm_ (a' := ?_) ?_ ?_
          rotate_left
          · show Act.put _ (some 37) _ = _
            simp only [Act.put, List.setIfInBounds_toArray, List.set_cons_zero, List.set_cons_succ, i64_w, i32_w]
            rfl
          clear QIs37
          refine two_ (i := 8) (j := 10) (Ni := some 41) (Nj := some 8) (bits 12 511) (bits 12 1279) rfl rfl rfl rfl (two_of HT_.out (by kernel_rfl)) (by decide) (by decide) (fun K hK => ?_) (fun K hK => ?_)
          · refine aps k100 100 (by rfl) rfl (.tmp 38) (.tmp 40) 32 (.agg #[.int .i64 (0), .int .i64 (0), .int .i64 (0)]) 24 rfl Try.underlying32 info100 rfl (by decide) (by omega) rfl rfl RL38 (cb HRS B) (fun x cs h => by rw [k100_open h]; exact k100_mkM _ _ _ x) (by first | omega | (simp only [List.length_append, List.length_nil, List.length_cons]; omega)) B (fun z41 hz41 AL41 kL41 w13 hg B RL41 hat => ?_)
            replace F1 := bga F1 hg RL38 (by decide)
            replace F2 := bga F2 hg RL38 (by decide)
            replace F3 := bga F3 hg RL38 (by decide)
            replace F5 := bga F5 hg RL38 (by decide)
            replace F6 := bga F6 hg RL38 (by decide)
            replace RIs37 := rga RIs37 rfl hg (dty RL38 RIs37 (by decide))
            clear hg hat
            refine hK.out _ _ ⟨F5.out, F1.out⟩ (fun hHeld => ?_)
            clear hK K
            refine norm_ (a' := ?_) ?_ ?_
            rotate_left
            · show Act.put _ (some 41) _ = _
              simp only [Act.put, List.setIfInBounds_toArray, List.set_cons_zero, List.set_cons_succ, i64_w, i32_w]
              rfl
            refine pu (i := 9) (N := some 42) (v := ?_) (bits 12 1023) rfl rfl (any_of HT_.out (by kernel_rfl)) (fun _ _ _ h => h) (by kernel_rfl) ?_ ?_; rotate_left; (intro w'; go_simp; with_reducible rfl)
            refine norm_ (a' := ?_) ?_ ?_
            rotate_left
            · simp only [Act.put, List.setIfInBounds_toArray, List.set_cons_zero, List.set_cons_succ, i64_w, i32_w]
              rfl
            refine one_ (i := 10) (N := some 8) (bits 12 2047) rfl rfl (one_of HT_.out (by kernel_rfl)) (by decide) (fun K hK => ?_)
            refine bxs (cs := #[.string (⟨#[]⟩ : ByteArray), .string (⟨#[]⟩ : ByteArray), .slice none 0 0, .slice none 0 0, .bool false, .string (⟨#[]⟩ : ByteArray)]) (t := 34) (by rfl) rfl ?hr B (fun g8 w14 hb B F8 L8 E8 => ?_)
            (case hr => first | (go_simp; done) | (go_simp; rfl))
            have N1_8 := ne1 E8 F1
            have N2_8 := ne1 E8 F2
            have N3_8 := ne1 E8 F3
            have N5_8 := ne1 E8 F5
            have N6_8 := ne1 E8 F6
            replace F1 := bn F1 hb
            replace F2 := bn F2 hb
            replace F3 := bn F3 hb
            replace F5 := bn F5 hb
            replace F6 := bn F6 hb
            replace RIs37 := rn RIs37 hb
            replace RL41 := rn RL41 hb
            clear hb E8
            refine hK.out _ _ ⟨F5.out, F1.out⟩ (fun hHeld => ?_)
            clear hK K
            refine norm_ (a' := ?_) ?_ ?_
            rotate_left
            · show Act.put _ (some 8) _ = _
              simp only [Act.put, List.setIfInBounds_toArray, List.set_cons_zero, List.set_cons_succ, i64_w, i32_w]
              rfl
            refine one_ (i := 11) (N := none) (bits 12 4095) rfl rfl (one_of HT_.out (by kernel_rfl)) (by decide) (fun K hK => ?_)
            obtain ⟨y0, y1, y2, y3, y4, y5⟩ := cs6 F8
            have z0 := fz F8 0
            have z1 := fz F8 1
            have z2 := fz F8 2
            have z3 := fz F8 3
            have z4 := fz F8 4
            have z5 := fz F8 5
            refine sxs (g := g8) 0 [.string a, .string c, .slice AIs37 (inM ps a c).length kIs37, .slice AL41 z41.length kL41, .bool false, .string (⟨#[]⟩ : ByteArray)] [.string a, .string c, .slice AIs37 (inM ps a c).length kIs37, .slice AL41 z41.length kL41, .bool false, .string (⟨#[]⟩ : ByteArray)] (by rfl) rfl ?hr B F8 L8 rfl (Nat.le_of_ble_eq_true rfl) (fun w15 hk B G => ?_)
            (case hr => first | (go_simp; done) | (go_simp; rfl))
            replace F1 := bk F1 hk N1_8.out
            replace F2 := bk F2 hk N2_8.out
            replace F3 := bk F3 hk N3_8.out
            replace F5 := bk F5 hk N5_8.out
            replace F6 := bk F6 hk N6_8.out
            replace RIs37 := rk RIs37 F8 (by decide) hk
            replace RL41 := rk RL41 F8 (by decide) hk
            replace F8 := G
            clear hk y0 z0 y1 z1 y2 z2 y3 z3 y4 z4 y5 z5
            refine hK.out _ _ ⟨F5.out, F1.out⟩ (fun hHeld => ?_)
            clear hK K
            refine norm_ (a' := _) ?_ (J ⟨AIs37, kIs37, AL38, kL38, AL41, kL41, z41, g8⟩ _ ⟨B, F1, F2, F3, F5, F6, F8, L8, N1_8, N2_8, N3_8, N5_8, N6_8, RIs37, RL41, (by rw [← hz41]; rfl)⟩)
            simp only [putAll, Act.put, List.setIfInBounds_toArray, List.set_cons_zero, List.set_cons_succ]
            try rfl
          · refine bxs (cs := #[.string (⟨#[]⟩ : ByteArray), .string (⟨#[]⟩ : ByteArray), .slice none 0 0, .slice none 0 0, .bool false, .string (⟨#[]⟩ : ByteArray)]) (t := 34) (by rfl) rfl ?hr B (fun g8 w13 hb B F8 L8 E8 => ?_)
            (case hr => first | (go_simp; done) | (go_simp; rfl))
            have N1_8 := ne1 E8 F1
            have N2_8 := ne1 E8 F2
            have N3_8 := ne1 E8 F3
            have N5_8 := ne1 E8 F5
            have N6_8 := ne1 E8 F6
            replace F1 := bn F1 hb
            replace F2 := bn F2 hb
            replace F3 := bn F3 hb
            replace F5 := bn F5 hb
            replace F6 := bn F6 hb
            replace RL38 := rn RL38 hb
            replace RIs37 := rn RIs37 hb
            clear hb E8
            refine hK.out _ _ ⟨F5.out, F1.out⟩ (fun hHeld => ?_)
            clear hK K
            refine norm_ (a' := ?_) ?_ ?_
            rotate_left
            · show Act.put _ (some 8) _ = _
              simp only [Act.put, List.setIfInBounds_toArray, List.set_cons_zero, List.set_cons_succ, i64_w, i32_w]
              rfl
            refine one_ (i := 8) (N := some 41) (bits 12 1535) rfl rfl (one_of HT_.out (by kernel_rfl)) (by decide) (fun K hK => ?_)
            refine aps k100 100 (by rfl) rfl (.tmp 38) (.tmp 40) 32 (.agg #[.int .i64 (0), .int .i64 (0), .int .i64 (0)]) 24 rfl Try.underlying32 info100 rfl (by decide) (by omega) rfl rfl RL38 (cb HRS B) (fun x cs h => by rw [k100_open h]; exact k100_mkM _ _ _ x) (by first | omega | (simp only [List.length_append, List.length_nil, List.length_cons]; omega)) B (fun z41 hz41 AL41 kL41 w14 hg B RL41 hat => ?_)
            replace F1 := bga F1 hg RL38 (by decide)
            replace F2 := bga F2 hg RL38 (by decide)
            replace F3 := bga F3 hg RL38 (by decide)
            replace F5 := bga F5 hg RL38 (by decide)
            replace F6 := bga F6 hg RL38 (by decide)
            replace F8 := bga F8 hg RL38 (by decide)
            replace RIs37 := rga RIs37 rfl hg (dty RL38 RIs37 (by decide))
            clear hg hat
            refine hK.out _ _ ⟨F5.out, F1.out⟩ (fun hHeld => ?_)
            clear hK K
            refine norm_ (a' := ?_) ?_ ?_
            rotate_left
            · show Act.put _ (some 41) _ = _
              simp only [Act.put, List.setIfInBounds_toArray, List.set_cons_zero, List.set_cons_succ, i64_w, i32_w]
              rfl
            refine pu (i := 9) (N := some 42) (v := ?_) (bits 12 2047) rfl rfl (any_of HT_.out (by kernel_rfl)) (fun _ _ _ h => h) (by kernel_rfl) ?_ ?_; rotate_left; (intro w'; go_simp; with_reducible rfl)
            refine norm_ (a' := ?_) ?_ ?_
            rotate_left
            · simp only [Act.put, List.setIfInBounds_toArray, List.set_cons_zero, List.set_cons_succ, i64_w, i32_w]
              rfl
            refine one_ (i := 11) (N := none) (bits 12 4095) rfl rfl (one_of HT_.out (by kernel_rfl)) (by decide) (fun K hK => ?_)
            obtain ⟨y0, y1, y2, y3, y4, y5⟩ := cs6 F8
            have z0 := fz F8 0
            have z1 := fz F8 1
            have z2 := fz F8 2
            have z3 := fz F8 3
            have z4 := fz F8 4
            have z5 := fz F8 5
            refine sxs (g := g8) 0 [.string a, .string c, .slice AIs37 (inM ps a c).length kIs37, .slice AL41 z41.length kL41, .bool false, .string (⟨#[]⟩ : ByteArray)] [.string a, .string c, .slice AIs37 (inM ps a c).length kIs37, .slice AL41 z41.length kL41, .bool false, .string (⟨#[]⟩ : ByteArray)] (by rfl) rfl ?hr B F8 L8 rfl (Nat.le_of_ble_eq_true rfl) (fun w15 hk B G => ?_)
            (case hr => first | (go_simp; done) | (go_simp; rfl))
            replace F1 := bk F1 hk N1_8.out
            replace F2 := bk F2 hk N2_8.out
            replace F3 := bk F3 hk N3_8.out
            replace F5 := bk F5 hk N5_8.out
            replace F6 := bk F6 hk N6_8.out
            replace RIs37 := rk RIs37 F8 (by decide) hk
            replace RL41 := rk RL41 F8 (by decide) hk
            replace F8 := G
            clear hk y0 z0 y1 z1 y2 z2 y3 z3 y4 z4 y5 z5
            refine hK.out _ _ ⟨F5.out, F1.out⟩ (fun hHeld => ?_)
            clear hK K
            refine norm_ (a' := _) ?_ (J ⟨AIs37, kIs37, AL38, kL38, AL41, kL41, z41, g8⟩ _ ⟨B, F1, F2, F3, F5, F6, F8, L8, N1_8, N2_8, N3_8, N5_8, N6_8, RIs37, RL41, (by rw [← hz41]; rfl)⟩)
            simp only [putAll, Act.put, List.setIfInBounds_toArray, List.set_cons_zero, List.set_cons_succ]
            try rfl
        · refine bxs (cs := #[.string (⟨#[]⟩ : ByteArray), .string (⟨#[]⟩ : ByteArray), .slice none 0 0, .slice none 0 0, .bool false, .string (⟨#[]⟩ : ByteArray)]) (t := 34) (by rfl) rfl ?hr B (fun g8 w12 hb B F8 L8 E8 => ?_)
          (case hr => first | (go_simp; done) | (go_simp; rfl))
          have N1_8 := ne1 E8 F1
          have N2_8 := ne1 E8 F2
          have N3_8 := ne1 E8 F3
          have N5_8 := ne1 E8 F5
          have N6_8 := ne1 E8 F6
          replace F1 := bn F1 hb
          replace F2 := bn F2 hb
          replace F3 := bn F3 hb
          replace F5 := bn F5 hb
          replace F6 := bn F6 hb
          replace RL38 := rn RL38 hb
          clear hb E8
          refine hK.out _ _ ⟨F5.out, F1.out⟩ (fun hHeld => ?_)
          clear hK K
          refine norm_ (a' := ?_) ?_ ?_
          rotate_left
          · show Act.put _ (some 8) _ = _
            simp only [Act.put, List.setIfInBounds_toArray, List.set_cons_zero, List.set_cons_succ, i64_w, i32_w]
            rfl
          refine one_ (i := 4) (N := some 37) (bits 12 1279) rfl rfl (one_of HT_.out (by kernel_rfl)) (by decide) (fun K hK => ?_)
          refine goes_ Try.func74 (by kernel_rfl) rfl #[.slice AP ps.length cP, .agg #[.string a, .string c]] (by rfl) rfl rfl (by (try simp only [List.map_toArray, List.map_cons, List.map_nil]); rfl) ?_
          with_reducible refine cr (spec_PairsIn.M _ _ ps a c _ (cb HRP B) HCP.out) B fun AIs37 kIs37 w13 hb B RIs37 QIs37 => ?_
          have DL38_Is37 := fr QIs37 RL38
          replace F1 := bn F1 hb
          replace F2 := bn F2 hb
          replace F3 := bn F3 hb
          replace F5 := bn F5 hb
          replace F6 := bn F6 hb
          replace F8 := bn F8 hb
          replace RL38 := rn RL38 hb
          clear hb
          refine ⟨_, rfl, ?_⟩
          refine hK.out _ _ ⟨F5.out, F1.out⟩ (fun hHeld => ?_)
          clear hK K
          refine norm_ (a' := ?_) ?_ ?_
          rotate_left
          · show Act.put _ (some 37) _ = _
            simp only [Act.put, List.setIfInBounds_toArray, List.set_cons_zero, List.set_cons_succ, i64_w, i32_w]
            rfl
          clear QIs37
          refine one_ (i := 8) (N := some 41) (bits 12 1535) rfl rfl (one_of HT_.out (by kernel_rfl)) (by decide) (fun K hK => ?_)
          refine aps k100 100 (by rfl) rfl (.tmp 38) (.tmp 40) 32 (.agg #[.int .i64 (0), .int .i64 (0), .int .i64 (0)]) 24 rfl Try.underlying32 info100 rfl (by decide) (by omega) rfl rfl RL38 (cb HRS B) (fun x cs h => by rw [k100_open h]; exact k100_mkM _ _ _ x) (by first | omega | (simp only [List.length_append, List.length_nil, List.length_cons]; omega)) B (fun z41 hz41 AL41 kL41 w14 hg B RL41 hat => ?_)
          replace F1 := bga F1 hg RL38 (by decide)
          replace F2 := bga F2 hg RL38 (by decide)
          replace F3 := bga F3 hg RL38 (by decide)
          replace F5 := bga F5 hg RL38 (by decide)
          replace F6 := bga F6 hg RL38 (by decide)
          replace F8 := bga F8 hg RL38 (by decide)
          replace RIs37 := rga RIs37 rfl hg (dty RL38 RIs37 (by decide))
          clear hg hat
          refine hK.out _ _ ⟨F5.out, F1.out⟩ (fun hHeld => ?_)
          clear hK K
          refine norm_ (a' := ?_) ?_ ?_
          rotate_left
          · show Act.put _ (some 41) _ = _
            simp only [Act.put, List.setIfInBounds_toArray, List.set_cons_zero, List.set_cons_succ, i64_w, i32_w]
            rfl
          refine pu (i := 9) (N := some 42) (v := ?_) (bits 12 2047) rfl rfl (any_of HT_.out (by kernel_rfl)) (fun _ _ _ h => h) (by kernel_rfl) ?_ ?_; rotate_left; (intro w'; go_simp; with_reducible rfl)
          refine norm_ (a' := ?_) ?_ ?_
          rotate_left
          · simp only [Act.put, List.setIfInBounds_toArray, List.set_cons_zero, List.set_cons_succ, i64_w, i32_w]
            rfl
          refine one_ (i := 11) (N := none) (bits 12 4095) rfl rfl (one_of HT_.out (by kernel_rfl)) (by decide) (fun K hK => ?_)
          obtain ⟨y0, y1, y2, y3, y4, y5⟩ := cs6 F8
          have z0 := fz F8 0
          have z1 := fz F8 1
          have z2 := fz F8 2
          have z3 := fz F8 3
          have z4 := fz F8 4
          have z5 := fz F8 5
          refine sxs (g := g8) 0 [.string a, .string c, .slice AIs37 (inM ps a c).length kIs37, .slice AL41 z41.length kL41, .bool false, .string (⟨#[]⟩ : ByteArray)] [.string a, .string c, .slice AIs37 (inM ps a c).length kIs37, .slice AL41 z41.length kL41, .bool false, .string (⟨#[]⟩ : ByteArray)] (by rfl) rfl ?hr B F8 L8 rfl (Nat.le_of_ble_eq_true rfl) (fun w15 hk B G => ?_)
          (case hr => first | (go_simp; done) | (go_simp; rfl))
          replace F1 := bk F1 hk N1_8.out
          replace F2 := bk F2 hk N2_8.out
          replace F3 := bk F3 hk N3_8.out
          replace F5 := bk F5 hk N5_8.out
          replace F6 := bk F6 hk N6_8.out
          replace RIs37 := rk RIs37 F8 (by decide) hk
          replace RL41 := rk RL41 F8 (by decide) hk
          replace F8 := G
          clear hk y0 z0 y1 z1 y2 z2 y3 z3 y4 z4 y5 z5
          refine hK.out _ _ ⟨F5.out, F1.out⟩ (fun hHeld => ?_)
          clear hK K
          refine norm_ (a' := _) ?_ (J ⟨AIs37, kIs37, AL38, kL38, AL41, kL41, z41, g8⟩ _ ⟨B, F1, F2, F3, F5, F6, F8, L8, N1_8, N2_8, N3_8, N5_8, N6_8, RIs37, RL41, (by rw [← hz41]; rfl)⟩)
          simp only [putAll, Act.put, List.setIfInBounds_toArray, List.set_cons_zero, List.set_cons_succ]
          try rfl
      · refine bxs (cs := #[.string (⟨#[]⟩ : ByteArray), .string (⟨#[]⟩ : ByteArray), .slice none 0 0, .slice none 0 0, .bool false, .string (⟨#[]⟩ : ByteArray)]) (t := 34) (by rfl) rfl ?hr B (fun g8 w11 hb B F8 L8 E8 => ?_)
        (case hr => first | (go_simp; done) | (go_simp; rfl))
        have N1_8 := ne1 E8 F1
        have N2_8 := ne1 E8 F2
        have N3_8 := ne1 E8 F3
        have N5_8 := ne1 E8 F5
        have N6_8 := ne1 E8 F6
        replace F1 := bn F1 hb
        replace F2 := bn F2 hb
        replace F3 := bn F3 hb
        replace F5 := bn F5 hb
        replace F6 := bn F6 hb
        clear hb E8
        refine hK.out _ _ ⟨F5.out, F1.out⟩ (fun hHeld => ?_)
        clear hK K
        refine norm_ (a' := ?_) ?_ ?_
        rotate_left
        · show Act.put _ (some 8) _ = _
          simp only [Act.put, List.setIfInBounds_toArray, List.set_cons_zero, List.set_cons_succ, i64_w, i32_w]
          rfl
        refine two_ (i := 4) (j := 5) (Ni := some 37) (Nj := some 38) (bits 12 1247) (bits 12 1263) rfl rfl rfl rfl (two_of HT_.out (by kernel_rfl)) (by decide) (by decide) (fun K hK => ?_) (fun K hK => ?_)
        · refine goes_ Try.func74 (by kernel_rfl) rfl #[.slice AP ps.length cP, .agg #[.string a, .string c]] (by rfl) rfl rfl (by (try simp only [List.map_toArray, List.map_cons, List.map_nil]); rfl) ?_
          with_reducible refine cr (spec_PairsIn.M _ _ ps a c _ (cb HRP B) HCP.out) B fun AIs37 kIs37 w12 hb B RIs37 QIs37 => ?_
          replace F1 := bn F1 hb
          replace F2 := bn F2 hb
          replace F3 := bn F3 hb
          replace F5 := bn F5 hb
          replace F6 := bn F6 hb
          replace F8 := bn F8 hb
          clear hb
          refine ⟨_, rfl, ?_⟩
          refine hK.out _ _ ⟨F5.out, F1.out⟩ (fun hHeld => ?_)
          clear hK K
          refine norm_ (a' := ?_) ?_ ?_
          rotate_left
          · show Act.put _ (some 37) _ = _
            simp only [Act.put, List.setIfInBounds_toArray, List.set_cons_zero, List.set_cons_succ, i64_w, i32_w]
            rfl
          clear QIs37
          refine one_ (i := 5) (N := some 38) (bits 12 1279) rfl rfl (one_of HT_.out (by kernel_rfl)) (by decide) (fun K hK => ?_)
          refine lts k100 100 (by rfl) rfl ([] : List S100) [] ?hr (Reps.none _ _) (by simp) B (fun z38 hz38 AL38 kL38 w13 hb B RL38 QL38 => ?_)
          (case hr => first | (go_simp; done) | (go_simp; rfl))
          have DIs37_L38 := fr QL38 RIs37
          replace F1 := bn F1 hb
          replace F2 := bn F2 hb
          replace F3 := bn F3 hb
          replace F5 := bn F5 hb
          replace F6 := bn F6 hb
          replace F8 := bn F8 hb
          replace RIs37 := rn RIs37 hb
          clear hb QL38
          subst hz38
          refine hK.out _ _ ⟨F5.out, F1.out⟩ (fun hHeld => ?_)
          clear hK K
          refine norm_ (a' := ?_) ?_ ?_
          rotate_left
          · show Act.put _ (some 38) _ = _
            simp only [Act.put, List.setIfInBounds_toArray, List.set_cons_zero, List.set_cons_succ, i64_w, i32_w]
            rfl
          refine one_ (i := 8) (N := some 41) (bits 12 1535) rfl rfl (one_of HT_.out (by kernel_rfl)) (by decide) (fun K hK => ?_)
          refine aps k100 100 (by rfl) rfl (.tmp 38) (.tmp 40) 32 (.agg #[.int .i64 (0), .int .i64 (0), .int .i64 (0)]) 24 rfl Try.underlying32 info100 rfl (by decide) (by omega) rfl rfl RL38 (cb HRS B) (fun x cs h => by rw [k100_open h]; exact k100_mkM _ _ _ x) (by first | omega | (simp only [List.length_append, List.length_nil, List.length_cons]; omega)) B (fun z41 hz41 AL41 kL41 w14 hg B RL41 hat => ?_)
          replace F1 := bga F1 hg RL38 (by decide)
          replace F2 := bga F2 hg RL38 (by decide)
          replace F3 := bga F3 hg RL38 (by decide)
          replace F5 := bga F5 hg RL38 (by decide)
          replace F6 := bga F6 hg RL38 (by decide)
          replace F8 := bga F8 hg RL38 (by decide)
          replace RIs37 := rga RIs37 rfl hg (dty RL38 RIs37 (by decide))
          clear hg hat
          refine hK.out _ _ ⟨F5.out, F1.out⟩ (fun hHeld => ?_)
          clear hK K
          refine norm_ (a' := ?_) ?_ ?_
          rotate_left
          · show Act.put _ (some 41) _ = _
            simp only [Act.put, List.setIfInBounds_toArray, List.set_cons_zero, List.set_cons_succ, i64_w, i32_w]
            rfl
          refine pu (i := 9) (N := some 42) (v := ?_) (bits 12 2047) rfl rfl (any_of HT_.out (by kernel_rfl)) (fun _ _ _ h => h) (by kernel_rfl) ?_ ?_; rotate_left; (intro w'; go_simp; with_reducible rfl)
          refine norm_ (a' := ?_) ?_ ?_
          rotate_left
          · simp only [Act.put, List.setIfInBounds_toArray, List.set_cons_zero, List.set_cons_succ, i64_w, i32_w]
            rfl
          refine one_ (i := 11) (N := none) (bits 12 4095) rfl rfl (one_of HT_.out (by kernel_rfl)) (by decide) (fun K hK => ?_)
          obtain ⟨y0, y1, y2, y3, y4, y5⟩ := cs6 F8
          have z0 := fz F8 0
          have z1 := fz F8 1
          have z2 := fz F8 2
          have z3 := fz F8 3
          have z4 := fz F8 4
          have z5 := fz F8 5
          refine sxs (g := g8) 0 [.string a, .string c, .slice AIs37 (inM ps a c).length kIs37, .slice AL41 z41.length kL41, .bool false, .string (⟨#[]⟩ : ByteArray)] [.string a, .string c, .slice AIs37 (inM ps a c).length kIs37, .slice AL41 z41.length kL41, .bool false, .string (⟨#[]⟩ : ByteArray)] (by rfl) rfl ?hr B F8 L8 rfl (Nat.le_of_ble_eq_true rfl) (fun w15 hk B G => ?_)
          (case hr => first | (go_simp; done) | (go_simp; rfl))
          replace F1 := bk F1 hk N1_8.out
          replace F2 := bk F2 hk N2_8.out
          replace F3 := bk F3 hk N3_8.out
          replace F5 := bk F5 hk N5_8.out
          replace F6 := bk F6 hk N6_8.out
          replace RIs37 := rk RIs37 F8 (by decide) hk
          replace RL41 := rk RL41 F8 (by decide) hk
          replace F8 := G
          clear hk y0 z0 y1 z1 y2 z2 y3 z3 y4 z4 y5 z5
          refine hK.out _ _ ⟨F5.out, F1.out⟩ (fun hHeld => ?_)
          clear hK K
          refine norm_ (a' := _) ?_ (J ⟨AIs37, kIs37, AL38, kL38, AL41, kL41, z41, g8⟩ _ ⟨B, F1, F2, F3, F5, F6, F8, L8, N1_8, N2_8, N3_8, N5_8, N6_8, RIs37, RL41, (by rw [← hz41]; rfl)⟩)
          simp only [putAll, Act.put, List.setIfInBounds_toArray, List.set_cons_zero, List.set_cons_succ]
          try rfl
        · refine lts k100 100 (by rfl) rfl ([] : List S100) [] ?hr (Reps.none _ _) (by simp) B (fun z38 hz38 AL38 kL38 w12 hb B RL38 QL38 => ?_)
          (case hr => first | (go_simp; done) | (go_simp; rfl))
          replace F1 := bn F1 hb
          replace F2 := bn F2 hb
          replace F3 := bn F3 hb
          replace F5 := bn F5 hb
          replace F6 := bn F6 hb
          replace F8 := bn F8 hb
          clear hb QL38
          subst hz38
          refine hK.out _ _ ⟨F5.out, F1.out⟩ (fun hHeld => ?_)
          clear hK K
          refine norm_ (a' := ?_) ?_ ?_
          rotate_left
          · show Act.put _ (some 38) _ = _
            simp only [Act.put, List.setIfInBounds_toArray, List.set_cons_zero, List.set_cons_succ, i64_w, i32_w]
            rfl
          refine one_ (i := 4) (N := some 37) (bits 12 1279) rfl rfl (one_of HT_.out (by kernel_rfl)) (by decide) (fun K hK => ?_)
          refine goes_ Try.func74 (by kernel_rfl) rfl #[.slice AP ps.length cP, .agg #[.string a, .string c]] (by rfl) rfl rfl (by (try simp only [List.map_toArray, List.map_cons, List.map_nil]); rfl) ?_
          with_reducible refine cr (spec_PairsIn.M _ _ ps a c _ (cb HRP B) HCP.out) B fun AIs37 kIs37 w13 hb B RIs37 QIs37 => ?_
          have DL38_Is37 := fr QIs37 RL38
          replace F1 := bn F1 hb
          replace F2 := bn F2 hb
          replace F3 := bn F3 hb
          replace F5 := bn F5 hb
          replace F6 := bn F6 hb
          replace F8 := bn F8 hb
          replace RL38 := rn RL38 hb
          clear hb
          refine ⟨_, rfl, ?_⟩
          refine hK.out _ _ ⟨F5.out, F1.out⟩ (fun hHeld => ?_)
          clear hK K
          refine norm_ (a' := ?_) ?_ ?_
          rotate_left
          · show Act.put _ (some 37) _ = _
            simp only [Act.put, List.setIfInBounds_toArray, List.set_cons_zero, List.set_cons_succ, i64_w, i32_w]
            rfl
          clear QIs37
          refine one_ (i := 8) (N := some 41) (bits 12 1535) rfl rfl (one_of HT_.out (by kernel_rfl)) (by decide) (fun K hK => ?_)
          refine aps k100 100 (by rfl) rfl (.tmp 38) (.tmp 40) 32 (.agg #[.int .i64 (0), .int .i64 (0), .int .i64 (0)]) 24 rfl Try.underlying32 info100 rfl (by decide) (by omega) rfl rfl RL38 (cb HRS B) (fun x cs h => by rw [k100_open h]; exact k100_mkM _ _ _ x) (by first | omega | (simp only [List.length_append, List.length_nil, List.length_cons]; omega)) B (fun z41 hz41 AL41 kL41 w14 hg B RL41 hat => ?_)
          replace F1 := bga F1 hg RL38 (by decide)
          replace F2 := bga F2 hg RL38 (by decide)
          replace F3 := bga F3 hg RL38 (by decide)
          replace F5 := bga F5 hg RL38 (by decide)
          replace F6 := bga F6 hg RL38 (by decide)
          replace F8 := bga F8 hg RL38 (by decide)
          replace RIs37 := rga RIs37 rfl hg (dty RL38 RIs37 (by decide))
          clear hg hat
          refine hK.out _ _ ⟨F5.out, F1.out⟩ (fun hHeld => ?_)
          clear hK K
          refine norm_ (a' := ?_) ?_ ?_
          rotate_left
          · show Act.put _ (some 41) _ = _
            simp only [Act.put, List.setIfInBounds_toArray, List.set_cons_zero, List.set_cons_succ, i64_w, i32_w]
            rfl
          refine pu (i := 9) (N := some 42) (v := ?_) (bits 12 2047) rfl rfl (any_of HT_.out (by kernel_rfl)) (fun _ _ _ h => h) (by kernel_rfl) ?_ ?_; rotate_left; (intro w'; go_simp; with_reducible rfl)
          refine norm_ (a' := ?_) ?_ ?_
          rotate_left
          · simp only [Act.put, List.setIfInBounds_toArray, List.set_cons_zero, List.set_cons_succ, i64_w, i32_w]
            rfl
          refine one_ (i := 11) (N := none) (bits 12 4095) rfl rfl (one_of HT_.out (by kernel_rfl)) (by decide) (fun K hK => ?_)
          obtain ⟨y0, y1, y2, y3, y4, y5⟩ := cs6 F8
          have z0 := fz F8 0
          have z1 := fz F8 1
          have z2 := fz F8 2
          have z3 := fz F8 3
          have z4 := fz F8 4
          have z5 := fz F8 5
          refine sxs (g := g8) 0 [.string a, .string c, .slice AIs37 (inM ps a c).length kIs37, .slice AL41 z41.length kL41, .bool false, .string (⟨#[]⟩ : ByteArray)] [.string a, .string c, .slice AIs37 (inM ps a c).length kIs37, .slice AL41 z41.length kL41, .bool false, .string (⟨#[]⟩ : ByteArray)] (by rfl) rfl ?hr B F8 L8 rfl (Nat.le_of_ble_eq_true rfl) (fun w15 hk B G => ?_)
          (case hr => first | (go_simp; done) | (go_simp; rfl))
          replace F1 := bk F1 hk N1_8.out
          replace F2 := bk F2 hk N2_8.out
          replace F3 := bk F3 hk N3_8.out
          replace F5 := bk F5 hk N5_8.out
          replace F6 := bk F6 hk N6_8.out
          replace RIs37 := rk RIs37 F8 (by decide) hk
          replace RL41 := rk RL41 F8 (by decide) hk
          replace F8 := G
          clear hk y0 z0 y1 z1 y2 z2 y3 z3 y4 z4 y5 z5
          refine hK.out _ _ ⟨F5.out, F1.out⟩ (fun hHeld => ?_)
          clear hK K
          refine norm_ (a' := _) ?_ (J ⟨AIs37, kIs37, AL38, kL38, AL41, kL41, z41, g8⟩ _ ⟨B, F1, F2, F3, F5, F6, F8, L8, N1_8, N2_8, N3_8, N5_8, N6_8, RIs37, RL41, (by rw [← hz41]; rfl)⟩)
          simp only [putAll, Act.put, List.setIfInBounds_toArray, List.set_cons_zero, List.set_cons_succ]
          try rfl
    rintro ⟨AIs37, kIs37, AL38, kL38, AL41, kL41, z41, g8⟩ w16 ⟨B, F1, F2, F3, F5, F6, F8, L8, N1_8, N2_8, N3_8, N5_8, N6_8, RIs37, RL41, rfl⟩
    refine norm_ (a' := ?_) ?_ ?_
    rotate_left
    · simp only [putAll, Act.put, List.setIfInBounds_toArray, List.set_cons_zero, List.set_cons_succ]
      rfl
    refine done_ (done_of HT_.out (by kernel_rfl)) ?_
    clear c1_0 c1_1 c1_2 c1_3 c1_4 c1_5
    obtain ⟨c1_0, c1_1, c1_2, c1_3, c1_4, c1_5⟩ := cs6 F1
    clear c6_0 c6_1
    obtain ⟨c6_0, c6_1⟩ := cs2 F6
    obtain ⟨c8_0, c8_1, c8_2, c8_3, c8_4, c8_5⟩ := cs6 F8)
  all_goals try go_wp2
  all_goals (
    refine rg (n := 12) (S := fun W => W.heap[g6]? = some (.cells #[.string c, .string b] 30 (0, 0)) ∧ W.heap[g1]? = some (.cells #[.string a, .string b, .slice AP ps.length cP, .slice AS ss.length cS, .bool true, .string c] 34 (0, 0))) (ds := []) #[false, false, false, false, false, false, false, false, false, false, false, false] (by kernel_rfl) rfl rfl ⟨F6.out, F1.out⟩ id B (fun w17 hb B hHeld => ?_)
    refine with_tabW spec_StateCut.tab5 spec_StateCut.bits5 (fun HT_ HW_ => ?_)
    replace F1 := bn F1 hb
    replace F2 := bn F2 hb
    replace F3 := bn F3 hb
    replace F6 := bn F6 hb
    replace F8 := bn F8 hb
    replace RIs37 := rn RIs37 hb
    replace RL41 := rn RL41 hb
    clear hb
    refine join_ 0 (bits 12 4095) (σ := Option Addr × Nat × Option Addr × Nat × Option Addr × Nat × List S100 × Nat) (fun (AIs47, kIs47, AL48, kL48, AL51, kL51, z51, g9) => [(43, .agg #[.string c, .string b]), (44, .pointer (some ⟨g1, 2, none⟩)), (45, .slice AP ps.length cP), (46, .agg #[.string c, .string b]), (47, .slice AIs47 (inM ps c b).length kIs47), (48, .slice AL48 ([] : List S100).length kL48), (49, .pointer (some ⟨g1, 3, none⟩)), (50, .slice AS ss.length cS), (51, .slice AL51 z51.length kL51), (52, .agg #[.string c, .string b, .slice AIs47 (inM ps c b).length kIs47, .slice AL51 z51.length kL51, .bool false, .string (⟨#[]⟩ : ByteArray)]), (9, .pointer (some ⟨g9, 0, none⟩))]) (fun (AIs47, kIs47, AL48, kL48, AL51, kL51, z51, g9) W => Aside0 (Below w.heap.size w W) ∧ Aside0 (W.heap[g1]? = some (.cells #[.string a, .string b, .slice AP ps.length cP, .slice AS ss.length cS, .bool true, .string c] 34 (0, 0))) ∧ Aside0 (W.heap[g2]? = some (.cells #[.string (⟨#[]⟩ : ByteArray), .string (⟨#[]⟩ : ByteArray), .slice none 0 0, .slice none 0 0, .bool false, .string (⟨#[]⟩ : ByteArray)] 34 (0, 0))) ∧ Aside0 (W.heap[g3]? = some (.cells #[.string (⟨#[]⟩ : ByteArray), .string (⟨#[]⟩ : ByteArray), .slice none 0 0, .slice none 0 0, .bool false, .string (⟨#[]⟩ : ByteArray)] 34 (0, 0))) ∧ Aside0 (W.heap[g6]? = some (.cells #[.string c, .string b] 30 (0, 0))) ∧ Aside0 (W.heap[g8]? = some (.cells #[.string a, .string c, .slice AIs37 (inM ps a c).length kIs37, .slice AL41 ss.length kL41, .bool false, .string (⟨#[]⟩ : ByteArray)] 34 (0, 0))) ∧ Aside0 (W.heap[g9]? = some (.cells #[.string c, .string b, .slice AIs47 (inM ps c b).length kIs47, .slice AL51 z51.length kL51, .bool false, .string (⟨#[]⟩ : ByteArray)] 34 (0, 0))) ∧ Aside0 (w.heap.size ≤ g9) ∧ Aside0 (g1 ≠ g9) ∧ Aside0 (g2 ≠ g9) ∧ Aside0 (g3 ≠ g9) ∧ Aside0 (g6 ≠ g9) ∧ Aside0 (g8 ≠ g9) ∧ Aside0 (Ow k61 61 W w.heap.size (.slice AIs37 (inM ps a c).length kIs37) (inM ps a c)) ∧ Aside0 (Ow k100 100 W w.heap.size (.slice AL41 ss.length kL41) ss) ∧ Aside0 (Ow k61 61 W w.heap.size (.slice AIs47 (inM ps c b).length kIs47) (inM ps c b)) ∧ Aside0 (Ow k100 100 W w.heap.size (.slice AL51 z51.length kL51) z51) ∧ Aside0 (∀ k_, (.slice AIs47 (inM ps c b).length kIs47 : Value).ownBlock = some k_ → (.slice AIs37 (inM ps a c).length kIs37 : Value).ownBlock = some k_ → False) ∧ Aside0 (∀ k_, (.slice AIs47 (inM ps c b).length kIs47 : Value).ownBlock = some k_ → (.slice AL41 ss.length kL41 : Value).ownBlock = some k_ → False) ∧ Aside0 (∀ k_, (.slice AL51 z51.length kL51 : Value).ownBlock = some k_ → (.slice AL41 ss.length kL41 : Value).ownBlock = some k_ → False) ∧ ss = z51) ?_ (fun J => ?_)
    rotate_left
    · refine ta (i := 0) (N := some 43) (v := ?_) (bits 12 1) rfl rfl (take_ofW HT_.out HW_.out (by kernel_rfl)) (fun _ _ _ h => h) (by kernel_rfl) hHeld ?_ ?_; rotate_left; (intro w' hS; obtain ⟨s0, s1⟩ := hS; obtain ⟨q0, q1⟩ := cs2 (Aside0.mk s0); go_simp; with_reducible rfl)
      refine pu (i := 1) (N := some 44) (v := ?_) (bits 12 3) rfl rfl (any_of HT_.out (by kernel_rfl)) (fun _ _ _ h => h) (by kernel_rfl) ?_ ?_; rotate_left; (intro w'; go_simp; with_reducible rfl)
      refine ta (i := 2) (N := some 45) (v := ?_) (bits 12 7) rfl rfl (take_ofW HT_.out HW_.out (by kernel_rfl)) (fun _ _ _ h => h) (by kernel_rfl) hHeld ?_ ?_; rotate_left; (intro w' hS; obtain ⟨s0, s1⟩ := hS; obtain ⟨q0, q1, q2, q3, q4, q5⟩ := cs6 (Aside0.mk s1); go_simp; with_reducible rfl)
      refine ta (i := 3) (N := some 46) (v := ?_) (bits 12 15) rfl rfl (take_ofW HT_.out HW_.out (by kernel_rfl)) (fun _ _ _ h => h) (by kernel_rfl) hHeld ?_ ?_; rotate_left; (intro w' hS; obtain ⟨s0, s1⟩ := hS; obtain ⟨q0, q1⟩ := cs2 (Aside0.mk s0); go_simp; with_reducible rfl)
      refine pu (i := 6) (N := some 49) (v := ?_) (bits 12 79) rfl rfl (any_of HT_.out (by kernel_rfl)) (fun _ _ _ h => h) (by kernel_rfl) ?_ ?_; rotate_left; (intro w'; go_simp; with_reducible rfl)
      refine ta (i := 7) (N := some 50) (v := ?_) (bits 12 207) rfl rfl (take_ofW HT_.out HW_.out (by kernel_rfl)) (fun _ _ _ h => h) (by kernel_rfl) hHeld ?_ ?_; rotate_left; (intro w' hS; obtain ⟨s0, s1⟩ := hS; obtain ⟨q0, q1, q2, q3, q4, q5⟩ := cs6 (Aside0.mk s1); go_simp; with_reducible rfl)
      refine norm_ (a' := ?_) ?_ ?_
      rotate_left
      · simp only [Act.put, List.setIfInBounds_toArray, List.set_cons_zero, List.set_cons_succ, i64_w, i32_w]
        rfl
      refine three_ (i := 4) (j := 5) (k := 10) (Ni := some 47) (Nj := some 48) (Nk := some 9) (bits 12 223) (bits 12 239) (bits 12 1231) rfl rfl rfl rfl rfl rfl (three_of HT_.out (by kernel_rfl)) (by decide) (by decide) (by decide) (fun K hK => ?_) (fun K hK => ?_) (fun K hK => ?_)
      · refine goes_ Try.func74 (by kernel_rfl) rfl #[.slice AP ps.length cP, .agg #[.string c, .string b]] (by rfl) rfl rfl (by (try simp only [List.map_toArray, List.map_cons, List.map_nil]); rfl) ?_
        with_reducible refine cr (spec_PairsIn.M _ _ ps c b _ (cb HRP B) HCP.out) B fun AIs47 kIs47 w18 hb B RIs47 QIs47 => ?_
        have DIs37_Is47 := fr QIs47 RIs37
        have DL41_Is47 := fr QIs47 RL41
        replace F1 := bn F1 hb
        replace F2 := bn F2 hb
        replace F3 := bn F3 hb
        replace F6 := bn F6 hb
        replace F8 := bn F8 hb
        replace RIs37 := rn RIs37 hb
        replace RL41 := rn RL41 hb
        clear hb
        refine ⟨_, rfl, ?_⟩
        refine hK.out _ _ ⟨F6.out, F1.out⟩ (fun hHeld => ?_)
        clear hK K
        refine norm_ (a' := ?_) ?_ ?_
        rotate_left
        · show Act.put _ (some 47) _ = _
          simp only [Act.put, List.setIfInBounds_toArray, List.set_cons_zero, List.set_cons_succ, i64_w, i32_w]
          rfl
        clear QIs47
        refine two_ (i := 5) (j := 10) (Ni := some 48) (Nj := some 9) (bits 12 255) (bits 12 1247) rfl rfl rfl rfl (two_of HT_.out (by kernel_rfl)) (by decide) (by decide) (fun K hK => ?_) (fun K hK => ?_)
        · refine lts k100 100 (by rfl) rfl ([] : List S100) [] ?hr (Reps.none _ _) (by simp) B (fun z48 hz48 AL48 kL48 w19 hb B RL48 QL48 => ?_)
          (case hr => first | (go_simp; done) | (go_simp; rfl))
          have DIs37_L48 := fr QL48 RIs37
          have DL41_L48 := fr QL48 RL41
          have DIs47_L48 := fr QL48 RIs47
          replace F1 := bn F1 hb
          replace F2 := bn F2 hb
          replace F3 := bn F3 hb
          replace F6 := bn F6 hb
          replace F8 := bn F8 hb
          replace RIs37 := rn RIs37 hb
          replace RL41 := rn RL41 hb
          replace RIs47 := rn RIs47 hb
          clear hb QL48
          subst hz48
          refine hK.out _ _ ⟨F6.out, F1.out⟩ (fun hHeld => ?_)
          clear hK K
          refine norm_ (a' := ?_) ?_ ?_
          rotate_left
          · show Act.put _ (some 48) _ = _
            simp only [Act.put, List.setIfInBounds_toArray, List.set_cons_zero, List.set_cons_succ, i64_w, i32_w]
            rfl
          refine two_ (i := 8) (j := 10) (Ni := some 51) (Nj := some 9) (bits 12 511) (bits 12 1279) rfl rfl rfl rfl (two_of HT_.out (by kernel_rfl)) (by decide) (by decide) (fun K hK => ?_) (fun K hK => ?_)
          · refine aps k100 100 (by rfl) rfl (.tmp 48) (.tmp 50) 32 (.agg #[.int .i64 (0), .int .i64 (0), .int .i64 (0)]) 24 rfl Try.underlying32 info100 rfl (by decide) (by omega) rfl rfl RL48 (cb HRS B) (fun x cs h => by rw [k100_open h]; exact k100_mkM _ _ _ x) (by first | omega | (simp only [List.length_append, List.length_nil, List.length_cons]; omega)) B (fun z51 hz51 AL51 kL51 w20 hg B RL51 hat => ?_)
            replace F1 := bga F1 hg RL48 (by decide)
            replace F2 := bga F2 hg RL48 (by decide)
            replace F3 := bga F3 hg RL48 (by decide)
            replace F6 := bga F6 hg RL48 (by decide)
            replace F8 := bga F8 hg RL48 (by decide)
            replace RIs37 := rga RIs37 rfl hg (dty RL48 RIs37 (by decide))
            have DL41_L51 := dap hat (Aside0.mk DL41_L48.out) RL41
            replace RL41 := rga RL41 rfl hg (fun k p q => DL41_L48.out k q p)
            replace RIs47 := rga RIs47 rfl hg (dty RL48 RIs47 (by decide))
            clear hg hat
            refine hK.out _ _ ⟨F6.out, F1.out⟩ (fun hHeld => ?_)
            clear hK K
            refine norm_ (a' := ?_) ?_ ?_
            rotate_left
            · show Act.put _ (some 51) _ = _
              simp only [Act.put, List.setIfInBounds_toArray, List.set_cons_zero, List.set_cons_succ, i64_w, i32_w]
              rfl
            refine pu (i := 9) (N := some 52) (v := ?_) (bits 12 1023) rfl rfl (any_of HT_.out (by kernel_rfl)) (fun _ _ _ h => h) (by kernel_rfl) ?_ ?_; rotate_left; (intro w'; go_simp; with_reducible rfl)
            refine norm_ (a' := ?_) ?_ ?_
            rotate_left
            · simp only [Act.put, List.setIfInBounds_toArray, List.set_cons_zero, List.set_cons_succ, i64_w, i32_w]
              rfl
            refine one_ (i := 10) (N := some 9) (bits 12 2047) rfl rfl (one_of HT_.out (by kernel_rfl)) (by decide) (fun K hK => ?_)
            refine bxs (cs := #[.string (⟨#[]⟩ : ByteArray), .string (⟨#[]⟩ : ByteArray), .slice none 0 0, .slice none 0 0, .bool false, .string (⟨#[]⟩ : ByteArray)]) (t := 34) (by rfl) rfl ?hr B (fun g9 w21 hb B F9 L9 E9 => ?_)
            (case hr => first | (go_simp; done) | (go_simp; rfl))
            have N1_9 := ne1 E9 F1
            have N2_9 := ne1 E9 F2
            have N3_9 := ne1 E9 F3
            have N6_9 := ne1 E9 F6
            have N8_9 := ne1 E9 F8
            replace F1 := bn F1 hb
            replace F2 := bn F2 hb
            replace F3 := bn F3 hb
            replace F6 := bn F6 hb
            replace F8 := bn F8 hb
            replace RIs37 := rn RIs37 hb
            replace RL41 := rn RL41 hb
            replace RIs47 := rn RIs47 hb
            replace RL51 := rn RL51 hb
            clear hb E9
            refine hK.out _ _ ⟨F6.out, F1.out⟩ (fun hHeld => ?_)
            clear hK K
            refine norm_ (a' := ?_) ?_ ?_
            rotate_left
            · show Act.put _ (some 9) _ = _
              simp only [Act.put, List.setIfInBounds_toArray, List.set_cons_zero, List.set_cons_succ, i64_w, i32_w]
              rfl
            refine one_ (i := 11) (N := none) (bits 12 4095) rfl rfl (one_of HT_.out (by kernel_rfl)) (by decide) (fun K hK => ?_)
            obtain ⟨y0, y1, y2, y3, y4, y5⟩ := cs6 F9
            have z0 := fz F9 0
            have z1 := fz F9 1
            have z2 := fz F9 2
            have z3 := fz F9 3
            have z4 := fz F9 4
            have z5 := fz F9 5
            refine sxs (g := g9) 0 [.string c, .string b, .slice AIs47 (inM ps c b).length kIs47, .slice AL51 z51.length kL51, .bool false, .string (⟨#[]⟩ : ByteArray)] [.string c, .string b, .slice AIs47 (inM ps c b).length kIs47, .slice AL51 z51.length kL51, .bool false, .string (⟨#[]⟩ : ByteArray)] (by rfl) rfl ?hr B F9 L9 rfl (Nat.le_of_ble_eq_true rfl) (fun w22 hk B G => ?_)
            (case hr => first | (go_simp; done) | (go_simp; rfl))
            replace F1 := bk F1 hk N1_9.out
            replace F2 := bk F2 hk N2_9.out
            replace F3 := bk F3 hk N3_9.out
            replace F6 := bk F6 hk N6_9.out
            replace F8 := bk F8 hk N8_9.out
            replace RIs37 := rk RIs37 F9 (by decide) hk
            replace RL41 := rk RL41 F9 (by decide) hk
            replace RIs47 := rk RIs47 F9 (by decide) hk
            replace RL51 := rk RL51 F9 (by decide) hk
            replace F9 := G
            clear hk y0 z0 y1 z1 y2 z2 y3 z3 y4 z4 y5 z5
            refine hK.out _ _ ⟨F6.out, F1.out⟩ (fun hHeld => ?_)
            clear hK K
            refine norm_ (a' := _) ?_ (J ⟨AIs47, kIs47, AL48, kL48, AL51, kL51, z51, g9⟩ _ ⟨B, F1, F2, F3, F6, F8, F9, L9, N1_9, N2_9, N3_9, N6_9, N8_9, RIs37, RL41, RIs47, RL51, DIs37_Is47, DL41_Is47, DL41_L51, (by rw [← hz51]; rfl)⟩)
            simp only [putAll, Act.put, List.setIfInBounds_toArray, List.set_cons_zero, List.set_cons_succ]
            try rfl
          · refine bxs (cs := #[.string (⟨#[]⟩ : ByteArray), .string (⟨#[]⟩ : ByteArray), .slice none 0 0, .slice none 0 0, .bool false, .string (⟨#[]⟩ : ByteArray)]) (t := 34) (by rfl) rfl ?hr B (fun g9 w20 hb B F9 L9 E9 => ?_)
            (case hr => first | (go_simp; done) | (go_simp; rfl))
            have N1_9 := ne1 E9 F1
            have N2_9 := ne1 E9 F2
            have N3_9 := ne1 E9 F3
            have N6_9 := ne1 E9 F6
            have N8_9 := ne1 E9 F8
            replace F1 := bn F1 hb
            replace F2 := bn F2 hb
            replace F3 := bn F3 hb
            replace F6 := bn F6 hb
            replace F8 := bn F8 hb
            replace RIs37 := rn RIs37 hb
            replace RL41 := rn RL41 hb
            replace RIs47 := rn RIs47 hb
            replace RL48 := rn RL48 hb
            clear hb E9
            refine hK.out _ _ ⟨F6.out, F1.out⟩ (fun hHeld => ?_)
            clear hK K
            refine norm_ (a' := ?_) ?_ ?_
            rotate_left
            · show Act.put _ (some 9) _ = _
              simp only [Act.put, List.setIfInBounds_toArray, List.set_cons_zero, List.set_cons_succ, i64_w, i32_w]
              rfl
            refine one_ (i := 8) (N := some 51) (bits 12 1535) rfl rfl (one_of HT_.out (by kernel_rfl)) (by decide) (fun K hK => ?_)
            refine aps k100 100 (by rfl) rfl (.tmp 48) (.tmp 50) 32 (.agg #[.int .i64 (0), .int .i64 (0), .int .i64 (0)]) 24 rfl Try.underlying32 info100 rfl (by decide) (by omega) rfl rfl RL48 (cb HRS B) (fun x cs h => by rw [k100_open h]; exact k100_mkM _ _ _ x) (by first | omega | (simp only [List.length_append, List.length_nil, List.length_cons]; omega)) B (fun z51 hz51 AL51 kL51 w21 hg B RL51 hat => ?_)
            replace F1 := bga F1 hg RL48 (by decide)
            replace F2 := bga F2 hg RL48 (by decide)
            replace F3 := bga F3 hg RL48 (by decide)
            replace F6 := bga F6 hg RL48 (by decide)
            replace F8 := bga F8 hg RL48 (by decide)
            replace F9 := bga F9 hg RL48 (by decide)
            replace RIs37 := rga RIs37 rfl hg (dty RL48 RIs37 (by decide))
            have DL41_L51 := dap hat (Aside0.mk DL41_L48.out) RL41
            replace RL41 := rga RL41 rfl hg (fun k p q => DL41_L48.out k q p)
            replace RIs47 := rga RIs47 rfl hg (dty RL48 RIs47 (by decide))
            clear hg hat
            refine hK.out _ _ ⟨F6.out, F1.out⟩ (fun hHeld => ?_)
            clear hK K
            refine norm_ (a' := ?_) ?_ ?_
            rotate_left
            · show Act.put _ (some 51) _ = _
              simp only [Act.put, List.setIfInBounds_toArray, List.set_cons_zero, List.set_cons_succ, i64_w, i32_w]
              rfl
            refine pu (i := 9) (N := some 52) (v := ?_) (bits 12 2047) rfl rfl (any_of HT_.out (by kernel_rfl)) (fun _ _ _ h => h) (by kernel_rfl) ?_ ?_; rotate_left; (intro w'; go_simp; with_reducible rfl)
            refine norm_ (a' := ?_) ?_ ?_
            rotate_left
            · simp only [Act.put, List.setIfInBounds_toArray, List.set_cons_zero, List.set_cons_succ, i64_w, i32_w]
              rfl
            refine one_ (i := 11) (N := none) (bits 12 4095) rfl rfl (one_of HT_.out (by kernel_rfl)) (by decide) (fun K hK => ?_)
            obtain ⟨y0, y1, y2, y3, y4, y5⟩ := cs6 F9
            have z0 := fz F9 0
            have z1 := fz F9 1
            have z2 := fz F9 2
            have z3 := fz F9 3
            have z4 := fz F9 4
            have z5 := fz F9 5
            refine sxs (g := g9) 0 [.string c, .string b, .slice AIs47 (inM ps c b).length kIs47, .slice AL51 z51.length kL51, .bool false, .string (⟨#[]⟩ : ByteArray)] [.string c, .string b, .slice AIs47 (inM ps c b).length kIs47, .slice AL51 z51.length kL51, .bool false, .string (⟨#[]⟩ : ByteArray)] (by rfl) rfl ?hr B F9 L9 rfl (Nat.le_of_ble_eq_true rfl) (fun w22 hk B G => ?_)
            (case hr => first | (go_simp; done) | (go_simp; rfl))
            replace F1 := bk F1 hk N1_9.out
            replace F2 := bk F2 hk N2_9.out
            replace F3 := bk F3 hk N3_9.out
            replace F6 := bk F6 hk N6_9.out
            replace F8 := bk F8 hk N8_9.out
            replace RIs37 := rk RIs37 F9 (by decide) hk
            replace RL41 := rk RL41 F9 (by decide) hk
            replace RIs47 := rk RIs47 F9 (by decide) hk
            replace RL51 := rk RL51 F9 (by decide) hk
            replace F9 := G
            clear hk y0 z0 y1 z1 y2 z2 y3 z3 y4 z4 y5 z5
            refine hK.out _ _ ⟨F6.out, F1.out⟩ (fun hHeld => ?_)
            clear hK K
            refine norm_ (a' := _) ?_ (J ⟨AIs47, kIs47, AL48, kL48, AL51, kL51, z51, g9⟩ _ ⟨B, F1, F2, F3, F6, F8, F9, L9, N1_9, N2_9, N3_9, N6_9, N8_9, RIs37, RL41, RIs47, RL51, DIs37_Is47, DL41_Is47, DL41_L51, (by rw [← hz51]; rfl)⟩)
            simp only [putAll, Act.put, List.setIfInBounds_toArray, List.set_cons_zero, List.set_cons_succ]
            try rfl
        · refine bxs (cs := #[.string (⟨#[]⟩ : ByteArray), .string (⟨#[]⟩ : ByteArray), .slice none 0 0, .slice none 0 0, .bool false, .string (⟨#[]⟩ : ByteArray)]) (t := 34) (by rfl) rfl ?hr B (fun g9 w19 hb B F9 L9 E9 => ?_)
          (case hr => first | (go_simp; done) | (go_simp; rfl))
          have N1_9 := ne1 E9 F1
          have N2_9 := ne1 E9 F2
          have N3_9 := ne1 E9 F3
          have N6_9 := ne1 E9 F6
          have N8_9 := ne1 E9 F8
          replace F1 := bn F1 hb
          replace F2 := bn F2 hb
          replace F3 := bn F3 hb
          replace F6 := bn F6 hb
          replace F8 := bn F8 hb
          replace RIs37 := rn RIs37 hb
          replace RL41 := rn RL41 hb
          replace RIs47 := rn RIs47 hb
          clear hb E9
          refine hK.out _ _ ⟨F6.out, F1.out⟩ (fun hHeld => ?_)
          clear hK K
          refine norm_ (a' := ?_) ?_ ?_
          rotate_left
          · show Act.put _ (some 9) _ = _
            simp only [Act.put, List.setIfInBounds_toArray, List.set_cons_zero, List.set_cons_succ, i64_w, i32_w]
            rfl
          refine one_ (i := 5) (N := some 48) (bits 12 1279) rfl rfl (one_of HT_.out (by kernel_rfl)) (by decide) (fun K hK => ?_)
          refine lts k100 100 (by rfl) rfl ([] : List S100) [] ?hr (Reps.none _ _) (by simp) B (fun z48 hz48 AL48 kL48 w20 hb B RL48 QL48 => ?_)
          (case hr => first | (go_simp; done) | (go_simp; rfl))
          have DIs37_L48 := fr QL48 RIs37
          have DL41_L48 := fr QL48 RL41
          have DIs47_L48 := fr QL48 RIs47
          replace F1 := bn F1 hb
          replace F2 := bn F2 hb
          replace F3 := bn F3 hb
          replace F6 := bn F6 hb
          replace F8 := bn F8 hb
          replace F9 := bn F9 hb
          replace RIs37 := rn RIs37 hb
          replace RL41 := rn RL41 hb
          replace RIs47 := rn RIs47 hb
          clear hb QL48
          subst hz48
          refine hK.out _ _ ⟨F6.out, F1.out⟩ (fun hHeld => ?_)
          clear hK K
          refine norm_ (a' := ?_) ?_ ?_
          rotate_left
          · show Act.put _ (some 48) _ = _
            simp only [Act.put, List.setIfInBounds_toArray, List.set_cons_zero, List.set_cons_succ, i64_w, i32_w]
            rfl
          refine one_ (i := 8) (N := some 51) (bits 12 1535) rfl rfl (one_of HT_.out (by kernel_rfl)) (by decide) (fun K hK => ?_)
          refine aps k100 100 (by rfl) rfl (.tmp 48) (.tmp 50) 32 (.agg #[.int .i64 (0), .int .i64 (0), .int .i64 (0)]) 24 rfl Try.underlying32 info100 rfl (by decide) (by omega) rfl rfl RL48 (cb HRS B) (fun x cs h => by rw [k100_open h]; exact k100_mkM _ _ _ x) (by first | omega | (simp only [List.length_append, List.length_nil, List.length_cons]; omega)) B (fun z51 hz51 AL51 kL51 w21 hg B RL51 hat => ?_)
          replace F1 := bga F1 hg RL48 (by decide)
          replace F2 := bga F2 hg RL48 (by decide)
          replace F3 := bga F3 hg RL48 (by decide)
          replace F6 := bga F6 hg RL48 (by decide)
          replace F8 := bga F8 hg RL48 (by decide)
          replace F9 := bga F9 hg RL48 (by decide)
          replace RIs37 := rga RIs37 rfl hg (dty RL48 RIs37 (by decide))
          have DL41_L51 := dap hat (Aside0.mk DL41_L48.out) RL41
          replace RL41 := rga RL41 rfl hg (fun k p q => DL41_L48.out k q p)
          replace RIs47 := rga RIs47 rfl hg (dty RL48 RIs47 (by decide))
          clear hg hat
          refine hK.out _ _ ⟨F6.out, F1.out⟩ (fun hHeld => ?_)
          clear hK K
          refine norm_ (a' := ?_) ?_ ?_
          rotate_left
          · show Act.put _ (some 51) _ = _
            simp only [Act.put, List.setIfInBounds_toArray, List.set_cons_zero, List.set_cons_succ, i64_w, i32_w]
            rfl
          refine pu (i := 9) (N := some 52) (v := ?_) (bits 12 2047) rfl rfl (any_of HT_.out (by kernel_rfl)) (fun _ _ _ h => h) (by kernel_rfl) ?_ ?_; rotate_left; (intro w'; go_simp; with_reducible rfl)
          refine norm_ (a' := ?_) ?_ ?_
          rotate_left
          · simp only [Act.put, List.setIfInBounds_toArray, List.set_cons_zero, List.set_cons_succ, i64_w, i32_w]
            rfl
          refine one_ (i := 11) (N := none) (bits 12 4095) rfl rfl (one_of HT_.out (by kernel_rfl)) (by decide) (fun K hK => ?_)
          obtain ⟨y0, y1, y2, y3, y4, y5⟩ := cs6 F9
          have z0 := fz F9 0
          have z1 := fz F9 1
          have z2 := fz F9 2
          have z3 := fz F9 3
          have z4 := fz F9 4
          have z5 := fz F9 5
          refine sxs (g := g9) 0 [.string c, .string b, .slice AIs47 (inM ps c b).length kIs47, .slice AL51 z51.length kL51, .bool false, .string (⟨#[]⟩ : ByteArray)] [.string c, .string b, .slice AIs47 (inM ps c b).length kIs47, .slice AL51 z51.length kL51, .bool false, .string (⟨#[]⟩ : ByteArray)] (by rfl) rfl ?hr B F9 L9 rfl (Nat.le_of_ble_eq_true rfl) (fun w22 hk B G => ?_)
          (case hr => first | (go_simp; done) | (go_simp; rfl))
          replace F1 := bk F1 hk N1_9.out
          replace F2 := bk F2 hk N2_9.out
          replace F3 := bk F3 hk N3_9.out
          replace F6 := bk F6 hk N6_9.out
          replace F8 := bk F8 hk N8_9.out
          replace RIs37 := rk RIs37 F9 (by decide) hk
          replace RL41 := rk RL41 F9 (by decide) hk
          replace RIs47 := rk RIs47 F9 (by decide) hk
          replace RL51 := rk RL51 F9 (by decide) hk
          replace F9 := G
          clear hk y0 z0 y1 z1 y2 z2 y3 z3 y4 z4 y5 z5
          refine hK.out _ _ ⟨F6.out, F1.out⟩ (fun hHeld => ?_)
          clear hK K
          refine norm_ (a' := _) ?_ (J ⟨AIs47, kIs47, AL48, kL48, AL51, kL51, z51, g9⟩ _ ⟨B, F1, F2, F3, F6, F8, F9, L9, N1_9, N2_9, N3_9, N6_9, N8_9, RIs37, RL41, RIs47, RL51, DIs37_Is47, DL41_Is47, DL41_L51, (by rw [← hz51]; rfl)⟩)
          simp only [putAll, Act.put, List.setIfInBounds_toArray, List.set_cons_zero, List.set_cons_succ]
          try rfl
      · refine lts k100 100 (by rfl) rfl ([] : List S100) [] ?hr (Reps.none _ _) (by simp) B (fun z48 hz48 AL48 kL48 w18 hb B RL48 QL48 => ?_)
        (case hr => first | (go_simp; done) | (go_simp; rfl))
        have DIs37_L48 := fr QL48 RIs37
        have DL41_L48 := fr QL48 RL41
        replace F1 := bn F1 hb
        replace F2 := bn F2 hb
        replace F3 := bn F3 hb
        replace F6 := bn F6 hb
        replace F8 := bn F8 hb
        replace RIs37 := rn RIs37 hb
        replace RL41 := rn RL41 hb
        clear hb QL48
        subst hz48
        refine hK.out _ _ ⟨F6.out, F1.out⟩ (fun hHeld => ?_)
        clear hK K
        refine norm_ (a' := ?_) ?_ ?_
        rotate_left
        · show Act.put _ (some 48) _ = _
          simp only [Act.put, List.setIfInBounds_toArray, List.set_cons_zero, List.set_cons_succ, i64_w, i32_w]
          rfl
        refine two_ (i := 4) (j := 10) (Ni := some 47) (Nj := some 9) (bits 12 255) (bits 12 1263) rfl rfl rfl rfl (two_of HT_.out (by kernel_rfl)) (by decide) (by decide) (fun K hK => ?_) (fun K hK => ?_)
        · refine goes_ Try.func74 (by kernel_rfl) rfl #[.slice AP ps.length cP, .agg #[.string c, .string b]] (by rfl) rfl rfl (by (try simp only [List.map_toArray, List.map_cons, List.map_nil]); rfl) ?_
          with_reducible refine cr (spec_PairsIn.M _ _ ps c b _ (cb HRP B) HCP.out) B fun AIs47 kIs47 w19 hb B RIs47 QIs47 => ?_
          have DIs37_Is47 := fr QIs47 RIs37
          have DL41_Is47 := fr QIs47 RL41
          have DL48_Is47 := fr QIs47 RL48
          replace F1 := bn F1 hb
          replace F2 := bn F2 hb
          replace F3 := bn F3 hb
          replace F6 := bn F6 hb
          replace F8 := bn F8 hb
          replace RIs37 := rn RIs37 hb
          replace RL41 := rn RL41 hb
          replace RL48 := rn RL48 hb
          clear hb
          refine ⟨_, rfl, ?_⟩
          refine hK.out _ _ ⟨F6.out, F1.out⟩ (fun hHeld => ?_)
          clear hK K
          refine norm_ (a' := ?_) ?_ ?_
          rotate_left
          · show Act.put _ (some 47) _ = _
            simp only [Act.put, List.setIfInBounds_toArray, List.set_cons_zero, List.set_cons_succ, i64_w, i32_w]
            rfl
          clear QIs47
          refine two_ (i := 8) (j := 10) (Ni := some 51) (Nj := some 9) (bits 12 511) (bits 12 1279) rfl rfl rfl rfl (two_of HT_.out (by kernel_rfl)) (by decide) (by decide) (fun K hK => ?_) (fun K hK => ?_)
          · refine aps k100 100 (by rfl) rfl (.tmp 48) (.tmp 50) 32 (.agg #[.int .i64 (0), .int .i64 (0), .int .i64 (0)]) 24 rfl Try.underlying32 info100 rfl (by decide) (by omega) rfl rfl RL48 (cb HRS B) (fun x cs h => by rw [k100_open h]; exact k100_mkM _ _ _ x) (by first | omega | (simp only [List.length_append, List.length_nil, List.length_cons]; omega)) B (fun z51 hz51 AL51 kL51 w20 hg B RL51 hat => ?_)
            replace F1 := bga F1 hg RL48 (by decide)
            replace F2 := bga F2 hg RL48 (by decide)
            replace F3 := bga F3 hg RL48 (by decide)
            replace F6 := bga F6 hg RL48 (by decide)
            replace F8 := bga F8 hg RL48 (by decide)
            replace RIs37 := rga RIs37 rfl hg (dty RL48 RIs37 (by decide))
            have DL41_L51 := dap hat (Aside0.mk DL41_L48.out) RL41
            replace RL41 := rga RL41 rfl hg (fun k p q => DL41_L48.out k q p)
            replace RIs47 := rga RIs47 rfl hg (dty RL48 RIs47 (by decide))
            clear hg hat
            refine hK.out _ _ ⟨F6.out, F1.out⟩ (fun hHeld => ?_)
            clear hK K
            refine norm_ (a' := ?_) ?_ ?_
            rotate_left
            · show Act.put _ (some 51) _ = _
              simp only [Act.put, List.setIfInBounds_toArray, List.set_cons_zero, List.set_cons_succ, i64_w, i32_w]
              rfl
            refine pu (i := 9) (N := some 52) (v := ?_) (bits 12 1023) rfl rfl (any_of HT_.out (by kernel_rfl)) (fun _ _ _ h => h) (by kernel_rfl) ?_ ?_; rotate_left; (intro w'; go_simp; with_reducible rfl)
            refine norm_ (a' := ?_) ?_ ?_
            rotate_left
            · simp only [Act.put, List.setIfInBounds_toArray, List.set_cons_zero, List.set_cons_succ, i64_w, i32_w]
              rfl
            refine one_ (i := 10) (N := some 9) (bits 12 2047) rfl rfl (one_of HT_.out (by kernel_rfl)) (by decide) (fun K hK => ?_)
            refine bxs (cs := #[.string (⟨#[]⟩ : ByteArray), .string (⟨#[]⟩ : ByteArray), .slice none 0 0, .slice none 0 0, .bool false, .string (⟨#[]⟩ : ByteArray)]) (t := 34) (by rfl) rfl ?hr B (fun g9 w21 hb B F9 L9 E9 => ?_)
            (case hr => first | (go_simp; done) | (go_simp; rfl))
            have N1_9 := ne1 E9 F1
            have N2_9 := ne1 E9 F2
            have N3_9 := ne1 E9 F3
            have N6_9 := ne1 E9 F6
            have N8_9 := ne1 E9 F8
            replace F1 := bn F1 hb
            replace F2 := bn F2 hb
            replace F3 := bn F3 hb
            replace F6 := bn F6 hb
            replace F8 := bn F8 hb
            replace RIs37 := rn RIs37 hb
            replace RL41 := rn RL41 hb
            replace RIs47 := rn RIs47 hb
            replace RL51 := rn RL51 hb
            clear hb E9
            refine hK.out _ _ ⟨F6.out, F1.out⟩ (fun hHeld => ?_)
            clear hK K
            refine norm_ (a' := ?_) ?_ ?_
            rotate_left
            · show Act.put _ (some 9) _ = _
              simp only [Act.put, List.setIfInBounds_toArray, List.set_cons_zero, List.set_cons_succ, i64_w, i32_w]
              rfl
            refine one_ (i := 11) (N := none) (bits 12 4095) rfl rfl (one_of HT_.out (by kernel_rfl)) (by decide) (fun K hK => ?_)
            obtain ⟨y0, y1, y2, y3, y4, y5⟩ := cs6 F9
            have z0 := fz F9 0
            have z1 := fz F9 1
            have z2 := fz F9 2
            have z3 := fz F9 3
            have z4 := fz F9 4
            have z5 := fz F9 5
            refine sxs (g := g9) 0 [.string c, .string b, .slice AIs47 (inM ps c b).length kIs47, .slice AL51 z51.length kL51, .bool false, .string (⟨#[]⟩ : ByteArray)] [.string c, .string b, .slice AIs47 (inM ps c b).length kIs47, .slice AL51 z51.length kL51, .bool false, .string (⟨#[]⟩ : ByteArray)] (by rfl) rfl ?hr B F9 L9 rfl (Nat.le_of_ble_eq_true rfl) (fun w22 hk B G => ?_)
            (case hr => first | (go_simp; done) | (go_simp; rfl))
            replace F1 := bk F1 hk N1_9.out
            replace F2 := bk F2 hk N2_9.out
            replace F3 := bk F3 hk N3_9.out
            replace F6 := bk F6 hk N6_9.out
            replace F8 := bk F8 hk N8_9.out
            replace RIs37 := rk RIs37 F9 (by decide) hk
            replace RL41 := rk RL41 F9 (by decide) hk
            replace RIs47 := rk RIs47 F9 (by decide) hk
            replace RL51 := rk RL51 F9 (by decide) hk
            replace F9 := G
            clear hk y0 z0 y1 z1 y2 z2 y3 z3 y4 z4 y5 z5
            refine hK.out _ _ ⟨F6.out, F1.out⟩ (fun hHeld => ?_)
            clear hK K
            refine norm_ (a' := _) ?_ (J ⟨AIs47, kIs47, AL48, kL48, AL51, kL51, z51, g9⟩ _ ⟨B, F1, F2, F3, F6, F8, F9, L9, N1_9, N2_9, N3_9, N6_9, N8_9, RIs37, RL41, RIs47, RL51, DIs37_Is47, DL41_Is47, DL41_L51, (by rw [← hz51]; rfl)⟩)
            simp only [putAll, Act.put, List.setIfInBounds_toArray, List.set_cons_zero, List.set_cons_succ]
            try rfl
          · refine bxs (cs := #[.string (⟨#[]⟩ : ByteArray), .string (⟨#[]⟩ : ByteArray), .slice none 0 0, .slice none 0 0, .bool false, .string (⟨#[]⟩ : ByteArray)]) (t := 34) (by rfl) rfl ?hr B (fun g9 w20 hb B F9 L9 E9 => ?_)
            (case hr => first | (go_simp; done) | (go_simp; rfl))
            have N1_9 := ne1 E9 F1
            have N2_9 := ne1 E9 F2
            have N3_9 := ne1 E9 F3
            have N6_9 := ne1 E9 F6
            have N8_9 := ne1 E9 F8
            replace F1 := bn F1 hb
            replace F2 := bn F2 hb
            replace F3 := bn F3 hb
            replace F6 := bn F6 hb
            replace F8 := bn F8 hb
            replace RIs37 := rn RIs37 hb
            replace RL41 := rn RL41 hb
            replace RL48 := rn RL48 hb
            replace RIs47 := rn RIs47 hb
            clear hb E9
            refine hK.out _ _ ⟨F6.out, F1.out⟩ (fun hHeld => ?_)
            clear hK K
            refine norm_ (a' := ?_) ?_ ?_
            rotate_left
            · show Act.put _ (some 9) _ = _
              simp only [Act.put, List.setIfInBounds_toArray, List.set_cons_zero, List.set_cons_succ, i64_w, i32_w]
              rfl
            refine one_ (i := 8) (N := some 51) (bits 12 1535) rfl rfl (one_of HT_.out (by kernel_rfl)) (by decide) (fun K hK => ?_)
            refine aps k100 100 (by rfl) rfl (.tmp 48) (.tmp 50) 32 (.agg #[.int .i64 (0), .int .i64 (0), .int .i64 (0)]) 24 rfl Try.underlying32 info100 rfl (by decide) (by omega) rfl rfl RL48 (cb HRS B) (fun x cs h => by rw [k100_open h]; exact k100_mkM _ _ _ x) (by first | omega | (simp only [List.length_append, List.length_nil, List.length_cons]; omega)) B (fun z51 hz51 AL51 kL51 w21 hg B RL51 hat => ?_)
            replace F1 := bga F1 hg RL48 (by decide)
            replace F2 := bga F2 hg RL48 (by decide)
            replace F3 := bga F3 hg RL48 (by decide)
            replace F6 := bga F6 hg RL48 (by decide)
            replace F8 := bga F8 hg RL48 (by decide)
            replace F9 := bga F9 hg RL48 (by decide)
            replace RIs37 := rga RIs37 rfl hg (dty RL48 RIs37 (by decide))
            have DL41_L51 := dap hat (Aside0.mk DL41_L48.out) RL41
            replace RL41 := rga RL41 rfl hg (fun k p q => DL41_L48.out k q p)
            replace RIs47 := rga RIs47 rfl hg (dty RL48 RIs47 (by decide))
            clear hg hat
            refine hK.out _ _ ⟨F6.out, F1.out⟩ (fun hHeld => ?_)
            clear hK K
            refine norm_ (a' := ?_) ?_ ?_
            rotate_left
            · show Act.put _ (some 51) _ = _
              simp only [Act.put, List.setIfInBounds_toArray, List.set_cons_zero, List.set_cons_succ, i64_w, i32_w]
              rfl
            refine pu (i := 9) (N := some 52) (v := ?_) (bits 12 2047) rfl rfl (any_of HT_.out (by kernel_rfl)) (fun _ _ _ h => h) (by kernel_rfl) ?_ ?_; rotate_left; (intro w'; go_simp; with_reducible rfl)
            refine norm_ (a' := ?_) ?_ ?_
            rotate_left
            · simp only [Act.put, List.setIfInBounds_toArray, List.set_cons_zero, List.set_cons_succ, i64_w, i32_w]
              rfl
            refine one_ (i := 11) (N := none) (bits 12 4095) rfl rfl (one_of HT_.out (by kernel_rfl)) (by decide) (fun K hK => ?_)
            obtain ⟨y0, y1, y2, y3, y4, y5⟩ := cs6 F9
            have z0 := fz F9 0
            have z1 := fz F9 1
            have z2 := fz F9 2
            have z3 := fz F9 3
            have z4 := fz F9 4
            have z5 := fz F9 5
            refine sxs (g := g9) 0 [.string c, .string b, .slice AIs47 (inM ps c b).length kIs47, .slice AL51 z51.length kL51, .bool false, .string (⟨#[]⟩ : ByteArray)] [.string c, .string b, .slice AIs47 (inM ps c b).length kIs47, .slice AL51 z51.length kL51, .bool false, .string (⟨#[]⟩ : ByteArray)] (by rfl) rfl ?hr B F9 L9 rfl (Nat.le_of_ble_eq_true rfl) (fun w22 hk B G => ?_)
            (case hr => first | (go_simp; done) | (go_simp; rfl))
            replace F1 := bk F1 hk N1_9.out
            replace F2 := bk F2 hk N2_9.out
            replace F3 := bk F3 hk N3_9.out
            replace F6 := bk F6 hk N6_9.out
            replace F8 := bk F8 hk N8_9.out
            replace RIs37 := rk RIs37 F9 (by decide) hk
            replace RL41 := rk RL41 F9 (by decide) hk
            replace RIs47 := rk RIs47 F9 (by decide) hk
            replace RL51 := rk RL51 F9 (by decide) hk
            replace F9 := G
            clear hk y0 z0 y1 z1 y2 z2 y3 z3 y4 z4 y5 z5
            refine hK.out _ _ ⟨F6.out, F1.out⟩ (fun hHeld => ?_)
            clear hK K
            refine norm_ (a' := _) ?_ (J ⟨AIs47, kIs47, AL48, kL48, AL51, kL51, z51, g9⟩ _ ⟨B, F1, F2, F3, F6, F8, F9, L9, N1_9, N2_9, N3_9, N6_9, N8_9, RIs37, RL41, RIs47, RL51, DIs37_Is47, DL41_Is47, DL41_L51, (by rw [← hz51]; rfl)⟩)
            simp only [putAll, Act.put, List.setIfInBounds_toArray, List.set_cons_zero, List.set_cons_succ]
            try rfl
        · refine bxs (cs := #[.string (⟨#[]⟩ : ByteArray), .string (⟨#[]⟩ : ByteArray), .slice none 0 0, .slice none 0 0, .bool false, .string (⟨#[]⟩ : ByteArray)]) (t := 34) (by rfl) rfl ?hr B (fun g9 w19 hb B F9 L9 E9 => ?_)
          (case hr => first | (go_simp; done) | (go_simp; rfl))
          have N1_9 := ne1 E9 F1
          have N2_9 := ne1 E9 F2
          have N3_9 := ne1 E9 F3
          have N6_9 := ne1 E9 F6
          have N8_9 := ne1 E9 F8
          replace F1 := bn F1 hb
          replace F2 := bn F2 hb
          replace F3 := bn F3 hb
          replace F6 := bn F6 hb
          replace F8 := bn F8 hb
          replace RIs37 := rn RIs37 hb
          replace RL41 := rn RL41 hb
          replace RL48 := rn RL48 hb
          clear hb E9
          refine hK.out _ _ ⟨F6.out, F1.out⟩ (fun hHeld => ?_)
          clear hK K
          refine norm_ (a' := ?_) ?_ ?_
          rotate_left
          · show Act.put _ (some 9) _ = _
            simp only [Act.put, List.setIfInBounds_toArray, List.set_cons_zero, List.set_cons_succ, i64_w, i32_w]
            rfl
          refine one_ (i := 4) (N := some 47) (bits 12 1279) rfl rfl (one_of HT_.out (by kernel_rfl)) (by decide) (fun K hK => ?_)
          refine goes_ Try.func74 (by kernel_rfl) rfl #[.slice AP ps.length cP, .agg #[.string c, .string b]] (by rfl) rfl rfl (by (try simp only [List.map_toArray, List.map_cons, List.map_nil]); rfl) ?_
          with_reducible refine cr (spec_PairsIn.M _ _ ps c b _ (cb HRP B) HCP.out) B fun AIs47 kIs47 w20 hb B RIs47 QIs47 => ?_
          have DIs37_Is47 := fr QIs47 RIs37
          have DL41_Is47 := fr QIs47 RL41
          have DL48_Is47 := fr QIs47 RL48
          replace F1 := bn F1 hb
          replace F2 := bn F2 hb
          replace F3 := bn F3 hb
          replace F6 := bn F6 hb
          replace F8 := bn F8 hb
          replace F9 := bn F9 hb
          replace RIs37 := rn RIs37 hb
          replace RL41 := rn RL41 hb
          replace RL48 := rn RL48 hb
          clear hb
          refine ⟨_, rfl, ?_⟩
          refine hK.out _ _ ⟨F6.out, F1.out⟩ (fun hHeld => ?_)
          clear hK K
          refine norm_ (a' := ?_) ?_ ?_
          rotate_left
          · show Act.put _ (some 47) _ = _
            simp only [Act.put, List.setIfInBounds_toArray, List.set_cons_zero, List.set_cons_succ, i64_w, i32_w]
            rfl
          clear QIs47
          refine one_ (i := 8) (N := some 51) (bits 12 1535) rfl rfl (one_of HT_.out (by kernel_rfl)) (by decide) (fun K hK => ?_)
          refine aps k100 100 (by rfl) rfl (.tmp 48) (.tmp 50) 32 (.agg #[.int .i64 (0), .int .i64 (0), .int .i64 (0)]) 24 rfl Try.underlying32 info100 rfl (by decide) (by omega) rfl rfl RL48 (cb HRS B) (fun x cs h => by rw [k100_open h]; exact k100_mkM _ _ _ x) (by first | omega | (simp only [List.length_append, List.length_nil, List.length_cons]; omega)) B (fun z51 hz51 AL51 kL51 w21 hg B RL51 hat => ?_)
          replace F1 := bga F1 hg RL48 (by decide)
          replace F2 := bga F2 hg RL48 (by decide)
          replace F3 := bga F3 hg RL48 (by decide)
          replace F6 := bga F6 hg RL48 (by decide)
          replace F8 := bga F8 hg RL48 (by decide)
          replace F9 := bga F9 hg RL48 (by decide)
          replace RIs37 := rga RIs37 rfl hg (dty RL48 RIs37 (by decide))
          have DL41_L51 := dap hat (Aside0.mk DL41_L48.out) RL41
          replace RL41 := rga RL41 rfl hg (fun k p q => DL41_L48.out k q p)
          replace RIs47 := rga RIs47 rfl hg (dty RL48 RIs47 (by decide))
          clear hg hat
          refine hK.out _ _ ⟨F6.out, F1.out⟩ (fun hHeld => ?_)
          clear hK K
          refine norm_ (a' := ?_) ?_ ?_
          rotate_left
          · show Act.put _ (some 51) _ = _
            simp only [Act.put, List.setIfInBounds_toArray, List.set_cons_zero, List.set_cons_succ, i64_w, i32_w]
            rfl
          refine pu (i := 9) (N := some 52) (v := ?_) (bits 12 2047) rfl rfl (any_of HT_.out (by kernel_rfl)) (fun _ _ _ h => h) (by kernel_rfl) ?_ ?_; rotate_left; (intro w'; go_simp; with_reducible rfl)
          refine norm_ (a' := ?_) ?_ ?_
          rotate_left
          · simp only [Act.put, List.setIfInBounds_toArray, List.set_cons_zero, List.set_cons_succ, i64_w, i32_w]
            rfl
          refine one_ (i := 11) (N := none) (bits 12 4095) rfl rfl (one_of HT_.out (by kernel_rfl)) (by decide) (fun K hK => ?_)
          obtain ⟨y0, y1, y2, y3, y4, y5⟩ := cs6 F9
          have z0 := fz F9 0
          have z1 := fz F9 1
          have z2 := fz F9 2
          have z3 := fz F9 3
          have z4 := fz F9 4
          have z5 := fz F9 5
          refine sxs (g := g9) 0 [.string c, .string b, .slice AIs47 (inM ps c b).length kIs47, .slice AL51 z51.length kL51, .bool false, .string (⟨#[]⟩ : ByteArray)] [.string c, .string b, .slice AIs47 (inM ps c b).length kIs47, .slice AL51 z51.length kL51, .bool false, .string (⟨#[]⟩ : ByteArray)] (by rfl) rfl ?hr B F9 L9 rfl (Nat.le_of_ble_eq_true rfl) (fun w22 hk B G => ?_)
          (case hr => first | (go_simp; done) | (go_simp; rfl))
          replace F1 := bk F1 hk N1_9.out
          replace F2 := bk F2 hk N2_9.out
          replace F3 := bk F3 hk N3_9.out
          replace F6 := bk F6 hk N6_9.out
          replace F8 := bk F8 hk N8_9.out
          replace RIs37 := rk RIs37 F9 (by decide) hk
          replace RL41 := rk RL41 F9 (by decide) hk
          replace RIs47 := rk RIs47 F9 (by decide) hk
          replace RL51 := rk RL51 F9 (by decide) hk
          replace F9 := G
          clear hk y0 z0 y1 z1 y2 z2 y3 z3 y4 z4 y5 z5
          refine hK.out _ _ ⟨F6.out, F1.out⟩ (fun hHeld => ?_)
          clear hK K
          refine norm_ (a' := _) ?_ (J ⟨AIs47, kIs47, AL48, kL48, AL51, kL51, z51, g9⟩ _ ⟨B, F1, F2, F3, F6, F8, F9, L9, N1_9, N2_9, N3_9, N6_9, N8_9, RIs37, RL41, RIs47, RL51, DIs37_Is47, DL41_Is47, DL41_L51, (by rw [← hz51]; rfl)⟩)
          simp only [putAll, Act.put, List.setIfInBounds_toArray, List.set_cons_zero, List.set_cons_succ]
          try rfl
      · refine bxs (cs := #[.string (⟨#[]⟩ : ByteArray), .string (⟨#[]⟩ : ByteArray), .slice none 0 0, .slice none 0 0, .bool false, .string (⟨#[]⟩ : ByteArray)]) (t := 34) (by rfl) rfl ?hr B (fun g9 w18 hb B F9 L9 E9 => ?_)
        (case hr => first | (go_simp; done) | (go_simp; rfl))
        have N1_9 := ne1 E9 F1
        have N2_9 := ne1 E9 F2
        have N3_9 := ne1 E9 F3
        have N6_9 := ne1 E9 F6
        have N8_9 := ne1 E9 F8
        replace F1 := bn F1 hb
        replace F2 := bn F2 hb
        replace F3 := bn F3 hb
        replace F6 := bn F6 hb
        replace F8 := bn F8 hb
        replace RIs37 := rn RIs37 hb
        replace RL41 := rn RL41 hb
        clear hb E9
        refine hK.out _ _ ⟨F6.out, F1.out⟩ (fun hHeld => ?_)
        clear hK K
        refine norm_ (a' := ?_) ?_ ?_
        rotate_left
        · show Act.put _ (some 9) _ = _
          simp only [Act.put, List.setIfInBounds_toArray, List.set_cons_zero, List.set_cons_succ, i64_w, i32_w]
          rfl
        refine two_ (i := 4) (j := 5) (Ni := some 47) (Nj := some 48) (bits 12 1247) (bits 12 1263) rfl rfl rfl rfl (two_of HT_.out (by kernel_rfl)) (by decide) (by decide) (fun K hK => ?_) (fun K hK => ?_)
        · refine goes_ Try.func74 (by kernel_rfl) rfl #[.slice AP ps.length cP, .agg #[.string c, .string b]] (by rfl) rfl rfl (by (try simp only [List.map_toArray, List.map_cons, List.map_nil]); rfl) ?_
          with_reducible refine cr (spec_PairsIn.M _ _ ps c b _ (cb HRP B) HCP.out) B fun AIs47 kIs47 w19 hb B RIs47 QIs47 => ?_
          have DIs37_Is47 := fr QIs47 RIs37
          have DL41_Is47 := fr QIs47 RL41
          replace F1 := bn F1 hb
          replace F2 := bn F2 hb
          replace F3 := bn F3 hb
          replace F6 := bn F6 hb
          replace F8 := bn F8 hb
          replace F9 := bn F9 hb
          replace RIs37 := rn RIs37 hb
          replace RL41 := rn RL41 hb
          clear hb
          refine ⟨_, rfl, ?_⟩
          refine hK.out _ _ ⟨F6.out, F1.out⟩ (fun hHeld => ?_)
          clear hK K
          refine norm_ (a' := ?_) ?_ ?_
          rotate_left
          · show Act.put _ (some 47) _ = _
            simp only [Act.put, List.setIfInBounds_toArray, List.set_cons_zero, List.set_cons_succ, i64_w, i32_w]
            rfl
          clear QIs47
          refine one_ (i := 5) (N := some 48) (bits 12 1279) rfl rfl (one_of HT_.out (by kernel_rfl)) (by decide) (fun K hK => ?_)
          refine lts k100 100 (by rfl) rfl ([] : List S100) [] ?hr (Reps.none _ _) (by simp) B (fun z48 hz48 AL48 kL48 w20 hb B RL48 QL48 => ?_)
          (case hr => first | (go_simp; done) | (go_simp; rfl))
          have DIs37_L48 := fr QL48 RIs37
          have DL41_L48 := fr QL48 RL41
          have DIs47_L48 := fr QL48 RIs47
          replace F1 := bn F1 hb
          replace F2 := bn F2 hb
          replace F3 := bn F3 hb
          replace F6 := bn F6 hb
          replace F8 := bn F8 hb
          replace F9 := bn F9 hb
          replace RIs37 := rn RIs37 hb
          replace RL41 := rn RL41 hb
          replace RIs47 := rn RIs47 hb
          clear hb QL48
          subst hz48
          refine hK.out _ _ ⟨F6.out, F1.out⟩ (fun hHeld => ?_)
          clear hK K
          refine norm_ (a' := ?_) ?_ ?_
          rotate_left
          · show Act.put _ (some 48) _ = _
            simp only [Act.put, List.setIfInBounds_toArray, List.set_cons_zero, List.set_cons_succ, i64_w, i32_w]
            rfl
          refine one_ (i := 8) (N := some 51) (bits 12 1535) rfl rfl (one_of HT_.out (by kernel_rfl)) (by decide) (fun K hK => ?_)
          refine aps k100 100 (by rfl) rfl (.tmp 48) (.tmp 50) 32 (.agg #[.int .i64 (0), .int .i64 (0), .int .i64 (0)]) 24 rfl Try.underlying32 info100 rfl (by decide) (by omega) rfl rfl RL48 (cb HRS B) (fun x cs h => by rw [k100_open h]; exact k100_mkM _ _ _ x) (by first | omega | (simp only [List.length_append, List.length_nil, List.length_cons]; omega)) B (fun z51 hz51 AL51 kL51 w21 hg B RL51 hat => ?_)
          replace F1 := bga F1 hg RL48 (by decide)
          replace F2 := bga F2 hg RL48 (by decide)
          replace F3 := bga F3 hg RL48 (by decide)
          replace F6 := bga F6 hg RL48 (by decide)
          replace F8 := bga F8 hg RL48 (by decide)
          replace F9 := bga F9 hg RL48 (by decide)
          replace RIs37 := rga RIs37 rfl hg (dty RL48 RIs37 (by decide))
          have DL41_L51 := dap hat (Aside0.mk DL41_L48.out) RL41
          replace RL41 := rga RL41 rfl hg (fun k p q => DL41_L48.out k q p)
          replace RIs47 := rga RIs47 rfl hg (dty RL48 RIs47 (by decide))
          clear hg hat
          refine hK.out _ _ ⟨F6.out, F1.out⟩ (fun hHeld => ?_)
          clear hK K
          refine norm_ (a' := ?_) ?_ ?_
          rotate_left
          · show Act.put _ (some 51) _ = _
            simp only [Act.put, List.setIfInBounds_toArray, List.set_cons_zero, List.set_cons_succ, i64_w, i32_w]
            rfl
          refine pu (i := 9) (N := some 52) (v := ?_) (bits 12 2047) rfl rfl (any_of HT_.out (by kernel_rfl)) (fun _ _ _ h => h) (by kernel_rfl) ?_ ?_; rotate_left; (intro w'; go_simp; with_reducible rfl)
          refine norm_ (a' := ?_) ?_ ?_
          rotate_left
          · simp only [Act.put, List.setIfInBounds_toArray, List.set_cons_zero, List.set_cons_succ, i64_w, i32_w]
            rfl
          refine one_ (i := 11) (N := none) (bits 12 4095) rfl rfl (one_of HT_.out (by kernel_rfl)) (by decide) (fun K hK => ?_)
          obtain ⟨y0, y1, y2, y3, y4, y5⟩ := cs6 F9
          have z0 := fz F9 0
          have z1 := fz F9 1
          have z2 := fz F9 2
          have z3 := fz F9 3
          have z4 := fz F9 4
          have z5 := fz F9 5
          refine sxs (g := g9) 0 [.string c, .string b, .slice AIs47 (inM ps c b).length kIs47, .slice AL51 z51.length kL51, .bool false, .string (⟨#[]⟩ : ByteArray)] [.string c, .string b, .slice AIs47 (inM ps c b).length kIs47, .slice AL51 z51.length kL51, .bool false, .string (⟨#[]⟩ : ByteArray)] (by rfl) rfl ?hr B F9 L9 rfl (Nat.le_of_ble_eq_true rfl) (fun w22 hk B G => ?_)
          (case hr => first | (go_simp; done) | (go_simp; rfl))
          replace F1 := bk F1 hk N1_9.out
          replace F2 := bk F2 hk N2_9.out
          replace F3 := bk F3 hk N3_9.out
          replace F6 := bk F6 hk N6_9.out
          replace F8 := bk F8 hk N8_9.out
          replace RIs37 := rk RIs37 F9 (by decide) hk
          replace RL41 := rk RL41 F9 (by decide) hk
          replace RIs47 := rk RIs47 F9 (by decide) hk
          replace RL51 := rk RL51 F9 (by decide) hk
          replace F9 := G
          clear hk y0 z0 y1 z1 y2 z2 y3 z3 y4 z4 y5 z5
          refine hK.out _ _ ⟨F6.out, F1.out⟩ (fun hHeld => ?_)
          clear hK K
          refine norm_ (a' := _) ?_ (J ⟨AIs47, kIs47, AL48, kL48, AL51, kL51, z51, g9⟩ _ ⟨B, F1, F2, F3, F6, F8, F9, L9, N1_9, N2_9, N3_9, N6_9, N8_9, RIs37, RL41, RIs47, RL51, DIs37_Is47, DL41_Is47, DL41_L51, (by rw [← hz51]; rfl)⟩)
          simp only [putAll, Act.put, List.setIfInBounds_toArray, List.set_cons_zero, List.set_cons_succ]
          try rfl
        · refine lts k100 100 (by rfl) rfl ([] : List S100) [] ?hr (Reps.none _ _) (by simp) B (fun z48 hz48 AL48 kL48 w19 hb B RL48 QL48 => ?_)
          (case hr => first | (go_simp; done) | (go_simp; rfl))
          have DIs37_L48 := fr QL48 RIs37
          have DL41_L48 := fr QL48 RL41
          replace F1 := bn F1 hb
          replace F2 := bn F2 hb
          replace F3 := bn F3 hb
          replace F6 := bn F6 hb
          replace F8 := bn F8 hb
          replace F9 := bn F9 hb
          replace RIs37 := rn RIs37 hb
          replace RL41 := rn RL41 hb
          clear hb QL48
          subst hz48
          refine hK.out _ _ ⟨F6.out, F1.out⟩ (fun hHeld => ?_)
          clear hK K
          refine norm_ (a' := ?_) ?_ ?_
          rotate_left
          · show Act.put _ (some 48) _ = _
            simp only [Act.put, List.setIfInBounds_toArray, List.set_cons_zero, List.set_cons_succ, i64_w, i32_w]
            rfl
          refine one_ (i := 4) (N := some 47) (bits 12 1279) rfl rfl (one_of HT_.out (by kernel_rfl)) (by decide) (fun K hK => ?_)
          refine goes_ Try.func74 (by kernel_rfl) rfl #[.slice AP ps.length cP, .agg #[.string c, .string b]] (by rfl) rfl rfl (by (try simp only [List.map_toArray, List.map_cons, List.map_nil]); rfl) ?_
          with_reducible refine cr (spec_PairsIn.M _ _ ps c b _ (cb HRP B) HCP.out) B fun AIs47 kIs47 w20 hb B RIs47 QIs47 => ?_
          have DIs37_Is47 := fr QIs47 RIs37
          have DL41_Is47 := fr QIs47 RL41
          have DL48_Is47 := fr QIs47 RL48
          replace F1 := bn F1 hb
          replace F2 := bn F2 hb
          replace F3 := bn F3 hb
          replace F6 := bn F6 hb
          replace F8 := bn F8 hb
          replace F9 := bn F9 hb
          replace RIs37 := rn RIs37 hb
          replace RL41 := rn RL41 hb
          replace RL48 := rn RL48 hb
          clear hb
          refine ⟨_, rfl, ?_⟩
          refine hK.out _ _ ⟨F6.out, F1.out⟩ (fun hHeld => ?_)
          clear hK K
          refine norm_ (a' := ?_) ?_ ?_
          rotate_left
          · show Act.put _ (some 47) _ = _
            simp only [Act.put, List.setIfInBounds_toArray, List.set_cons_zero, List.set_cons_succ, i64_w, i32_w]
            rfl
          clear QIs47
          refine one_ (i := 8) (N := some 51) (bits 12 1535) rfl rfl (one_of HT_.out (by kernel_rfl)) (by decide) (fun K hK => ?_)
          refine aps k100 100 (by rfl) rfl (.tmp 48) (.tmp 50) 32 (.agg #[.int .i64 (0), .int .i64 (0), .int .i64 (0)]) 24 rfl Try.underlying32 info100 rfl (by decide) (by omega) rfl rfl RL48 (cb HRS B) (fun x cs h => by rw [k100_open h]; exact k100_mkM _ _ _ x) (by first | omega | (simp only [List.length_append, List.length_nil, List.length_cons]; omega)) B (fun z51 hz51 AL51 kL51 w21 hg B RL51 hat => ?_)
          replace F1 := bga F1 hg RL48 (by decide)
          replace F2 := bga F2 hg RL48 (by decide)
          replace F3 := bga F3 hg RL48 (by decide)
          replace F6 := bga F6 hg RL48 (by decide)
          replace F8 := bga F8 hg RL48 (by decide)
          replace F9 := bga F9 hg RL48 (by decide)
          replace RIs37 := rga RIs37 rfl hg (dty RL48 RIs37 (by decide))
          have DL41_L51 := dap hat (Aside0.mk DL41_L48.out) RL41
          replace RL41 := rga RL41 rfl hg (fun k p q => DL41_L48.out k q p)
          replace RIs47 := rga RIs47 rfl hg (dty RL48 RIs47 (by decide))
          clear hg hat
          refine hK.out _ _ ⟨F6.out, F1.out⟩ (fun hHeld => ?_)
          clear hK K
          refine norm_ (a' := ?_) ?_ ?_
          rotate_left
          · show Act.put _ (some 51) _ = _
            simp only [Act.put, List.setIfInBounds_toArray, List.set_cons_zero, List.set_cons_succ, i64_w, i32_w]
            rfl
          refine pu (i := 9) (N := some 52) (v := ?_) (bits 12 2047) rfl rfl (any_of HT_.out (by kernel_rfl)) (fun _ _ _ h => h) (by kernel_rfl) ?_ ?_; rotate_left; (intro w'; go_simp; with_reducible rfl)
          refine norm_ (a' := ?_) ?_ ?_
          rotate_left
          · simp only [Act.put, List.setIfInBounds_toArray, List.set_cons_zero, List.set_cons_succ, i64_w, i32_w]
            rfl
          refine one_ (i := 11) (N := none) (bits 12 4095) rfl rfl (one_of HT_.out (by kernel_rfl)) (by decide) (fun K hK => ?_)
          obtain ⟨y0, y1, y2, y3, y4, y5⟩ := cs6 F9
          have z0 := fz F9 0
          have z1 := fz F9 1
          have z2 := fz F9 2
          have z3 := fz F9 3
          have z4 := fz F9 4
          have z5 := fz F9 5
          refine sxs (g := g9) 0 [.string c, .string b, .slice AIs47 (inM ps c b).length kIs47, .slice AL51 z51.length kL51, .bool false, .string (⟨#[]⟩ : ByteArray)] [.string c, .string b, .slice AIs47 (inM ps c b).length kIs47, .slice AL51 z51.length kL51, .bool false, .string (⟨#[]⟩ : ByteArray)] (by rfl) rfl ?hr B F9 L9 rfl (Nat.le_of_ble_eq_true rfl) (fun w22 hk B G => ?_)
          (case hr => first | (go_simp; done) | (go_simp; rfl))
          replace F1 := bk F1 hk N1_9.out
          replace F2 := bk F2 hk N2_9.out
          replace F3 := bk F3 hk N3_9.out
          replace F6 := bk F6 hk N6_9.out
          replace F8 := bk F8 hk N8_9.out
          replace RIs37 := rk RIs37 F9 (by decide) hk
          replace RL41 := rk RL41 F9 (by decide) hk
          replace RIs47 := rk RIs47 F9 (by decide) hk
          replace RL51 := rk RL51 F9 (by decide) hk
          replace F9 := G
          clear hk y0 z0 y1 z1 y2 z2 y3 z3 y4 z4 y5 z5
          refine hK.out _ _ ⟨F6.out, F1.out⟩ (fun hHeld => ?_)
          clear hK K
          refine norm_ (a' := _) ?_ (J ⟨AIs47, kIs47, AL48, kL48, AL51, kL51, z51, g9⟩ _ ⟨B, F1, F2, F3, F6, F8, F9, L9, N1_9, N2_9, N3_9, N6_9, N8_9, RIs37, RL41, RIs47, RL51, DIs37_Is47, DL41_Is47, DL41_L51, (by rw [← hz51]; rfl)⟩)
          simp only [putAll, Act.put, List.setIfInBounds_toArray, List.set_cons_zero, List.set_cons_succ]
          try rfl
    rintro ⟨AIs47, kIs47, AL48, kL48, AL51, kL51, z51, g9⟩ w23 ⟨B, F1, F2, F3, F6, F8, F9, L9, N1_9, N2_9, N3_9, N6_9, N8_9, RIs37, RL41, RIs47, RL51, DIs37_Is47, DL41_Is47, DL41_L51, rfl⟩
    refine norm_ (a' := ?_) ?_ ?_
    rotate_left
    · simp only [putAll, Act.put, List.setIfInBounds_toArray, List.set_cons_zero, List.set_cons_succ]
      rfl
    refine done_ (done_of HT_.out (by kernel_rfl)) ?_
    clear c8_0 c8_1 c8_2 c8_3 c8_4 c8_5
    obtain ⟨c8_0, c8_1, c8_2, c8_3, c8_4, c8_5⟩ := cs6 F8
    obtain ⟨c9_0, c9_1, c9_2, c9_3, c9_4, c9_5⟩ := cs6 F9)
  all_goals try go_wp2
  all_goals (
    refine rg (n := 5) (S := fun W => W.heap[g8]? = some (.cells #[.string a, .string c, .slice AIs37 (inM ps a c).length kIs37, .slice AL41 ss.length kL41, .bool false, .string (⟨#[]⟩ : ByteArray)] 34 (0, 0)) ∧ W.heap[g9]? = some (.cells #[.string c, .string b, .slice AIs47 (inM ps c b).length kIs47, .slice AL51 ss.length kL51, .bool false, .string (⟨#[]⟩ : ByteArray)] 34 (0, 0))) (ds := []) #[false, false, false, false, false] (by kernel_rfl) rfl rfl ⟨F8.out, F9.out⟩ id B (fun w24 hb B hHeld => ?_)
    refine with_tabW spec_StateCut.tab6 spec_StateCut.bits6 (fun HT_ HW_ => ?_)
    replace F2 := bn F2 hb
    replace F3 := bn F3 hb
    replace F8 := bn F8 hb
    replace F9 := bn F9 hb
    replace RIs37 := rn RIs37 hb
    replace RL41 := rn RL41 hb
    replace RIs47 := rn RIs47 hb
    replace RL51 := rn RL51 hb
    clear hb
    refine ta (i := 0) (N := some 53) (v := ?_) (bits 5 1) rfl rfl (take_ofW HT_.out HW_.out (by kernel_rfl)) (fun _ _ _ h => h) (by kernel_rfl) hHeld ?_ ?_; rotate_left; (intro w' hS; obtain ⟨s0, s1⟩ := hS; obtain ⟨q0, q1, q2, q3, q4, q5⟩ := cs6 (Aside0.mk s0); go_simp; with_reducible rfl)
    refine ta (i := 1) (N := some 54) (v := ?_) (bits 5 3) rfl rfl (take_ofW HT_.out HW_.out (by kernel_rfl)) (fun _ _ _ h => h) (by kernel_rfl) hHeld ?_ ?_; rotate_left; (intro w' hS; obtain ⟨s0, s1⟩ := hS; obtain ⟨q0, q1, q2, q3, q4, q5⟩ := cs6 (Aside0.mk s1); go_simp; with_reducible rfl)
    refine norm_ (a' := ?_) ?_ ?_
    rotate_left
    · simp only [Act.put, List.setIfInBounds_toArray, List.set_cons_zero, List.set_cons_succ, i64_w, i32_w]
      rfl
    refine one_ (i := 2) (N := none) (bits 5 7) rfl rfl (one_of HT_.out (by kernel_rfl)) (by decide) (fun K hK => ?_)
    obtain ⟨y0, y1, y2, y3, y4, y5⟩ := cs6 F2
    have z0 := fz F2 0
    have z1 := fz F2 1
    have z2 := fz F2 2
    have z3 := fz F2 3
    have z4 := fz F2 4
    have z5 := fz F2 5
    refine sxs (g := g2) 0 [.string a, .string c, .slice AIs37 (inM ps a c).length kIs37, .slice AL41 ss.length kL41, .bool false, .string (⟨#[]⟩ : ByteArray)] [.string a, .string c, .slice AIs37 (inM ps a c).length kIs37, .slice AL41 ss.length kL41, .bool false, .string (⟨#[]⟩ : ByteArray)] (by rfl) rfl ?hr B F2 L2 rfl (Nat.le_of_ble_eq_true rfl) (fun w25 hk B G => ?_)
    (case hr => first | (go_simp; done) | (go_simp; rfl))
    replace F3 := bk F3 hk N2_3.out.symm
    replace F8 := bk F8 hk N2_8.out.symm
    replace F9 := bk F9 hk N2_9.out.symm
    replace RIs37 := rk RIs37 F2 (by decide) hk
    replace RL41 := rk RL41 F2 (by decide) hk
    replace RIs47 := rk RIs47 F2 (by decide) hk
    replace RL51 := rk RL51 F2 (by decide) hk
    replace F2 := G
    clear hk y0 z0 y1 z1 y2 z2 y3 z3 y4 z4 y5 z5
    refine hK.out _ _ ⟨F8.out, F9.out⟩ (fun hHeld => ?_)
    clear hK K
    refine one_ (i := 3) (N := none) (bits 5 15) rfl rfl (one_of HT_.out (by kernel_rfl)) (by decide) (fun K hK => ?_)
    obtain ⟨y0, y1, y2, y3, y4, y5⟩ := cs6 F3
    have z0 := fz F3 0
    have z1 := fz F3 1
    have z2 := fz F3 2
    have z3 := fz F3 3
    have z4 := fz F3 4
    have z5 := fz F3 5
    refine sxs (g := g3) 0 [.string c, .string b, .slice AIs47 (inM ps c b).length kIs47, .slice AL51 ss.length kL51, .bool false, .string (⟨#[]⟩ : ByteArray)] [.string c, .string b, .slice AIs47 (inM ps c b).length kIs47, .slice AL51 ss.length kL51, .bool false, .string (⟨#[]⟩ : ByteArray)] (by rfl) rfl ?hr B F3 L3 rfl (Nat.le_of_ble_eq_true rfl) (fun w26 hk B G => ?_)
    (case hr => first | (go_simp; done) | (go_simp; rfl))
    replace F2 := bk F2 hk N2_3.out
    replace F8 := bk F8 hk N3_8.out.symm
    replace F9 := bk F9 hk N3_9.out.symm
    replace RIs37 := rk RIs37 F3 (by decide) hk
    replace RL41 := rk RL41 F3 (by decide) hk
    replace RIs47 := rk RIs47 F3 (by decide) hk
    replace RL51 := rk RL51 F3 (by decide) hk
    replace F3 := G
    clear hk y0 z0 y1 z1 y2 z2 y3 z3 y4 z4 y5 z5
    refine hK.out _ _ ⟨F8.out, F9.out⟩ (fun hHeld => ?_)
    clear hK K
    refine pu (i := 4) (N := some 4) (v := ?_) (bits 5 31) rfl rfl (any_of HT_.out (by kernel_rfl)) (fun _ _ _ h => h) (by kernel_rfl) ?_ ?_; rotate_left; (intro w'; go_simp; with_reducible rfl)
    refine norm_ (a' := ?_) ?_ ?_
    rotate_left
    · simp only [Act.put, List.setIfInBounds_toArray, List.set_cons_zero, List.set_cons_succ, i64_w, i32_w]
      rfl
    refine done_ (done_of HT_.out (by kernel_rfl)) ?_)
  all_goals try go_wp2
  refine bodyPost_ret (results_list (rs := [.cell 2 34, .cell 3 34, .tmp 4]) rfl (by simp) (.cell g2 34 _ (0, 0) _ rfl F2.out hu rfl (by kernel_rfl) (.cell g3 34 _ (0, 0) _ rfl F3.out hu rfl (by kernel_rfl) (.tmp .nil)))) rfl ?_
  exact ⟨_, _, _, _, rfl, RIs37.out, RL41.out, RIs47.out, RL51.out, DIs37_Is47.out, DL41_L51.out, B.out⟩
theorem spec_StateCut.M (a b : ByteArray) (AP : Option Addr) (cP : Nat) (ps : List S61) (AS : Option Addr) (cS : Nat) (ss : List S100) (t : Bool) (c : ByteArray) (w : World) (hrp : Kd.C k61 w AP ps.length ps) (hrs : Kd.C k100 w AS ss.length ss) (hcp : ps.length ≤ cP) (hcs : ss.length ≤ cS) : Calls Try.prog 30 #[.agg #[.string a, .string b, .slice AP ps.length cP, .slice AS ss.length cS, .bool t, .string c]] w fun e w' => ∃ v2 v3 v4 v5, e = .returned (.tuple #[.agg #[.string (csM ⟨a, b, ps, ss, t, c⟩).1.a, .string (csM ⟨a, b, ps, ss, t, c⟩).1.b, v2, v3, .bool (csM ⟨a, b, ps, ss, t, c⟩).1.t, .string (csM ⟨a, b, ps, ss, t, c⟩).1.c], .agg #[.string (csM ⟨a, b, ps, ss, t, c⟩).2.1.a, .string (csM ⟨a, b, ps, ss, t, c⟩).2.1.b, v4, v5, .bool (csM ⟨a, b, ps, ss, t, c⟩).2.1.t, .string (csM ⟨a, b, ps, ss, t, c⟩).2.1.c], .bool (csM ⟨a, b, ps, ss, t, c⟩).2.2]) ∧ Kd.R k61 61 w' w.heap.size (fun _ => True) v2 (csM ⟨a, b, ps, ss, t, c⟩).1.ps ∧ Kd.R k100 100 w' w.heap.size (fun _ => True) v3 (csM ⟨a, b, ps, ss, t, c⟩).1.ss ∧ Kd.R k61 61 w' w.heap.size (fun _ => True) v4 (csM ⟨a, b, ps, ss, t, c⟩).2.1.ps ∧ Kd.R k100 100 w' w.heap.size (fun _ => True) v5 (csM ⟨a, b, ps, ss, t, c⟩).2.1.ss ∧ (∀ k_, v4.ownBlock = some k_ → v2.ownBlock = some k_ → False) ∧ (∀ k_, v5.ownBlock = some k_ → v3.ownBlock = some k_ → False) ∧ Below w.heap.size w w' := by
  have B := Aside0.mk (Below.refl w.heap.size w)
  cases hs : stB a b ps ss t c with
  | false =>
    rw [cs_bad (show cutOk ⟨a, b, ps, ss, t, c⟩ = false by unfold cutOk SM.ok; rw [hs]; rfl)]
    have hu := Try.underlying34
    have hu2 := Try.underlying30
    have HRP := Aside0.mk hrp
    have HRS := Aside0.mk hrs
    have HCP := Aside0.mk hcp
    have HCS := Aside0.mk hcs
    clear hrp hrs hcp hcs
    go_enter Try.func30, Try.ntmps30
    go_wp2_with (first
      | ((with_reducible refine gate_dst (N := 1) rfl ?_); refine bx ?hg (N := 1) ?hd (cs := #[.string a, .string b, .slice AP ps.length cP, .slice AS ss.length cS, .bool t, .string c]) (t := 34) ?hr B ?_; (case hd => rfl); (case hg => rfl); (case hr => first | (go_simp; done) | (go_simp; rfl)); intro g1 w1001 hb B F1 L1 E1; obtain ⟨c1_0, c1_1, c1_2, c1_3, c1_4, c1_5⟩ := cs6 F1; clear hb E1)
      | ((with_reducible refine gate_dst (N := 2) rfl ?_); refine bx ?hg (N := 2) ?hd (cs := #[.string (⟨#[]⟩ : ByteArray), .string (⟨#[]⟩ : ByteArray), .slice none 0 0, .slice none 0 0, .bool false, .string (⟨#[]⟩ : ByteArray)]) (t := 34) ?hr B ?_; (case hd => rfl); (case hg => rfl); (case hr => first | (go_simp; done) | (go_simp; rfl)); intro g2 w1002 hb B F2 L2 E2; have N1_2 := ne1 E2 F1; replace F1 := bn F1 hb; clear c1_0 c1_1 c1_2 c1_3 c1_4 c1_5; obtain ⟨c1_0, c1_1, c1_2, c1_3, c1_4, c1_5⟩ := cs6 F1; clear hb E2)
      | ((with_reducible refine gate_dst (N := 3) rfl ?_); refine bx ?hg (N := 3) ?hd (cs := #[.string (⟨#[]⟩ : ByteArray), .string (⟨#[]⟩ : ByteArray), .slice none 0 0, .slice none 0 0, .bool false, .string (⟨#[]⟩ : ByteArray)]) (t := 34) ?hr B ?_; (case hd => rfl); (case hg => rfl); (case hr => first | (go_simp; done) | (go_simp; rfl)); intro g3 w1003 hb B F3 L3 E3; have N1_3 := ne1 E3 F1; have N2_3 := ne1 E3 F2; replace F1 := bn F1 hb; replace F2 := bn F2 hb; clear c1_0 c1_1 c1_2 c1_3 c1_4 c1_5; obtain ⟨c1_0, c1_1, c1_2, c1_3, c1_4, c1_5⟩ := cs6 F1; clear hb E3)
      | (go_at_call 51; with_reducible refine cl (spec_IntervalCut.M a b c _) B fun w1004 hb B => ?_; replace F1 := bn F1 hb; replace F2 := bn F2 hb; replace F3 := bn F3 hb; clear c1_0 c1_1 c1_2 c1_3 c1_4 c1_5; obtain ⟨c1_0, c1_1, c1_2, c1_3, c1_4, c1_5⟩ := cs6 F1; clear hb)
      | ((with_reducible refine gate_dst (N := 5) rfl ?_); refine bx ?hg (N := 5) ?hd (cs := #[.string (⟨#[]⟩ : ByteArray), .string (⟨#[]⟩ : ByteArray)]) (t := 30) ?hr B ?_; (case hd => rfl); (case hg => rfl); (case hr => first | (go_simp; done) | (go_simp; rfl)); intro g5 w1005 hb B F5 L5 E5; have N1_5 := ne1 E5 F1; have N2_5 := ne1 E5 F2; have N3_5 := ne1 E5 F3; replace F1 := bn F1 hb; replace F2 := bn F2 hb; replace F3 := bn F3 hb; clear c1_0 c1_1 c1_2 c1_3 c1_4 c1_5; obtain ⟨c1_0, c1_1, c1_2, c1_3, c1_4, c1_5⟩ := cs6 F1; clear hb E5)
      | ((with_reducible refine gate_dst (N := 6) rfl ?_); refine bx ?hg (N := 6) ?hd (cs := #[.string (⟨#[]⟩ : ByteArray), .string (⟨#[]⟩ : ByteArray)]) (t := 30) ?hr B ?_; (case hd => rfl); (case hg => rfl); (case hr => first | (go_simp; done) | (go_simp; rfl)); intro g6 w1006 hb B F6 L6 E6; have N1_6 := ne1 E6 F1; have N2_6 := ne1 E6 F2; have N3_6 := ne1 E6 F3; have N5_6 := ne1 E6 F5; replace F1 := bn F1 hb; replace F2 := bn F2 hb; replace F3 := bn F3 hb; replace F5 := bn F5 hb; clear c1_0 c1_1 c1_2 c1_3 c1_4 c1_5; obtain ⟨c1_0, c1_1, c1_2, c1_3, c1_4, c1_5⟩ := cs6 F1; clear hb E6)
      | ((with_reducible refine gate_store (t := 30) (p := 5) rfl ?_); obtain ⟨y0, y1⟩ := cs2 F5; have z0 := fz F5 0; have z1 := fz F5 1; refine sx (t := 30) (t' := 30) (p := 5) (v := ?vo1007) ?hg ?ho ?hn 0 [.string (cutV a b c).1, .string (cutV a b c).2.1] [.string (cutV a b c).1, .string (cutV a b c).2.1] ?hr B F5 L5 rfl (Nat.le_of_ble_eq_true rfl) ?_; (case ho => rfl); (case hg => rfl); (case hn => rfl); (case hr => first | (go_simp; done) | (go_simp; rfl)); intro w1007 hk B G; replace F1 := bk F1 hk N1_5.out; replace F2 := bk F2 hk N2_5.out; replace F3 := bk F3 hk N3_5.out; replace F6 := bk F6 hk N5_6.out.symm; replace F5 := G; clear c1_0 c1_1 c1_2 c1_3 c1_4 c1_5; obtain ⟨c1_0, c1_1, c1_2, c1_3, c1_4, c1_5⟩ := cs6 F1; clear hk y0 z0 y1 z1)
      | ((with_reducible refine gate_store (t := 30) (p := 6) rfl ?_); obtain ⟨y0, y1⟩ := cs2 F6; have z0 := fz F6 0; have z1 := fz F6 1; refine sx (t := 30) (t' := 30) (p := 6) (v := ?vo1008) ?hg ?ho ?hn 0 [.string (cutV a b c).2.2.1, .string (cutV a b c).2.2.2.1] [.string (cutV a b c).2.2.1, .string (cutV a b c).2.2.2.1] ?hr B F6 L6 rfl (Nat.le_of_ble_eq_true rfl) ?_; (case ho => rfl); (case hg => rfl); (case hn => rfl); (case hr => first | (go_simp; done) | (go_simp; rfl)); intro w1008 hk B G; replace F1 := bk F1 hk N1_6.out; replace F2 := bk F2 hk N2_6.out; replace F3 := bk F3 hk N3_6.out; replace F6 := G; clear c1_0 c1_1 c1_2 c1_3 c1_4 c1_5; obtain ⟨c1_0, c1_1, c1_2, c1_3, c1_4, c1_5⟩ := cs6 F1; clear hk y0 z0 y1 z1)
      | (go_at_call 12; with_reducible refine cl (spec_StateValid.M a b _ _ ps _ _ ss t c _ (cb HRP B) (cb HRS B)) B fun w1009 hb B => ?_; replace F1 := bn F1 hb; replace F2 := bn F2 hb; replace F3 := bn F3 hb; clear c1_0 c1_1 c1_2 c1_3 c1_4 c1_5; obtain ⟨c1_0, c1_1, c1_2, c1_3, c1_4, c1_5⟩ := cs6 F1; clear hb)
      | ((with_reducible refine gate_store (t := 34) (p := 2) rfl ?_); obtain ⟨y0, y1, y2, y3, y4, y5⟩ := cs6 F2; have z0 := fz F2 0; have z1 := fz F2 1; have z2 := fz F2 2; have z3 := fz F2 3; have z4 := fz F2 4; have z5 := fz F2 5; refine sx (t := 34) (t' := 34) (p := 2) (v := ?vo1010) ?hg ?ho ?hn 0 [.string (⟨#[]⟩ : ByteArray), .string (⟨#[]⟩ : ByteArray), .slice none 0 0, .slice none 0 0, .bool false, .string (⟨#[]⟩ : ByteArray)] [.string (⟨#[]⟩ : ByteArray), .string (⟨#[]⟩ : ByteArray), .slice none 0 0, .slice none 0 0, .bool false, .string (⟨#[]⟩ : ByteArray)] ?hr B F2 L2 rfl (Nat.le_of_ble_eq_true rfl) ?_; (case ho => rfl); (case hg => rfl); (case hn => rfl); (case hr => first | (go_simp; done) | (go_simp; rfl)); intro w1010 hk B G; replace F1 := bk F1 hk N1_2.out; replace F3 := bk F3 hk N2_3.out.symm; replace F2 := G; clear hk y0 z0 y1 z1 y2 z2 y3 z3 y4 z4 y5 z5)
      | ((with_reducible refine gate_store (t := 34) (p := 3) rfl ?_); obtain ⟨y0, y1, y2, y3, y4, y5⟩ := cs6 F3; have z0 := fz F3 0; have z1 := fz F3 1; have z2 := fz F3 2; have z3 := fz F3 3; have z4 := fz F3 4; have z5 := fz F3 5; refine sx (t := 34) (t' := 34) (p := 3) (v := ?vo1011) ?hg ?ho ?hn 0 [.string (⟨#[]⟩ : ByteArray), .string (⟨#[]⟩ : ByteArray), .slice none 0 0, .slice none 0 0, .bool false, .string (⟨#[]⟩ : ByteArray)] [.string (⟨#[]⟩ : ByteArray), .string (⟨#[]⟩ : ByteArray), .slice none 0 0, .slice none 0 0, .bool false, .string (⟨#[]⟩ : ByteArray)] ?hr B F3 L3 rfl (Nat.le_of_ble_eq_true rfl) ?_; (case ho => rfl); (case hg => rfl); (case hn => rfl); (case hr => first | (go_simp; done) | (go_simp; rfl)); intro w1011 hk B G; replace F1 := bk F1 hk N1_3.out; replace F2 := bk F2 hk N2_3.out; replace F3 := G; clear hk y0 z0 y1 z1 y2 z2 y3 z3 y4 z4 y5 z5))
    all_goals (refine bodyPost_ret (results_list (rs := [.cell 2 34, .cell 3 34, .tmp 4]) rfl (by simp) (.cell g2 34 _ (0, 0) _ rfl F2.out hu rfl (by kernel_rfl) (.cell g3 34 _ (0, 0) _ rfl F3.out hu rfl (by kernel_rfl) (.tmp .nil)))) rfl ?_; exact ⟨_, _, _, _, rfl, Kd.R_nil _ _ _ _ _, Kd.R_nil _ _ _ _ _, Kd.R_nil _ _ _ _ _, Kd.R_nil _ _ _ _ _, (fun _ h => nomatch h), (fun _ h => nomatch h), B.out⟩)
  | true =>
    cases t with
    | false =>
      rw [cs_bad (show cutOk ⟨a, b, ps, ss, false, c⟩ = false by unfold cutOk SM.ok; rw [hs]; rfl)]
      have hu := Try.underlying34
      have hu2 := Try.underlying30
      have HRP := Aside0.mk hrp
      have HRS := Aside0.mk hrs
      have HCP := Aside0.mk hcp
      have HCS := Aside0.mk hcs
      clear hrp hrs hcp hcs
      go_enter Try.func30, Try.ntmps30
      go_wp2_with (first
        | ((with_reducible refine gate_dst (N := 1) rfl ?_); refine bx ?hg (N := 1) ?hd (cs := #[.string a, .string b, .slice AP ps.length cP, .slice AS ss.length cS, .bool false, .string c]) (t := 34) ?hr B ?_; (case hd => rfl); (case hg => rfl); (case hr => first | (go_simp; done) | (go_simp; rfl)); intro g1 w2001 hb B F1 L1 E1; obtain ⟨c1_0, c1_1, c1_2, c1_3, c1_4, c1_5⟩ := cs6 F1; clear hb E1)
        | ((with_reducible refine gate_dst (N := 2) rfl ?_); refine bx ?hg (N := 2) ?hd (cs := #[.string (⟨#[]⟩ : ByteArray), .string (⟨#[]⟩ : ByteArray), .slice none 0 0, .slice none 0 0, .bool false, .string (⟨#[]⟩ : ByteArray)]) (t := 34) ?hr B ?_; (case hd => rfl); (case hg => rfl); (case hr => first | (go_simp; done) | (go_simp; rfl)); intro g2 w2002 hb B F2 L2 E2; have N1_2 := ne1 E2 F1; replace F1 := bn F1 hb; clear c1_0 c1_1 c1_2 c1_3 c1_4 c1_5; obtain ⟨c1_0, c1_1, c1_2, c1_3, c1_4, c1_5⟩ := cs6 F1; clear hb E2)
        | ((with_reducible refine gate_dst (N := 3) rfl ?_); refine bx ?hg (N := 3) ?hd (cs := #[.string (⟨#[]⟩ : ByteArray), .string (⟨#[]⟩ : ByteArray), .slice none 0 0, .slice none 0 0, .bool false, .string (⟨#[]⟩ : ByteArray)]) (t := 34) ?hr B ?_; (case hd => rfl); (case hg => rfl); (case hr => first | (go_simp; done) | (go_simp; rfl)); intro g3 w2003 hb B F3 L3 E3; have N1_3 := ne1 E3 F1; have N2_3 := ne1 E3 F2; replace F1 := bn F1 hb; replace F2 := bn F2 hb; clear c1_0 c1_1 c1_2 c1_3 c1_4 c1_5; obtain ⟨c1_0, c1_1, c1_2, c1_3, c1_4, c1_5⟩ := cs6 F1; clear hb E3)
        | (go_at_call 51; with_reducible refine cl (spec_IntervalCut.M a b c _) B fun w2004 hb B => ?_; replace F1 := bn F1 hb; replace F2 := bn F2 hb; replace F3 := bn F3 hb; clear c1_0 c1_1 c1_2 c1_3 c1_4 c1_5; obtain ⟨c1_0, c1_1, c1_2, c1_3, c1_4, c1_5⟩ := cs6 F1; clear hb)
        | ((with_reducible refine gate_dst (N := 5) rfl ?_); refine bx ?hg (N := 5) ?hd (cs := #[.string (⟨#[]⟩ : ByteArray), .string (⟨#[]⟩ : ByteArray)]) (t := 30) ?hr B ?_; (case hd => rfl); (case hg => rfl); (case hr => first | (go_simp; done) | (go_simp; rfl)); intro g5 w2005 hb B F5 L5 E5; have N1_5 := ne1 E5 F1; have N2_5 := ne1 E5 F2; have N3_5 := ne1 E5 F3; replace F1 := bn F1 hb; replace F2 := bn F2 hb; replace F3 := bn F3 hb; clear c1_0 c1_1 c1_2 c1_3 c1_4 c1_5; obtain ⟨c1_0, c1_1, c1_2, c1_3, c1_4, c1_5⟩ := cs6 F1; clear hb E5)
        | ((with_reducible refine gate_dst (N := 6) rfl ?_); refine bx ?hg (N := 6) ?hd (cs := #[.string (⟨#[]⟩ : ByteArray), .string (⟨#[]⟩ : ByteArray)]) (t := 30) ?hr B ?_; (case hd => rfl); (case hg => rfl); (case hr => first | (go_simp; done) | (go_simp; rfl)); intro g6 w2006 hb B F6 L6 E6; have N1_6 := ne1 E6 F1; have N2_6 := ne1 E6 F2; have N3_6 := ne1 E6 F3; have N5_6 := ne1 E6 F5; replace F1 := bn F1 hb; replace F2 := bn F2 hb; replace F3 := bn F3 hb; replace F5 := bn F5 hb; clear c1_0 c1_1 c1_2 c1_3 c1_4 c1_5; obtain ⟨c1_0, c1_1, c1_2, c1_3, c1_4, c1_5⟩ := cs6 F1; clear hb E6)
        | ((with_reducible refine gate_store (t := 30) (p := 5) rfl ?_); obtain ⟨y0, y1⟩ := cs2 F5; have z0 := fz F5 0; have z1 := fz F5 1; refine sx (t := 30) (t' := 30) (p := 5) (v := ?vo2007) ?hg ?ho ?hn 0 [.string (cutV a b c).1, .string (cutV a b c).2.1] [.string (cutV a b c).1, .string (cutV a b c).2.1] ?hr B F5 L5 rfl (Nat.le_of_ble_eq_true rfl) ?_; (case ho => rfl); (case hg => rfl); (case hn => rfl); (case hr => first | (go_simp; done) | (go_simp; rfl)); intro w2007 hk B G; replace F1 := bk F1 hk N1_5.out; replace F2 := bk F2 hk N2_5.out; replace F3 := bk F3 hk N3_5.out; replace F6 := bk F6 hk N5_6.out.symm; replace F5 := G; clear c1_0 c1_1 c1_2 c1_3 c1_4 c1_5; obtain ⟨c1_0, c1_1, c1_2, c1_3, c1_4, c1_5⟩ := cs6 F1; clear hk y0 z0 y1 z1)
        | ((with_reducible refine gate_store (t := 30) (p := 6) rfl ?_); obtain ⟨y0, y1⟩ := cs2 F6; have z0 := fz F6 0; have z1 := fz F6 1; refine sx (t := 30) (t' := 30) (p := 6) (v := ?vo2008) ?hg ?ho ?hn 0 [.string (cutV a b c).2.2.1, .string (cutV a b c).2.2.2.1] [.string (cutV a b c).2.2.1, .string (cutV a b c).2.2.2.1] ?hr B F6 L6 rfl (Nat.le_of_ble_eq_true rfl) ?_; (case ho => rfl); (case hg => rfl); (case hn => rfl); (case hr => first | (go_simp; done) | (go_simp; rfl)); intro w2008 hk B G; replace F1 := bk F1 hk N1_6.out; replace F2 := bk F2 hk N2_6.out; replace F3 := bk F3 hk N3_6.out; replace F6 := G; clear c1_0 c1_1 c1_2 c1_3 c1_4 c1_5; obtain ⟨c1_0, c1_1, c1_2, c1_3, c1_4, c1_5⟩ := cs6 F1; clear hk y0 z0 y1 z1)
        | (go_at_call 12; with_reducible refine cl (spec_StateValid.M a b _ _ ps _ _ ss false c _ (cb HRP B) (cb HRS B)) B fun w2009 hb B => ?_; replace F1 := bn F1 hb; replace F2 := bn F2 hb; replace F3 := bn F3 hb; clear c1_0 c1_1 c1_2 c1_3 c1_4 c1_5; obtain ⟨c1_0, c1_1, c1_2, c1_3, c1_4, c1_5⟩ := cs6 F1; clear hb)
        | ((with_reducible refine gate_store (t := 34) (p := 2) rfl ?_); obtain ⟨y0, y1, y2, y3, y4, y5⟩ := cs6 F2; have z0 := fz F2 0; have z1 := fz F2 1; have z2 := fz F2 2; have z3 := fz F2 3; have z4 := fz F2 4; have z5 := fz F2 5; refine sx (t := 34) (t' := 34) (p := 2) (v := ?vo2010) ?hg ?ho ?hn 0 [.string (⟨#[]⟩ : ByteArray), .string (⟨#[]⟩ : ByteArray), .slice none 0 0, .slice none 0 0, .bool false, .string (⟨#[]⟩ : ByteArray)] [.string (⟨#[]⟩ : ByteArray), .string (⟨#[]⟩ : ByteArray), .slice none 0 0, .slice none 0 0, .bool false, .string (⟨#[]⟩ : ByteArray)] ?hr B F2 L2 rfl (Nat.le_of_ble_eq_true rfl) ?_; (case ho => rfl); (case hg => rfl); (case hn => rfl); (case hr => first | (go_simp; done) | (go_simp; rfl)); intro w2010 hk B G; replace F1 := bk F1 hk N1_2.out; replace F3 := bk F3 hk N2_3.out.symm; replace F2 := G; clear hk y0 z0 y1 z1 y2 z2 y3 z3 y4 z4 y5 z5)
        | ((with_reducible refine gate_store (t := 34) (p := 3) rfl ?_); obtain ⟨y0, y1, y2, y3, y4, y5⟩ := cs6 F3; have z0 := fz F3 0; have z1 := fz F3 1; have z2 := fz F3 2; have z3 := fz F3 3; have z4 := fz F3 4; have z5 := fz F3 5; refine sx (t := 34) (t' := 34) (p := 3) (v := ?vo2011) ?hg ?ho ?hn 0 [.string (⟨#[]⟩ : ByteArray), .string (⟨#[]⟩ : ByteArray), .slice none 0 0, .slice none 0 0, .bool false, .string (⟨#[]⟩ : ByteArray)] [.string (⟨#[]⟩ : ByteArray), .string (⟨#[]⟩ : ByteArray), .slice none 0 0, .slice none 0 0, .bool false, .string (⟨#[]⟩ : ByteArray)] ?hr B F3 L3 rfl (Nat.le_of_ble_eq_true rfl) ?_; (case ho => rfl); (case hg => rfl); (case hn => rfl); (case hr => first | (go_simp; done) | (go_simp; rfl)); intro w2011 hk B G; replace F1 := bk F1 hk N1_3.out; replace F2 := bk F2 hk N2_3.out; replace F3 := G; clear hk y0 z0 y1 z1 y2 z2 y3 z3 y4 z4 y5 z5))
      all_goals (refine bodyPost_ret (results_list (rs := [.cell 2 34, .cell 3 34, .tmp 4]) rfl (by simp) (.cell g2 34 _ (0, 0) _ rfl F2.out hu rfl (by kernel_rfl) (.cell g3 34 _ (0, 0) _ rfl F3.out hu rfl (by kernel_rfl) (.tmp .nil)))) rfl ?_; exact ⟨_, _, _, _, rfl, Kd.R_nil _ _ _ _ _, Kd.R_nil _ _ _ _ _, Kd.R_nil _ _ _ _ _, Kd.R_nil _ _ _ _ _, (fun _ h => nomatch h), (fun _ h => nomatch h), B.out⟩)
    | true =>
      cases hcut : cutB a b c with
      | true => exact spec_StateCut.Mt a b AP cP ps AS cS ss c w hrp hrs hcp hcs hs hcut
      | false =>
        rw [cs_bad (show cutOk ⟨a, b, ps, ss, true, c⟩ = false by unfold cutOk SM.ok; rw [hs, hcut]; rfl)]
        have hu := Try.underlying34
        have hu2 := Try.underlying30
        have HRP := Aside0.mk hrp
        have HRS := Aside0.mk hrs
        have HCP := Aside0.mk hcp
        have HCS := Aside0.mk hcs
        clear hrp hrs hcp hcs
        go_enter Try.func30, Try.ntmps30
        go_wp2_with (first
          | ((with_reducible refine gate_dst (N := 1) rfl ?_); refine bx ?hg (N := 1) ?hd (cs := #[.string a, .string b, .slice AP ps.length cP, .slice AS ss.length cS, .bool true, .string c]) (t := 34) ?hr B ?_; (case hd => rfl); (case hg => rfl); (case hr => first | (go_simp; done) | (go_simp; rfl)); intro g1 w3001 hb B F1 L1 E1; obtain ⟨c1_0, c1_1, c1_2, c1_3, c1_4, c1_5⟩ := cs6 F1; clear hb E1)
          | ((with_reducible refine gate_dst (N := 2) rfl ?_); refine bx ?hg (N := 2) ?hd (cs := #[.string (⟨#[]⟩ : ByteArray), .string (⟨#[]⟩ : ByteArray), .slice none 0 0, .slice none 0 0, .bool false, .string (⟨#[]⟩ : ByteArray)]) (t := 34) ?hr B ?_; (case hd => rfl); (case hg => rfl); (case hr => first | (go_simp; done) | (go_simp; rfl)); intro g2 w3002 hb B F2 L2 E2; have N1_2 := ne1 E2 F1; replace F1 := bn F1 hb; clear c1_0 c1_1 c1_2 c1_3 c1_4 c1_5; obtain ⟨c1_0, c1_1, c1_2, c1_3, c1_4, c1_5⟩ := cs6 F1; clear hb E2)
          | ((with_reducible refine gate_dst (N := 3) rfl ?_); refine bx ?hg (N := 3) ?hd (cs := #[.string (⟨#[]⟩ : ByteArray), .string (⟨#[]⟩ : ByteArray), .slice none 0 0, .slice none 0 0, .bool false, .string (⟨#[]⟩ : ByteArray)]) (t := 34) ?hr B ?_; (case hd => rfl); (case hg => rfl); (case hr => first | (go_simp; done) | (go_simp; rfl)); intro g3 w3003 hb B F3 L3 E3; have N1_3 := ne1 E3 F1; have N2_3 := ne1 E3 F2; replace F1 := bn F1 hb; replace F2 := bn F2 hb; clear c1_0 c1_1 c1_2 c1_3 c1_4 c1_5; obtain ⟨c1_0, c1_1, c1_2, c1_3, c1_4, c1_5⟩ := cs6 F1; clear hb E3)
          | (go_at_call 51; with_reducible refine cl (spec_IntervalCut.Mf a b c hcut _) B fun w3004 hb B => ?_; replace F1 := bn F1 hb; replace F2 := bn F2 hb; replace F3 := bn F3 hb; clear c1_0 c1_1 c1_2 c1_3 c1_4 c1_5; obtain ⟨c1_0, c1_1, c1_2, c1_3, c1_4, c1_5⟩ := cs6 F1; clear hb)
          | ((with_reducible refine gate_dst (N := 5) rfl ?_); refine bx ?hg (N := 5) ?hd (cs := #[.string (⟨#[]⟩ : ByteArray), .string (⟨#[]⟩ : ByteArray)]) (t := 30) ?hr B ?_; (case hd => rfl); (case hg => rfl); (case hr => first | (go_simp; done) | (go_simp; rfl)); intro g5 w3005 hb B F5 L5 E5; have N1_5 := ne1 E5 F1; have N2_5 := ne1 E5 F2; have N3_5 := ne1 E5 F3; replace F1 := bn F1 hb; replace F2 := bn F2 hb; replace F3 := bn F3 hb; clear c1_0 c1_1 c1_2 c1_3 c1_4 c1_5; obtain ⟨c1_0, c1_1, c1_2, c1_3, c1_4, c1_5⟩ := cs6 F1; clear hb E5)
          | ((with_reducible refine gate_dst (N := 6) rfl ?_); refine bx ?hg (N := 6) ?hd (cs := #[.string (⟨#[]⟩ : ByteArray), .string (⟨#[]⟩ : ByteArray)]) (t := 30) ?hr B ?_; (case hd => rfl); (case hg => rfl); (case hr => first | (go_simp; done) | (go_simp; rfl)); intro g6 w3006 hb B F6 L6 E6; have N1_6 := ne1 E6 F1; have N2_6 := ne1 E6 F2; have N3_6 := ne1 E6 F3; have N5_6 := ne1 E6 F5; replace F1 := bn F1 hb; replace F2 := bn F2 hb; replace F3 := bn F3 hb; replace F5 := bn F5 hb; clear c1_0 c1_1 c1_2 c1_3 c1_4 c1_5; obtain ⟨c1_0, c1_1, c1_2, c1_3, c1_4, c1_5⟩ := cs6 F1; clear hb E6)
          | ((with_reducible refine gate_store (t := 30) (p := 5) rfl ?_); obtain ⟨y0, y1⟩ := cs2 F5; have z0 := fz F5 0; have z1 := fz F5 1; refine sx (t := 30) (t' := 30) (p := 5) (v := ?vo3007) ?hg ?ho ?hn 0 [.string (⟨#[]⟩ : ByteArray), .string (⟨#[]⟩ : ByteArray)] [.string (⟨#[]⟩ : ByteArray), .string (⟨#[]⟩ : ByteArray)] ?hr B F5 L5 rfl (Nat.le_of_ble_eq_true rfl) ?_; (case ho => rfl); (case hg => rfl); (case hn => rfl); (case hr => first | (go_simp; done) | (go_simp; rfl)); intro w3007 hk B G; replace F1 := bk F1 hk N1_5.out; replace F2 := bk F2 hk N2_5.out; replace F3 := bk F3 hk N3_5.out; replace F6 := bk F6 hk N5_6.out.symm; replace F5 := G; clear c1_0 c1_1 c1_2 c1_3 c1_4 c1_5; obtain ⟨c1_0, c1_1, c1_2, c1_3, c1_4, c1_5⟩ := cs6 F1; clear hk y0 z0 y1 z1)
          | ((with_reducible refine gate_store (t := 30) (p := 6) rfl ?_); obtain ⟨y0, y1⟩ := cs2 F6; have z0 := fz F6 0; have z1 := fz F6 1; refine sx (t := 30) (t' := 30) (p := 6) (v := ?vo3008) ?hg ?ho ?hn 0 [.string (⟨#[]⟩ : ByteArray), .string (⟨#[]⟩ : ByteArray)] [.string (⟨#[]⟩ : ByteArray), .string (⟨#[]⟩ : ByteArray)] ?hr B F6 L6 rfl (Nat.le_of_ble_eq_true rfl) ?_; (case ho => rfl); (case hg => rfl); (case hn => rfl); (case hr => first | (go_simp; done) | (go_simp; rfl)); intro w3008 hk B G; replace F1 := bk F1 hk N1_6.out; replace F2 := bk F2 hk N2_6.out; replace F3 := bk F3 hk N3_6.out; replace F6 := G; clear c1_0 c1_1 c1_2 c1_3 c1_4 c1_5; obtain ⟨c1_0, c1_1, c1_2, c1_3, c1_4, c1_5⟩ := cs6 F1; clear hk y0 z0 y1 z1)
          | (go_at_call 12; with_reducible refine cl (spec_StateValid.M a b _ _ ps _ _ ss true c _ (cb HRP B) (cb HRS B)) B fun w3009 hb B => ?_; replace F1 := bn F1 hb; replace F2 := bn F2 hb; replace F3 := bn F3 hb; clear c1_0 c1_1 c1_2 c1_3 c1_4 c1_5; obtain ⟨c1_0, c1_1, c1_2, c1_3, c1_4, c1_5⟩ := cs6 F1; clear hb)
          | ((with_reducible refine gate_store (t := 34) (p := 2) rfl ?_); obtain ⟨y0, y1, y2, y3, y4, y5⟩ := cs6 F2; have z0 := fz F2 0; have z1 := fz F2 1; have z2 := fz F2 2; have z3 := fz F2 3; have z4 := fz F2 4; have z5 := fz F2 5; refine sx (t := 34) (t' := 34) (p := 2) (v := ?vo3010) ?hg ?ho ?hn 0 [.string (⟨#[]⟩ : ByteArray), .string (⟨#[]⟩ : ByteArray), .slice none 0 0, .slice none 0 0, .bool false, .string (⟨#[]⟩ : ByteArray)] [.string (⟨#[]⟩ : ByteArray), .string (⟨#[]⟩ : ByteArray), .slice none 0 0, .slice none 0 0, .bool false, .string (⟨#[]⟩ : ByteArray)] ?hr B F2 L2 rfl (Nat.le_of_ble_eq_true rfl) ?_; (case ho => rfl); (case hg => rfl); (case hn => rfl); (case hr => first | (go_simp; done) | (go_simp; rfl)); intro w3010 hk B G; replace F1 := bk F1 hk N1_2.out; replace F3 := bk F3 hk N2_3.out.symm; replace F2 := G; clear hk y0 z0 y1 z1 y2 z2 y3 z3 y4 z4 y5 z5)
          | ((with_reducible refine gate_store (t := 34) (p := 3) rfl ?_); obtain ⟨y0, y1, y2, y3, y4, y5⟩ := cs6 F3; have z0 := fz F3 0; have z1 := fz F3 1; have z2 := fz F3 2; have z3 := fz F3 3; have z4 := fz F3 4; have z5 := fz F3 5; refine sx (t := 34) (t' := 34) (p := 3) (v := ?vo3011) ?hg ?ho ?hn 0 [.string (⟨#[]⟩ : ByteArray), .string (⟨#[]⟩ : ByteArray), .slice none 0 0, .slice none 0 0, .bool false, .string (⟨#[]⟩ : ByteArray)] [.string (⟨#[]⟩ : ByteArray), .string (⟨#[]⟩ : ByteArray), .slice none 0 0, .slice none 0 0, .bool false, .string (⟨#[]⟩ : ByteArray)] ?hr B F3 L3 rfl (Nat.le_of_ble_eq_true rfl) ?_; (case ho => rfl); (case hg => rfl); (case hn => rfl); (case hr => first | (go_simp; done) | (go_simp; rfl)); intro w3011 hk B G; replace F1 := bk F1 hk N1_3.out; replace F2 := bk F2 hk N2_3.out; replace F3 := G; clear hk y0 z0 y1 z1 y2 z2 y3 z3 y4 z4 y5 z5))
        all_goals (refine bodyPost_ret (results_list (rs := [.cell 2 34, .cell 3 34, .tmp 4]) rfl (by simp) (.cell g2 34 _ (0, 0) _ rfl F2.out hu rfl (by kernel_rfl) (.cell g3 34 _ (0, 0) _ rfl F3.out hu rfl (by kernel_rfl) (.tmp .nil)))) rfl ?_; exact ⟨_, _, _, _, rfl, Kd.R_nil _ _ _ _ _, Kd.R_nil _ _ _ _ _, Kd.R_nil _ _ _ _ _, Kd.R_nil _ _ _ _ _, (fun _ h => nomatch h), (fun _ h => nomatch h), B.out⟩)
theorem spec_StateCut.Mr (a b : ByteArray) (AP : Option Addr) (cP : Nat) (ps : List S61) (AS : Option Addr) (cS : Nat) (ss : List S100) (t : Bool) (c : ByteArray) (xa xb : ByteArray) (xp : List S61) (xs : List S100) (xt : Bool) (xc ya yb : ByteArray) (yp : List S61) (ys : List S100) (yt : Bool) (yc : ByteArray) (ok : Bool) (hm : csM ⟨a, b, ps, ss, t, c⟩ = (⟨xa, xb, xp, xs, xt, xc⟩, ⟨ya, yb, yp, ys, yt, yc⟩, ok)) (w : World) (hrp : Kd.C k61 w AP ps.length ps) (hrs : Kd.C k100 w AS ss.length ss) (hcp : ps.length ≤ cP) (hcs : ss.length ≤ cS) : Calls Try.prog 30 #[.agg #[.string a, .string b, .slice AP ps.length cP, .slice AS ss.length cS, .bool t, .string c]] w fun e w' => ∃ v2 v3 v4 v5, e = .returned (.tuple #[.agg #[.string xa, .string xb, v2, v3, .bool xt, .string xc], .agg #[.string ya, .string yb, v4, v5, .bool yt, .string yc], .bool ok]) ∧ Kd.R k61 61 w' w.heap.size (fun _ => True) v2 xp ∧ Kd.R k100 100 w' w.heap.size (fun _ => True) v3 xs ∧ Kd.R k61 61 w' w.heap.size (fun _ => True) v4 yp ∧ Kd.R k100 100 w' w.heap.size (fun _ => True) v5 ys ∧ (∀ k_, v4.ownBlock = some k_ → v2.ownBlock = some k_ → False) ∧ (∀ k_, v5.ownBlock = some k_ → v3.ownBlock = some k_ → False) ∧ Below w.heap.size w w' := by
  have h := spec_StateCut.M a b AP cP ps AS cS ss t c w hrp hrs hcp hcs
  rw [hm] at h
  exact h

theorem impl_valueValid.M (n : Int) (w : World) : Calls Try.prog 94 #[.int .i64 n] w fun e w' => e = .returned (.bool (l1B n 0 999)) ∧ Below w.heap.size w w' := by
  go_enter Try.func94, Try.ntmps94
  go_wp2
  all_goals go_ret
  all_goals (refine ⟨?_, Below.refl _ _⟩; unfold l1B; simp_all; try omega)

def impl_PairsValid.T8 : Bool × List (List Nat × List Nat) := (true, [([], []), ([0], [0]), ([1], [1]), ([2], [2]), ([2], [2]), ([4, 2], [2, 4]), ([3, 5, 2], [2, 3, 5]), ([6, 2], [2, 6]), ([7, 2], [2, 7]), ([2], [2]), ([9, 2], [2, 9]), ([8, 10, 2], [2, 8, 10]), ([2, 11], [2, 11])])
def impl_PairsValid.B8 : List Nat := [0, 1, 3, 7, 7, 23, 63, 127, 255, 7, 519, 2047, 4095]
theorem impl_PairsValid.tab8 : rtab .any (opsOf Try.f56 8) = impl_PairsValid.T8 := by kernel_rfl
theorem impl_PairsValid.bits8 : waitsOk impl_PairsValid.T8.2 impl_PairsValid.B8 = true := by kernel_rfl
theorem impl_PairsValid.M (A0 : Option Addr) (c0 : Nat) (l : List S61) (w : World) (hr0 : Kd.C k61 w A0 l.length l) : Calls Try.prog 56 #[.slice A0 l.length c0] w fun e w' => e = .returned (.bool (prB l)) ∧ Below w.heap.size w w' := by
  have hu := Try.underlying61
  have B := Aside0.mk (Below.refl w.heap.size w)
  have HR0 := Aside0.mk hr0
  clear hr0
  obtain ⟨r, hr⟩ : ∃ r, prB l = r := ⟨_, rfl⟩
  rw [hr]
  unfold prB at hr
  by_cases hl : l.length ≤ 48
  · have H := Aside0.mk (show prJ l 0 = r by unfold prJ prP; simpa [hl] using hr)
    have cl0 : decide (48 < (l.length : Int)) = false := decide_eq_false (by omega)
    have L48 := Aside0.mk (show l.length ≤ 4611686018427387904 by omega)
    clear hl hr
    go_enter Try.func56, Try.ntmps56
    go_wp2
    go_loopg [10] (l.length + 1) (fun kx v10 wr => ∃ j : Nat, v10 = .int .i64 (j : Int) ∧ j ≤ l.length ∧ l.length < j + kx ∧ Aside0 (Below w.heap.size w wr) ∧ Aside0 (prJ l j = r))
    case atStart => exact ⟨0, rfl, by omega, by omega, B, H⟩
    case round =>
      clear H B
      obtain ⟨j, rfl, hj, hk, B, H⟩ := hrel
      by_cases hlt : j < l.length
      · have HS := Aside0.mk ((prJ_step hlt).symm.trans H.out)
        clear H
        obtain ⟨d, rfl⟩ : ∃ d, gk = d + 1 := ⟨gk - 1, by omega⟩
        have h48 := L48.out
        have cj : decide ((j : Int) < (l.length : Int)) = true := decide_eq_true (by omega)
        obtain ⟨ad, hA, y0, y1⟩ := at_T61 (cb HR0 B) (j : Int) (by omega) (by omega)
        cases hA
        rw [Int.toNat_natCast] at y0 y1
        have j1 := eq_true (show (j : Int) < (l.length : Int) by omega)
        have j2 := eq_true hlt
        generalize hy : rd_T61 l (j : Int) = y at *
        go_wp2_with (first
          | ((with_reducible refine gate_dst (N := 4) rfl ?_); refine bx ?hg (N := 4) ?hd (cs := #[.string (⟨#[]⟩ : ByteArray), .int .i64 (0)]) (t := 61) ?hr B ?_; (case hd => rfl); (case hg => rfl); (case hr => first | (go_simp; done) | (go_simp; rfl)); intro g4 w1 hb B F4 L4 E4; obtain ⟨c4_0, c4_1⟩ := cs2 F4; clear hb E4)
          | ((with_reducible refine gate_store (t := 61) (p := 4) rfl ?_); obtain ⟨y0, y1⟩ := cs2 F4; have z0 := fz F4 0; have z1 := fz F4 1; refine sx (t := 61) (t' := 61) (p := 4) (v := ?vo2) ?hg ?ho ?hn 0 [.string y.f0, .int .i64 (y.f1)] [.string y.f0, .int .i64 (y.f1)] ?hr B F4 L4 rfl (Nat.le_of_ble_eq_true rfl) ?_; (case ho => rfl); (case hg => rfl); (case hn => rfl); (case hr => first | (go_simp; done) | (go_simp; rfl)); intro w2 hk B G; replace F4 := G; clear c4_0 c4_1; obtain ⟨c4_0, c4_1⟩ := cs2 F4; clear hk y0 z0 y1 z1)
          | (go_at_call 80; with_reducible refine cl (impl_KeyValid.M y.f0 _) B fun w3 hb B => ?_; replace F4 := bn F4 hb; clear c4_0 c4_1; obtain ⟨c4_0, c4_1⟩ := cs2 F4; clear hb)
          | (go_at_call 94; with_reducible refine cl (impl_valueValid.M y.f1 _) B fun w4 hb B => ?_; replace F4 := bn F4 hb; clear c4_0 c4_1; obtain ⟨c4_0, c4_1⟩ := cs2 F4; clear hb))
        all_goals try (go_ret; exact ⟨andF HS.out (by grind [l1B, ltB]), B.out⟩)
        all_goals (
          refine rg (n := 13) (S := fun W => Kd.C k61 W (some ad) l.length l ∧ W.heap[g4]? = some (.cells #[.string y.f0, .int .i64 (y.f1)] 61 (0, 0))) (ds := []) #[false, false, false, false, false, false, false, false, false, false, false, false, false] (by kernel_rfl) rfl rfl ⟨(cb HR0 B), F4.out⟩ id B (fun w5 hb B hHeld => ?_)
          refine with_tabW impl_PairsValid.tab8 impl_PairsValid.bits8 (fun HT_ HW_ => ?_)
          replace F4 := bn F4 hb
          clear hb
          refine pu (i := 0) (N := some 25) (v := ?_) (bits 13 1) rfl rfl (any_of HT_.out (by kernel_rfl)) (fun _ _ _ h => h) (by kernel_rfl) ?_ ?_; rotate_left; (intro w'; go_simp; with_reducible rfl)
          by_cases hz : j = 0
          · rw [if_pos hz] at HS
            have dz : decide (0 < (j : Int)) = false := decide_eq_false (by omega)
            have dz2 : decide (0 < j) = false := decide_eq_false (by omega)
            clear hz
            refine pu (i := 1) (N := some 26) (v := ?_) (bits 13 3) rfl rfl (any_of HT_.out (by kernel_rfl)) (fun _ _ _ h => h) (by kernel_rfl) ?_ ?_; rotate_left; (intro w'; go_simp; with_reducible rfl)
            refine pu (i := 2) (N := some 27) (v := ?_) (bits 13 7) rfl rfl (any_of HT_.out (by kernel_rfl)) (fun _ _ _ h => h) (by kernel_rfl) ?_ ?_; rotate_left; (intro w'; go_simp; with_reducible rfl)
            refine sk (i := 3) (N := some 28) (bits 13 15) rfl rfl (any_of HT_.out (by kernel_rfl)) (fun _ _ _ h => h) (by kernel_rfl) ?_
            refine sk (i := 4) (N := some 29) (bits 13 31) rfl rfl (any_of HT_.out (by kernel_rfl)) (fun _ _ _ h => h) (by kernel_rfl) ?_
            refine sk (i := 5) (N := some 30) (bits 13 63) rfl rfl (any_of HT_.out (by kernel_rfl)) (fun _ _ _ h => h) (by kernel_rfl) ?_
            refine sk (i := 6) (N := some 31) (bits 13 127) rfl rfl (any_of HT_.out (by kernel_rfl)) (fun _ _ _ h => h) (by kernel_rfl) ?_
            refine sk (i := 7) (N := some 32) (bits 13 255) rfl rfl (any_of HT_.out (by kernel_rfl)) (fun _ _ _ h => h) (by kernel_rfl) ?_
            refine sk (i := 8) (N := some 33) (bits 13 511) rfl rfl (any_of HT_.out (by kernel_rfl)) (fun _ _ _ h => h) (by kernel_rfl) ?_
            refine sk (i := 9) (N := some 34) (bits 13 1023) rfl rfl (any_of HT_.out (by kernel_rfl)) (fun _ _ _ h => h) (by kernel_rfl) ?_
            refine sk (i := 10) (N := some 35) (bits 13 2047) rfl rfl (any_of HT_.out (by kernel_rfl)) (fun _ _ _ h => h) (by kernel_rfl) ?_
            refine sk (i := 11) (N := some 36) (bits 13 4095) rfl rfl (any_of HT_.out (by kernel_rfl)) (fun _ _ _ h => h) (by kernel_rfl) ?_
            refine pu (i := 12) (N := some 37) (v := ?_) (bits 13 8191) rfl rfl (any_of HT_.out (by kernel_rfl)) (fun _ _ _ h => h) (by kernel_rfl) ?_ ?_; rotate_left; (intro w'; go_simp; with_reducible rfl)
            refine norm_ (a' := ?_) ?_ ?_
            rotate_left
            · simp only [Act.put, List.setIfInBounds_toArray, List.set_cons_zero, List.set_cons_succ, i64_w, i32_w]
              rfl
            refine done_ (done_of HT_.out (by kernel_rfl)) ?_
            try go_wp2
            all_goals first
              | (go_roundg d; (case measure => omega); (case rel => exact ⟨j + 1, congrArg (Value.int .i64) (Int.natCast_succ _).symm, by omega, by omega, B, ⟨andT HS.out (by grind [l1B, ltB])⟩⟩))
              | (go_ret; exact ⟨andF HS.out (by grind [l1B, ltB]), B.out⟩)
          · rw [if_neg hz] at HS
            have dz : decide (0 < (j : Int)) = true := decide_eq_true (by omega)
            have dz2 : decide (0 < j) = true := decide_eq_true (by omega)
            obtain ⟨i, hi⟩ : ∃ i, j - 1 = i := ⟨_, rfl⟩
            rw [hi] at HS
            have WI := Aside0.mk (show (j : Int) - 1 = (i : Int) by omega)
            have hij : i < l.length := by omega
            have IW := Aside0.mk (show wrap64 (i : Int) = (i : Int) by unfold wrap64; omega)
            have i1 := eq_true (show (i : Int) < (l.length : Int) by omega)
            have i2 := eq_true hij
            generalize hx : rd_T61 l (i : Int) = x at HS
            clear hz hi
            refine pu (i := 1) (N := some 26) (v := ?_) (bits 13 3) rfl rfl (any_of HT_.out (by kernel_rfl)) (fun _ _ _ h => h) (by kernel_rfl) ?_ ?_; rotate_left; (intro w'; go_simp; with_reducible rfl)
            refine pu (i := 2) (N := some 27) (v := ?_) (bits 13 7) rfl rfl (any_of HT_.out (by kernel_rfl)) (fun _ _ _ h => h) (by kernel_rfl) ?_ ?_; rotate_left; (intro w'; go_simp; with_reducible rfl)
            refine pu (i := 3) (N := some 28) (v := ?_) (bits 13 15) rfl rfl (any_of HT_.out (by kernel_rfl)) (fun _ _ _ h => h) (by kernel_rfl) ?_ ?_; rotate_left; (intro w'; go_simp; with_reducible rfl)
            refine pu (i := 4) (N := some 29) (v := ?_) (bits 13 31) rfl rfl (any_of HT_.out (by kernel_rfl)) (fun _ _ _ h => h) (by kernel_rfl) ?_ ?_; rotate_left; (intro w'; go_simp; with_reducible rfl)
            refine pu (i := 5) (N := some 30) (v := .int .i64 ((i : Int))) (bits 13 63) rfl rfl (any_of HT_.out (by kernel_rfl)) (fun _ _ _ h => h) (by kernel_rfl) ?_ ?_; (intro w'; go_simp; rw [WI.out]; exact (i64_w _).trans IW.out)
            refine pu (i := 6) (N := some 31) (v := ?_) (bits 13 127) rfl rfl (any_of HT_.out (by kernel_rfl)) (fun _ _ _ h => h) (by kernel_rfl) ?_ ?_; rotate_left; (intro w'; go_simp; with_reducible rfl)
            refine pu (i := 7) (N := some 32) (v := ?_) (bits 13 255) rfl rfl (any_of HT_.out (by kernel_rfl)) (fun _ _ _ h => h) (by kernel_rfl) ?_ ?_; rotate_left; (intro w'; go_simp; with_reducible rfl)
            refine ta (i := 8) (N := some 33) (v := ?_) (bits 13 511) rfl rfl (take_ofW HT_.out HW_.out (by kernel_rfl)) (fun _ _ _ h => h) (by kernel_rfl) hHeld ?_ ?_; rotate_left; (intro w' hS; obtain ⟨s0, s1⟩ := hS; obtain ⟨_, hA, q0, q1⟩ := at_T61 s0 (i : Int) (by omega) (by omega); cases hA; rw [Int.toNat_natCast] at q0 q1; rw [hx] at q0 q1; go_simp; with_reducible rfl)
            refine pu (i := 9) (N := some 34) (v := ?_) (bits 13 1023) rfl rfl (any_of HT_.out (by kernel_rfl)) (fun _ _ _ h => h) (by kernel_rfl) ?_ ?_; rotate_left; (intro w'; go_simp; with_reducible rfl)
            refine ta (i := 10) (N := some 35) (v := ?_) (bits 13 2047) rfl rfl (take_ofW HT_.out HW_.out (by kernel_rfl)) (fun _ _ _ h => h) (by kernel_rfl) hHeld ?_ ?_; rotate_left; (intro w' hS; obtain ⟨s0, s1⟩ := hS; obtain ⟨q0, q1⟩ := cs2 (Aside0.mk s1); go_simp; with_reducible rfl)
            refine pu (i := 11) (N := some 36) (v := ?_) (bits 13 4095) rfl rfl (any_of HT_.out (by kernel_rfl)) (fun _ _ _ h => h) (by kernel_rfl) ?_ ?_; rotate_left; (intro w'; go_simp; with_reducible rfl)
            refine pu (i := 12) (N := some 37) (v := ?_) (bits 13 8191) rfl rfl (any_of HT_.out (by kernel_rfl)) (fun _ _ _ h => h) (by kernel_rfl) ?_ ?_; rotate_left; (intro w'; go_simp; with_reducible rfl)
            refine norm_ (a' := ?_) ?_ ?_
            rotate_left
            · simp only [Act.put, List.setIfInBounds_toArray, List.set_cons_zero, List.set_cons_succ, i64_w, i32_w]
              rfl
            refine done_ (done_of HT_.out (by kernel_rfl)) ?_
            try go_wp2
            all_goals first
              | (go_roundg d; (case measure => omega); (case rel => exact ⟨j + 1, congrArg (Value.int .i64) (Int.natCast_succ _).symm, by omega, by omega, B, ⟨andT HS.out (by grind [l1B, ltB])⟩⟩))
              | (go_ret; exact ⟨andF HS.out (by grind [l1B, ltB]), B.out⟩))
        all_goals try go_wp2
        all_goals try (go_ret; exact ⟨andF HS.out (by grind [l1B, ltB]), B.out⟩)
      · have cj : decide ((j : Int) < (l.length : Int)) = false := decide_eq_false (by omega)
        have hr : r = true := by rw [← H.out]; exact prJ_end hlt
        subst hr
        go_wp2
        go_ret
        exact ⟨rfl, B.out⟩
  · have cl0 : decide (48 < (l.length : Int)) = true := decide_eq_true (by omega)
    have hr : r = false := by rw [← hr, decide_eq_false hl]; rfl
    subst hr
    go_enter Try.func56, Try.ntmps56
    go_wp2
    go_ret
    exact ⟨rfl, B.out⟩

theorem impl_seqValid.M (n : Int) (w : World) : Calls Try.prog 95 #[.int .i64 n] w fun e w' => e = .returned (.bool (l1B n 1 999)) ∧ Below w.heap.size w w' := by
  go_enter Try.func95, Try.ntmps95
  go_wp2
  all_goals go_ret
  all_goals (refine ⟨?_, Below.refl _ _⟩; unfold l1B; simp_all; try omega)

def impl_SessionsValid.T6 : Bool × List (List Nat × List Nat) := (true, [([], []), ([0], [0]), ([1], [1]), ([2], [2]), ([2], [2]), ([4, 2], [2, 4]), ([3, 5, 2], [2, 3, 5]), ([6, 2], [2, 6]), ([7, 2], [2, 7]), ([2], [2]), ([9, 2], [2, 9]), ([8, 10, 2], [2, 8, 10]), ([2, 11], [2, 11])])
def impl_SessionsValid.B6 : List Nat := [0, 1, 3, 7, 7, 23, 63, 127, 255, 7, 519, 2047, 4095]
theorem impl_SessionsValid.tab6 : rtab .any (opsOf Try.f57 6) = impl_SessionsValid.T6 := by kernel_rfl
theorem impl_SessionsValid.bits6 : waitsOk impl_SessionsValid.T6.2 impl_SessionsValid.B6 = true := by kernel_rfl
theorem impl_SessionsValid.M (A0 : Option Addr) (c0 : Nat) (l : List S100) (w : World) (hr0 : Kd.C k100 w A0 l.length l) : Calls Try.prog 57 #[.slice A0 l.length c0] w fun e w' => e = .returned (.bool (sesB l)) ∧ Below w.heap.size w w' := by
  have hu := Try.underlying100
  have B := Aside0.mk (Below.refl w.heap.size w)
  have HR0 := Aside0.mk hr0
  clear hr0
  obtain ⟨r, hr⟩ : ∃ r, sesB l = r := ⟨_, rfl⟩
  rw [hr]
  unfold sesB at hr
  have H := Aside0.mk (show sesJ l 0 = r from hr)
  have L48 := Aside0.mk (show l.length ≤ 9223372036854775807 from HR0.out.2.1)
  clear hr
  go_enter Try.func57, Try.ntmps57
  go_wp2
  go_loopg [7] (l.length + 1) (fun kx v7 wr => ∃ j : Nat, v7 = .int .i64 (j : Int) ∧ j ≤ l.length ∧ l.length < j + kx ∧ Aside0 (Below w.heap.size w wr) ∧ Aside0 (sesJ l j = r))
  case atStart => exact ⟨0, rfl, by omega, by omega, B, H⟩
  case round =>
    clear H B
    obtain ⟨j, rfl, hj, hk, B, H⟩ := hrel
    by_cases hlt : j < l.length
    · have HS := Aside0.mk ((sesJ_step hlt).symm.trans H.out)
      clear H
      obtain ⟨d, rfl⟩ : ∃ d, gk = d + 1 := ⟨gk - 1, by omega⟩
      have h48 := L48.out
      have cj : decide ((j : Int) < (l.length : Int)) = true := decide_eq_true (by omega)
      obtain ⟨ad, hA, y0, y1, y2⟩ := at_T100 (cb HR0 B) (j : Int) (by omega) (by omega)
      cases hA
      rw [Int.toNat_natCast] at y0 y1 y2
      have j1 := eq_true (show (j : Int) < (l.length : Int) by omega)
      have j2 := eq_true hlt
      generalize hy : rd_T100 l (j : Int) = y at *
      go_wp2_with (first
        | ((with_reducible refine gate_dst (N := 4) rfl ?_); refine bx ?hg (N := 4) ?hd (cs := #[.int .i64 (0), .int .i64 (0), .int .i64 (0)]) (t := 100) ?hr B ?_; (case hd => rfl); (case hg => rfl); (case hr => first | (go_simp; done) | (go_simp; rfl)); intro g4 w1 hb B F4 L4 E4; obtain ⟨c4_0, c4_1, c4_2⟩ := cs3 F4; clear hb E4)
        | ((with_reducible refine gate_store (t := 100) (p := 4) rfl ?_); obtain ⟨y0, y1, y2⟩ := cs3 F4; have z0 := fz F4 0; have z1 := fz F4 1; have z2 := fz F4 2; refine sx (t := 100) (t' := 100) (p := 4) (v := ?vo2) ?hg ?ho ?hn 0 [.int .i64 (y.f0), .int .i64 (y.f1), .int .i64 (y.f2)] [.int .i64 (y.f0), .int .i64 (y.f1), .int .i64 (y.f2)] ?hr B F4 L4 rfl (Nat.le_of_ble_eq_true rfl) ?_; (case ho => rfl); (case hg => rfl); (case hn => rfl); (case hr => first | (go_simp; done) | (go_simp; rfl)); intro w2 hk B G; replace F4 := G; clear c4_0 c4_1 c4_2; obtain ⟨c4_0, c4_1, c4_2⟩ := cs3 F4; clear hk y0 z0 y1 z1 y2 z2)
        | (go_at_call 95; with_reducible refine cl (impl_seqValid.M y.f1 _) B fun w3 hb B => ?_; replace F4 := bn F4 hb; clear c4_0 c4_1 c4_2; obtain ⟨c4_0, c4_1, c4_2⟩ := cs3 F4; clear hb))
      all_goals try (go_ret; exact ⟨andF HS.out (by grind [l1B]), B.out⟩)
      all_goals (
        refine rg (n := 13) (S := fun W => Kd.C k100 W (some ad) l.length l ∧ W.heap[g4]? = some (.cells #[.int .i64 (y.f0), .int .i64 (y.f1), .int .i64 (y.f2)] 100 (0, 0))) (ds := []) #[false, false, false, false, false, false, false, false, false, false, false, false, false] (by kernel_rfl) rfl rfl ⟨(cb HR0 B), F4.out⟩ id B (fun w4 hb B hHeld => ?_)
        refine with_tabW impl_SessionsValid.tab6 impl_SessionsValid.bits6 (fun HT_ HW_ => ?_)
        replace F4 := bn F4 hb
        clear hb
        refine pu (i := 0) (N := some 36) (v := ?_) (bits 13 1) rfl rfl (any_of HT_.out (by kernel_rfl)) (fun _ _ _ h => h) (by kernel_rfl) ?_ ?_; rotate_left; (intro w'; go_simp; with_reducible rfl)
        by_cases hz : j = 0
        · rw [if_pos hz] at HS
          have dz : decide (0 < (j : Int)) = false := decide_eq_false (by omega)
          have dz2 : decide (0 < j) = false := decide_eq_false (by omega)
          clear hz
          refine pu (i := 1) (N := some 37) (v := ?_) (bits 13 3) rfl rfl (any_of HT_.out (by kernel_rfl)) (fun _ _ _ h => h) (by kernel_rfl) ?_ ?_; rotate_left; (intro w'; go_simp; with_reducible rfl)
          refine pu (i := 2) (N := some 38) (v := ?_) (bits 13 7) rfl rfl (any_of HT_.out (by kernel_rfl)) (fun _ _ _ h => h) (by kernel_rfl) ?_ ?_; rotate_left; (intro w'; go_simp; with_reducible rfl)
          refine sk (i := 3) (N := some 39) (bits 13 15) rfl rfl (any_of HT_.out (by kernel_rfl)) (fun _ _ _ h => h) (by kernel_rfl) ?_
          refine sk (i := 4) (N := some 40) (bits 13 31) rfl rfl (any_of HT_.out (by kernel_rfl)) (fun _ _ _ h => h) (by kernel_rfl) ?_
          refine sk (i := 5) (N := some 41) (bits 13 63) rfl rfl (any_of HT_.out (by kernel_rfl)) (fun _ _ _ h => h) (by kernel_rfl) ?_
          refine sk (i := 6) (N := some 42) (bits 13 127) rfl rfl (any_of HT_.out (by kernel_rfl)) (fun _ _ _ h => h) (by kernel_rfl) ?_
          refine sk (i := 7) (N := some 43) (bits 13 255) rfl rfl (any_of HT_.out (by kernel_rfl)) (fun _ _ _ h => h) (by kernel_rfl) ?_
          refine sk (i := 8) (N := some 44) (bits 13 511) rfl rfl (any_of HT_.out (by kernel_rfl)) (fun _ _ _ h => h) (by kernel_rfl) ?_
          refine sk (i := 9) (N := some 45) (bits 13 1023) rfl rfl (any_of HT_.out (by kernel_rfl)) (fun _ _ _ h => h) (by kernel_rfl) ?_
          refine sk (i := 10) (N := some 46) (bits 13 2047) rfl rfl (any_of HT_.out (by kernel_rfl)) (fun _ _ _ h => h) (by kernel_rfl) ?_
          refine sk (i := 11) (N := some 47) (bits 13 4095) rfl rfl (any_of HT_.out (by kernel_rfl)) (fun _ _ _ h => h) (by kernel_rfl) ?_
          refine pu (i := 12) (N := some 48) (v := ?_) (bits 13 8191) rfl rfl (any_of HT_.out (by kernel_rfl)) (fun _ _ _ h => h) (by kernel_rfl) ?_ ?_; rotate_left; (intro w'; go_simp; with_reducible rfl)
          refine norm_ (a' := ?_) ?_ ?_
          rotate_left
          · simp only [Act.put, List.setIfInBounds_toArray, List.set_cons_zero, List.set_cons_succ, i64_w, i32_w]
            rfl
          refine done_ (done_of HT_.out (by kernel_rfl)) ?_
          try go_wp2
          all_goals first
            | (go_roundg d; (case measure => omega); (case rel => exact ⟨j + 1, congrArg (Value.int .i64) (Int.natCast_succ _).symm, by omega, by omega, B, ⟨andT HS.out (by grind [l1B])⟩⟩))
            | (go_ret; exact ⟨andF HS.out (by grind [l1B]), B.out⟩)
        · rw [if_neg hz] at HS
          have dz : decide (0 < (j : Int)) = true := decide_eq_true (by omega)
          have dz2 : decide (0 < j) = true := decide_eq_true (by omega)
          obtain ⟨i, hi⟩ : ∃ i, j - 1 = i := ⟨_, rfl⟩
          rw [hi] at HS
          have WI := Aside0.mk (show (j : Int) - 1 = (i : Int) by omega)
          have hij : i < l.length := by omega
          have IW := Aside0.mk (show wrap64 (i : Int) = (i : Int) by unfold wrap64; omega)
          have i1 := eq_true (show (i : Int) < (l.length : Int) by omega)
          have i2 := eq_true hij
          generalize hx : rd_T100 l (i : Int) = x at HS
          clear hz hi
          refine pu (i := 1) (N := some 37) (v := ?_) (bits 13 3) rfl rfl (any_of HT_.out (by kernel_rfl)) (fun _ _ _ h => h) (by kernel_rfl) ?_ ?_; rotate_left; (intro w'; go_simp; with_reducible rfl)
          refine pu (i := 2) (N := some 38) (v := ?_) (bits 13 7) rfl rfl (any_of HT_.out (by kernel_rfl)) (fun _ _ _ h => h) (by kernel_rfl) ?_ ?_; rotate_left; (intro w'; go_simp; with_reducible rfl)
          refine pu (i := 3) (N := some 39) (v := ?_) (bits 13 15) rfl rfl (any_of HT_.out (by kernel_rfl)) (fun _ _ _ h => h) (by kernel_rfl) ?_ ?_; rotate_left; (intro w'; go_simp; with_reducible rfl)
          refine pu (i := 4) (N := some 40) (v := ?_) (bits 13 31) rfl rfl (any_of HT_.out (by kernel_rfl)) (fun _ _ _ h => h) (by kernel_rfl) ?_ ?_; rotate_left; (intro w'; go_simp; with_reducible rfl)
          refine pu (i := 5) (N := some 41) (v := .int .i64 ((i : Int))) (bits 13 63) rfl rfl (any_of HT_.out (by kernel_rfl)) (fun _ _ _ h => h) (by kernel_rfl) ?_ ?_; (intro w'; go_simp; rw [WI.out]; exact (i64_w _).trans IW.out)
          refine pu (i := 6) (N := some 42) (v := ?_) (bits 13 127) rfl rfl (any_of HT_.out (by kernel_rfl)) (fun _ _ _ h => h) (by kernel_rfl) ?_ ?_; rotate_left; (intro w'; go_simp; with_reducible rfl)
          refine pu (i := 7) (N := some 43) (v := ?_) (bits 13 255) rfl rfl (any_of HT_.out (by kernel_rfl)) (fun _ _ _ h => h) (by kernel_rfl) ?_ ?_; rotate_left; (intro w'; go_simp; with_reducible rfl)
          refine ta (i := 8) (N := some 44) (v := ?_) (bits 13 511) rfl rfl (take_ofW HT_.out HW_.out (by kernel_rfl)) (fun _ _ _ h => h) (by kernel_rfl) hHeld ?_ ?_; rotate_left; (intro w' hS; obtain ⟨s0, s1⟩ := hS; obtain ⟨_, hA, q0, q1, q2⟩ := at_T100 s0 (i : Int) (by omega) (by omega); cases hA; rw [Int.toNat_natCast] at q0 q1 q2; rw [hx] at q0 q1 q2; go_simp; with_reducible rfl)
          refine pu (i := 9) (N := some 45) (v := ?_) (bits 13 1023) rfl rfl (any_of HT_.out (by kernel_rfl)) (fun _ _ _ h => h) (by kernel_rfl) ?_ ?_; rotate_left; (intro w'; go_simp; with_reducible rfl)
          refine ta (i := 10) (N := some 46) (v := ?_) (bits 13 2047) rfl rfl (take_ofW HT_.out HW_.out (by kernel_rfl)) (fun _ _ _ h => h) (by kernel_rfl) hHeld ?_ ?_; rotate_left; (intro w' hS; obtain ⟨s0, s1⟩ := hS; obtain ⟨q0, q1, q2⟩ := cs3 (Aside0.mk s1); go_simp; with_reducible rfl)
          refine pu (i := 11) (N := some 47) (v := ?_) (bits 13 4095) rfl rfl (any_of HT_.out (by kernel_rfl)) (fun _ _ _ h => h) (by kernel_rfl) ?_ ?_; rotate_left; (intro w'; go_simp; with_reducible rfl)
          refine pu (i := 12) (N := some 48) (v := ?_) (bits 13 8191) rfl rfl (any_of HT_.out (by kernel_rfl)) (fun _ _ _ h => h) (by kernel_rfl) ?_ ?_; rotate_left; (intro w'; go_simp; with_reducible rfl)
          refine norm_ (a' := ?_) ?_ ?_
          rotate_left
          · simp only [Act.put, List.setIfInBounds_toArray, List.set_cons_zero, List.set_cons_succ, i64_w, i32_w]
            rfl
          refine done_ (done_of HT_.out (by kernel_rfl)) ?_
          try go_wp2
          all_goals first
            | (go_roundg d; (case measure => omega); (case rel => exact ⟨j + 1, congrArg (Value.int .i64) (Int.natCast_succ _).symm, by omega, by omega, B, ⟨andT HS.out (by grind [l1B])⟩⟩))
            | (go_ret; exact ⟨andF HS.out (by grind [l1B]), B.out⟩))
      all_goals try go_wp2
      all_goals try (go_ret; exact ⟨andF HS.out (by grind [l1B]), B.out⟩)
    · have cj : decide ((j : Int) < (l.length : Int)) = false := decide_eq_false (by omega)
      have hr : r = true := by rw [← H.out]; exact sesJ_end hlt
      subst hr
      go_wp2
      go_ret
      exact ⟨rfl, B.out⟩

theorem impl_StateValid.M (a b : ByteArray) (AP : Option Addr) (cP : Nat) (ps : List S61) (AS : Option Addr) (cS : Nat) (ss : List S100) (t : Bool) (c : ByteArray) (w : World) (hrp : Kd.C k61 w AP ps.length ps) (hrs : Kd.C k100 w AS ss.length ss) : Calls Try.prog 14 #[.agg #[.string a, .string b, .slice AP ps.length cP, .slice AS ss.length cS, .bool t, .string c]] w fun e w' => e = .returned (.bool (stB a b ps ss t c)) ∧ Below w.heap.size w w' := by
  have B := Aside0.mk (Below.refl w.heap.size w)
  have hu := Try.underlying34
  have hu2 := Try.underlying30
  have HRP := Aside0.mk hrp
  have HRS := Aside0.mk hrs
  clear hrp hrs
  go_enter Try.func14, Try.ntmps14
  go_wp2_with (first
    | ((with_reducible refine gate_dst (N := 1) rfl ?_); refine bx ?hg (N := 1) ?hd (cs := #[.string a, .string b, .slice AP ps.length cP, .slice AS ss.length cS, .bool t, .string c]) (t := 34) ?hr B ?_; (case hd => rfl); (case hg => rfl); (case hr => first | (go_simp; done) | (go_simp; rfl)); intro g1 w1 hb B F1 L1 E1; obtain ⟨c1_0, c1_1, c1_2, c1_3, c1_4, c1_5⟩ := cs6 F1; clear hb E1)
    | (go_at_call 55; with_reducible refine cl (impl_IntervalValid.M a b _) B fun w2 hb B => ?_; replace F1 := bn F1 hb; clear c1_0 c1_1 c1_2 c1_3 c1_4 c1_5; obtain ⟨c1_0, c1_1, c1_2, c1_3, c1_4, c1_5⟩ := cs6 F1; clear hb)
    | (go_at_call 56; with_reducible refine cl (impl_PairsValid.M _ _ ps _ (cb HRP B)) B fun w3 hb B => ?_; replace F1 := bn F1 hb; clear c1_0 c1_1 c1_2 c1_3 c1_4 c1_5; obtain ⟨c1_0, c1_1, c1_2, c1_3, c1_4, c1_5⟩ := cs6 F1; clear hb)
    | (go_at_call 57; with_reducible refine cl (impl_SessionsValid.M _ _ ss _ (cb HRS B)) B fun w4 hb B => ?_; replace F1 := bn F1 hb; clear c1_0 c1_1 c1_2 c1_3 c1_4 c1_5; obtain ⟨c1_0, c1_1, c1_2, c1_3, c1_4, c1_5⟩ := cs6 F1; clear hb))
  all_goals try (go_ret; exact ⟨congrArg (fun b => Ending.returned (Value.bool b)) (by grind [stB]), B.out⟩)
  have hv : ivB a b = true ∧ prB ps = true ∧ sesB ss = true := by grind
  have hst : stB a b ps ss t c = ((ps.all fun p => insB a b p.f0) && tailB a b t c) := by
    unfold stB
    rw [hv.1, hv.2.1, hv.2.2]
    rfl
  (try simp only [hv.1, hv.2.1, hv.2.2, Bool.not_true])
  obtain ⟨q, hq⟩ : ∃ q, (ps.all fun p => insB a b p.f0) = q := ⟨_, rfl⟩
  rw [hq] at hst
  have H := Aside0.mk (show ((ps.drop 0).all fun p => insB a b p.f0) = q from hq)
  have L48 := Aside0.mk (prB_len hv.2.1)
  clear hq hv c1_0 c1_1 c1_2 c1_3 c1_4 c1_5
  have HST := Aside0.mk hst
  clear hst
  go_loopg [27] (ps.length + 1) (fun kx v27 wr => ∃ j : Nat, v27 = .int .i64 (j : Int) ∧ j ≤ ps.length ∧ ps.length < j + kx ∧ Aside0 (Below w.heap.size w wr) ∧ Aside0 (wr.heap[g1]? = some (.cells #[.string a, .string b, .slice AP ps.length cP, .slice AS ss.length cS, .bool t, .string c] 34 (0, 0))) ∧ Aside0 (((ps.drop j).all fun p => insB a b p.f0) = q))
  case atStart => exact ⟨0, rfl, by omega, by omega, B, F1, H⟩
  case round =>
    clear H B F1
    obtain ⟨j, rfl, hj, hk, B, F1, H⟩ := hrel
    have hst := HST.out
    obtain ⟨c1_0, c1_1, c1_2, c1_3, c1_4, c1_5⟩ := cs6 F1
    by_cases hlt : j < ps.length
    · have HS := H.out
      rw [pr_drop hlt, List.all_cons] at HS
      clear H
      obtain ⟨d, rfl⟩ : ∃ d, gk = d + 1 := ⟨gk - 1, by omega⟩
      have h48 := L48.out
      have cj : decide ((j : Int) < (ps.length : Int)) = true := decide_eq_true (by omega)
      obtain ⟨ad, hA, y0, y1⟩ := at_T61 (cb HRP B) (j : Int) (by omega) (by omega)
      cases hA
      rw [Int.toNat_natCast] at y0 y1
      have j1 := eq_true (show (j : Int) < (ps.length : Int) by omega)
      have j2 := eq_true hlt
      generalize hy : rd_T61 ps (j : Int) = y at *
      go_wp2_with (first
        | ((with_reducible refine gate_dst (N := 4) rfl ?_); refine bx ?hg (N := 4) ?hd (cs := #[.string (⟨#[]⟩ : ByteArray), .int .i64 (0)]) (t := 61) ?hr B ?_; (case hd => rfl); (case hg => rfl); (case hr => first | (go_simp; done) | (go_simp; rfl)); intro g4 w5 hb B F4 L4 E4; have N1_4 := ne1 E4 F1; replace F1 := bn F1 hb; clear c1_0 c1_1 c1_2 c1_3 c1_4 c1_5; obtain ⟨c1_0, c1_1, c1_2, c1_3, c1_4, c1_5⟩ := cs6 F1; obtain ⟨c4_0, c4_1⟩ := cs2 F4; clear hb E4)
        | ((with_reducible refine gate_store (t := 61) (p := 4) rfl ?_); obtain ⟨y0, y1⟩ := cs2 F4; have z0 := fz F4 0; have z1 := fz F4 1; refine sx (t := 61) (t' := 61) (p := 4) (v := ?vo6) ?hg ?ho ?hn 0 [.string y.f0, .int .i64 (y.f1)] [.string y.f0, .int .i64 (y.f1)] ?hr B F4 L4 rfl (Nat.le_of_ble_eq_true rfl) ?_; (case ho => rfl); (case hg => rfl); (case hn => rfl); (case hr => first | (go_simp; done) | (go_simp; rfl)); intro w6 hk B G; replace F1 := bk F1 hk N1_4.out; replace F4 := G; clear c1_0 c1_1 c1_2 c1_3 c1_4 c1_5; obtain ⟨c1_0, c1_1, c1_2, c1_3, c1_4, c1_5⟩ := cs6 F1; clear c4_0 c4_1; obtain ⟨c4_0, c4_1⟩ := cs2 F4; clear hk y0 z0 y1 z1)
        | (go_at_call 58; with_reducible refine cl (impl_inside.M a b y.f0 _) B fun w7 hb B => ?_; replace F1 := bn F1 hb; clear hb))
      all_goals first
        | (go_roundg d; (case measure => omega); (case rel => exact ⟨j + 1, congrArg (Value.int .i64) (Int.natCast_succ _).symm, by omega, by omega, B, F1, ⟨andT HS (by grind)⟩⟩))
        | (go_ret; exact ⟨congrArg (fun b => Ending.returned (Value.bool b)) (by grind), B.out⟩)
    · have cj : decide ((j : Int) < (ps.length : Int)) = false := decide_eq_false (by omega)
      have hr : q = true := by rw [← H.out, List.drop_of_length_le (by omega)]; rfl
      clear H
      go_wp2_with (first
        | (go_at_call 59; with_reducible refine cl (impl_IntervalCut.M a b c _) B fun w1 hb B => ?_; replace F1 := bn F1 hb; clear c1_0 c1_1 c1_2 c1_3 c1_4 c1_5; obtain ⟨c1_0, c1_1, c1_2, c1_3, c1_4, c1_5⟩ := cs6 F1; clear hb)
        | ((with_reducible refine gate_dst (N := 5) rfl ?_); refine bx ?hg (N := 5) ?hd (cs := #[.string (⟨#[]⟩ : ByteArray), .string (⟨#[]⟩ : ByteArray)]) (t := 30) ?hr B ?_; (case hd => rfl); (case hg => rfl); (case hr => first | (go_simp; done) | (go_simp; rfl)); intro g5 w2 hb B F5 L5 E5; have N1_5 := ne1 E5 F1; replace F1 := bn F1 hb; clear c1_0 c1_1 c1_2 c1_3 c1_4 c1_5; obtain ⟨c1_0, c1_1, c1_2, c1_3, c1_4, c1_5⟩ := cs6 F1; clear hb E5)
        | ((with_reducible refine gate_dst (N := 6) rfl ?_); refine bx ?hg (N := 6) ?hd (cs := #[.string (⟨#[]⟩ : ByteArray), .string (⟨#[]⟩ : ByteArray)]) (t := 30) ?hr B ?_; (case hd => rfl); (case hg => rfl); (case hr => first | (go_simp; done) | (go_simp; rfl)); intro g6 w3 hb B F6 L6 E6; have N1_6 := ne1 E6 F1; have N5_6 := ne1 E6 F5; replace F1 := bn F1 hb; replace F5 := bn F5 hb; clear c1_0 c1_1 c1_2 c1_3 c1_4 c1_5; obtain ⟨c1_0, c1_1, c1_2, c1_3, c1_4, c1_5⟩ := cs6 F1; clear hb E6)
        | ((with_reducible refine gate_store (t := 30) (p := 5) rfl ?_); obtain ⟨y0, y1⟩ := cs2 F5; have z0 := fz F5 0; have z1 := fz F5 1; refine sx (t := 30) (t' := 30) (p := 5) (v := ?vo4) ?hg ?ho ?hn 0 [.string (cutV a b c).1, .string (cutV a b c).2.1] [.string (cutV a b c).1, .string (cutV a b c).2.1] ?hr B F5 L5 rfl (Nat.le_of_ble_eq_true rfl) ?_; (case ho => rfl); (case hg => rfl); (case hn => rfl); (case hr => first | (go_simp; done) | (go_simp; rfl)); intro w4 hk B G; replace F1 := bk F1 hk N1_5.out; replace F6 := bk F6 hk N5_6.out.symm; replace F5 := G; clear c1_0 c1_1 c1_2 c1_3 c1_4 c1_5; obtain ⟨c1_0, c1_1, c1_2, c1_3, c1_4, c1_5⟩ := cs6 F1; clear hk y0 z0 y1 z1)
        | ((with_reducible refine gate_store (t := 30) (p := 6) rfl ?_); obtain ⟨y0, y1⟩ := cs2 F6; have z0 := fz F6 0; have z1 := fz F6 1; refine sx (t := 30) (t' := 30) (p := 6) (v := ?vo5) ?hg ?ho ?hn 0 [.string (cutV a b c).2.2.1, .string (cutV a b c).2.2.2.1] [.string (cutV a b c).2.2.1, .string (cutV a b c).2.2.2.1] ?hr B F6 L6 rfl (Nat.le_of_ble_eq_true rfl) ?_; (case ho => rfl); (case hg => rfl); (case hn => rfl); (case hr => first | (go_simp; done) | (go_simp; rfl)); intro w5 hk B G; replace F1 := bk F1 hk N1_6.out; replace F6 := G; clear c1_0 c1_1 c1_2 c1_3 c1_4 c1_5; obtain ⟨c1_0, c1_1, c1_2, c1_3, c1_4, c1_5⟩ := cs6 F1; clear hk y0 z0 y1 z1))
      all_goals go_ret
      all_goals
        refine ⟨congrArg (fun b => Ending.returned (Value.bool b)) ?_, B.out⟩
        rw [hst, hr, Bool.true_and]
        unfold tailB
        grind [cutV_ok]

def cmpS (x y : ByteArray) : Int := if ltB x y = true then -1 else if ltB y x = true then 1 else 0
theorem cmp_isNaNs.calls (x : ByteArray) (w : World) : Calls Try.prog 119 #[.string x] w fun e w' => e = .returned (.bool false) ∧ Below w.heap.size w w' := by
  go_enter Try.func119, Try.ntmps119
  go_wp2
  go_ret
  exact ⟨by simp, Below.refl _ _⟩
theorem cmp_Compares.calls (x y : ByteArray) (w : World) : Calls Try.prog 105 #[.string x, .string y] w fun e w' => e = .returned (.int .i64 (cmpS x y)) ∧ Below w.heap.size w w' := by
  unfold cmpS ltB
  cases h1 : Op.bytesLess x.toList y.toList with
  | true =>
    rw [if_pos rfl]
    go_enter Try.func105, Try.ntmps105
    go_wp2_with (first
      | (go_at_call 119; (with_reducible refine (cmp_isNaNs.calls x w).mono ?_); rintro e w1 ⟨rfl, hb⟩; have B1 := Aside0.mk hb; clear hb)
      | (go_at_call 119; (with_reducible refine (cmp_isNaNs.calls y w1).mono ?_); rintro e w2 ⟨rfl, hb⟩; have B2 := Aside0.mk (below_step B1.out hb); clear hb))
    go_ret
    exact ⟨rfl, B2.out⟩
  | false =>
    rw [if_neg (by simp)]
    cases h2 : Op.bytesLess y.toList x.toList with
    | true =>
      rw [if_pos rfl]
      go_enter Try.func105, Try.ntmps105
      go_wp2_with (first
        | (go_at_call 119; (with_reducible refine (cmp_isNaNs.calls x w).mono ?_); rintro e w1 ⟨rfl, hb⟩; have B1 := Aside0.mk hb; clear hb)
        | (go_at_call 119; (with_reducible refine (cmp_isNaNs.calls y w1).mono ?_); rintro e w2 ⟨rfl, hb⟩; have B2 := Aside0.mk (below_step B1.out hb); clear hb))
      go_ret
      exact ⟨rfl, B2.out⟩
    | false =>
      rw [if_neg (by simp)]
      go_enter Try.func105, Try.ntmps105
      go_wp2_with (first
        | (go_at_call 119; (with_reducible refine (cmp_isNaNs.calls x w).mono ?_); rintro e w1 ⟨rfl, hb⟩; have B1 := Aside0.mk hb; clear hb)
        | (go_at_call 119; (with_reducible refine (cmp_isNaNs.calls y w1).mono ?_); rintro e w2 ⟨rfl, hb⟩; have B2 := Aside0.mk (below_step B1.out hb); clear hb))
      go_ret
      exact ⟨rfl, B2.out⟩

theorem impl_pairPlace1.calls (s : S61) (c : ByteArray) (w : World) : Calls Try.prog 104 #[.agg #[.string s.f0, .int .i64 s.f1], .string c] w fun e w' => e = .returned (.int .i64 (cmpS s.f0 c)) ∧ Below w.heap.size w w' := by
  have hu := Try.underlying61
  go_enter Try.func104, Try.ntmps104
  go_wp2_with (first
    | ((with_reducible refine gate_dst (N := 2) rfl ?_); refine box_event ?hg (N := 2) ?hd (cs := #[.string s.f0, .int .i64 s.f1]) (t := 61) ?hr ?_; (case hd => rfl); (case hg => rfl); (case hr => first | (go_simp; done) | (go_simp; rfl)); intro g hg w1 hc hb; have B1 := Aside0.mk hb; have c0 : w1.cell? ⟨g, 0, none⟩ = some (.string s.f0) := (blk_cell hc 0).trans rfl; clear hc hb hg)
    | (go_at_call 105; (with_reducible refine (cmp_Compares.calls s.f0 c w1).mono ?_); rintro e w2 ⟨rfl, hb⟩; have B2 := Aside0.mk (below_step B1.out hb); clear hb))
  go_ret
  exact ⟨rfl, B2.out⟩

theorem cmpS_neg (x c : ByteArray) : decide (cmpS x c < 0) = ltB x c := by
  unfold cmpS
  cases h : ltB x c with
  | true => rfl
  | false => cases ltB c x <;> rfl
theorem cmpS_zero (x c : ByteArray) : (cmpS x c == 0) = decide (x = c) := by
  have ht := less_total x.toList c.toList
  unfold cmpS ltB
  by_cases e : x = c
  · subst e
    have hs : Op.bytesLess x.toList x.toList = false := by simpa using ht
    rw [hs, decide_eq_true rfl]
    rfl
  · rw [decide_eq_false e]
    have hne : (x.toList == c.toList) = false := beq_eq_false_iff_ne.mpr fun q => e (ByteArray.ext (Array.toList_inj.mp (by rw [← Lib.toList_data, ← Lib.toList_data]; exact q)))
    rw [hne, Bool.or_false] at ht
    rw [ht]
    cases Op.bytesLess c.toList x.toList <;> rfl
def hitP (l : List S61) (c : ByteArray) : Bool := decide (placeP l c l.length 0 l.length < l.length) && decide ((rd_T61 l ((placeP l c l.length 0 l.length : Nat) : Int)).f0 = c)

theorem slices_BinarySearchP.calls (A0 : Option Addr) (c0 : Nat) (l : List S61) (c : ByteArray) (w : World) (hr0 : Kd.C k61 w A0 l.length l) (hc0 : l.length ≤ c0) (hsz : l.length < 4611686018427387904) :
    Calls Try.prog 103 #[.slice A0 l.length c0, .string c, .func (.func 104) #[] #[]] w fun e w' =>
      e = .returned (.tuple #[.int .i64 ((placeP l c l.length 0 l.length : Nat) : Int), .bool (hitP l c)]) ∧ Below w.heap.size w w' := by
  have HR0 := Aside0.mk hr0
  clear hr0
  have hu := Try.underlying61
  generalize hR : placeP l c l.length 0 l.length = R
  have HT := Aside0.mk (show hitP l c = (decide (R < l.length) && decide ((rd_T61 l ((R : Nat) : Int)).f0 = c)) by unfold hitP; rw [hR])
  have PR := Aside0.mk hR
  clear hR
  go_enter Try.func103, Try.ntmps103
  go_wp2
  go_loopg [9, 10] l.length (fun kx s9 s10 wr => ∃ lo hi : Nat, s9 = .int .i64 lo ∧ s10 = .int .i64 hi ∧ lo ≤ hi ∧ hi ≤ l.length ∧ hi - lo ≤ kx ∧ Aside0 (Below w.heap.size w wr) ∧ Aside0 (placeP l c kx lo hi = R))
  case atStart => exact ⟨0, l.length, rfl, rfl, Nat.zero_le _, Nat.le_refl _, by omega, ⟨Below.refl _ _⟩, PR⟩
  case round =>
    clear PR
    obtain ⟨lo, hi, rfl, rfl, hlh, hin, hg, BW, PW⟩ := hrel
    by_cases hlt : lo < hi
    · obtain ⟨d, rfl⟩ : ∃ d, gk = d + 1 := ⟨gk - 1, by omega⟩
      have hp := PW.out
      simp only [placeP] at hp
      rw [if_pos hlt] at hp
      obtain ⟨ad, hA, x0, x1⟩ := at_T61 (Kd.C_below HR0.out BW.out) (((lo + hi) / 2 : Nat) : Int) (by omega) (by omega)
      subst hA
      generalize hy : rd_T61 l (((lo + hi) / 2 : Nat) : Int) = y at x0 x1 hp
      rw [Int.toNat_natCast] at x0 x1
      clear hy
      by_cases hyx : ltB y.f0 c = true
      · rw [if_pos hyx] at hp
        have P2 := Aside0.mk hp
        have dc : decide (cmpS y.f0 c < 0) = true := (cmpS_neg _ _).trans hyx
        clear PW hp hyx
        go_wp2_with (go_at_call 104; (with_reducible refine (impl_pairPlace1.calls y c wr).mono ?_); rintro e w1 ⟨rfl, hb⟩; have B1 := Aside0.mk (below_step BW.out hb); clear hb)
        go_roundg d
        case measure => omega
        case rel => exact ⟨(lo + hi) / 2 + 1, hi, by rw [show ((lo : Int) + (hi : Int)) / 2 + 1 = (((lo + hi) / 2 + 1 : Nat) : Int) by omega], rfl, by omega, hin, by omega, B1, P2⟩
      · rw [if_neg hyx] at hp
        have P2 := Aside0.mk hp
        have dc : decide (cmpS y.f0 c < 0) = false := (cmpS_neg _ _).trans (Bool.eq_false_iff.mpr hyx)
        clear PW hp hyx
        go_wp2_with (go_at_call 104; (with_reducible refine (impl_pairPlace1.calls y c wr).mono ?_); rintro e w1 ⟨rfl, hb⟩; have B1 := Aside0.mk (below_step BW.out hb); clear hb)
        go_roundg d
        case measure => omega
        case rel => exact ⟨lo, (lo + hi) / 2, rfl, by rw [show ((lo : Int) + (hi : Int)) / 2 = (((lo + hi) / 2 : Nat) : Int) by omega], by omega, by omega, by omega, B1, P2⟩
    · obtain rfl : R = lo := by
        rw [← PW.out]
        cases gk with
        | zero => rfl
        | succ d => simp only [placeP]; rw [if_neg hlt]
      by_cases hn : R < l.length
      · obtain ⟨ad, hA, x0, x1⟩ := at_T61 (Kd.C_below HR0.out BW.out) (R : Int) (by omega) (by omega)
        subst hA
        generalize hy : rd_T61 l (R : Int) = y at x0 x1 HT
        rw [Int.toNat_natCast] at x0 x1
        clear hy PW
        go_wp2_with (go_at_call 104; (with_reducible refine (impl_pairPlace1.calls y c wr).mono ?_); rintro e w1 ⟨rfl, hb⟩; have B1 := Aside0.mk (below_step BW.out hb); clear hb)
        go_ret2
        refine ⟨?_, B1.out⟩
        rw [HT.out, decide_eq_true hn, ← cmpS_zero]
        rfl
      · clear PW
        go_wp2
        go_ret2
        refine ⟨?_, BW.out⟩
        rw [HT.out, decide_eq_false hn]
        rfl

theorem impl_pairPlace.calls0 (A0 : Option Addr) (c0 : Nat) (l : List S61) (c : ByteArray) (w : World) (hr0 : Kd.C k61 w A0 l.length l) (hc0 : l.length ≤ c0) (hsz : l.length < 4611686018427387904) :
    Calls Try.prog 72 #[.slice A0 l.length c0, .string c] w fun e w' => e = .returned (.tuple #[.int .i64 ((placeP l c l.length 0 l.length : Nat) : Int), .bool (hitP l c)]) ∧ Below w.heap.size w w' := by
  have h := slices_BinarySearchP.calls A0 c0 l c w hr0 hc0 hsz
  go_enter Try.func72, Try.ntmps72
  go_wp2_with (go_at_call 103; (with_reducible refine h.mono ?_); rintro e w1 ⟨rfl, hb⟩; have B1 := Aside0.mk hb; clear hb)
  go_ret2
  exact ⟨rfl, B1.out⟩
theorem impl_pairPlace.M (A0 : Option Addr) (c0 : Nat) (l : List S61) (c : ByteArray) (w : World) (hr0 : Kd.C k61 w A0 l.length l) (hc0 : l.length ≤ c0) (hv : prB l = true) :
    Calls Try.prog 72 #[.slice A0 l.length c0, .string c] w fun e w' => e = .returned (.tuple #[.int .i64 ((atP l c : Nat) : Int), .bool (hitM l c)]) ∧ Below w.heap.size w w' := by
  have h := impl_pairPlace.calls0 A0 c0 l c w hr0 hc0 (by have := prB_len hv; omega)
  unfold hitP at h
  rw [placeP_at hv] at h
  exact h

/-- make([]T, 0, n) -/
theorem make_cap {α : Type} {P : Program} {ops : Array Oper} {Q : Exit → Act → World → Prop} {rest : List Oper} {o : Oper} {a : Act} (d : Kd α) {w0 W : World} (base e : Nat) (hgd : o.guard = none) {N : Tmp} (hd : o.dst = some N) (t : TypeId) (x y : Operand) (ho : o.op = .makeSlice t x y) (n : Nat)
    (hx : a.eval x = .int .i64 0) (hy : a.eval y = .int .i64 (n : Int)) (ht : P.underlying t = some (.slice e)) (z : Value) (bytes : Nat) (hinfo : (P.info? e).map (fun i => (i.zero, i.size, i.bytes)) = some (some z, d.sz, bytes)) (hb0 : 0 < bytes)
    (hl : n * bytes ≤ 281474976710656) (HB : Below base w0 W) (hbase : base ≤ W.heap.size)
    (h : ∀ v1 w1, d.R e w1 base (fun _ => True) v1 [] → Below base w0 w1 → wpList P ops Q rest (a.put o.dst v1) w1) : wpList P ops Q (o :: rest) a W := by
  obtain ⟨i0, hi, hzz⟩ := Option.map_eq_some_iff.1 hinfo
  simp only [Prod.mk.injEq] at hzz
  obtain ⟨hz0, hz1, hz2⟩ := hzz
  have hm : n ≤ 281474976710656 := Nat.le_trans (Nat.le_mul_of_pos_right _ hb0) hl
  have hr := run_make (P := P) W t e i0 z ht hi hz0 .i64 .i64 0 (n : Int) (Int.le_refl _) (by omega)
    (by
      have h3 : ((i0.bytes * n : Nat) : Int) ≤ 281474976710656 := by rw [hz2, Nat.mul_comm]; omega
      rwa [Int.natCast_mul] at h3) (by omega)
  simp only [Int.toNat_zero, Int.toNat_natCast] at hr
  have hown := World.ownsRow_made (base := base) (e := e) (size := i0.size) W (madeCells z.cells (n * i0.size)) n hbase (by unfold maxLen; omega) (size_madeCells _ _)
  rw [hz1] at hown hr
  refine Kd.event_run hgd ?_ (h _ _ ⟨fun _ _ => trivial, [], hown, Reps.none _ _⟩ (HB.alloc hbase _))
  simp [execOp, ho, hx, hy, hr]


/-- sessions as cells of a row that is read are sessions as cells of a row of one's own -/
theorem own_Pair (W : World) (base : Nat) (x : S61) (cs : List Value) (h : k61.K W x cs) : k61.M W base (fun _ => False) x cs := by
  obtain rfl := k61_open h
  exact k61_mkM _ _ _ x

theorem impl_copyOfPair.M (A0 : Option Addr) (c0 : Nat) (l : List S61) (w : World) (hr0 : Kd.C k61 w A0 l.length l) (hc0 : l.length ≤ c0) (hs : l.length ≤ 1000000) :
    Calls Try.prog 73 #[.slice A0 l.length c0] w fun e w' => ∃ v0_ : Value, e = .returned v0_ ∧ Kd.R k61 61 w' w.heap.size (fun _ => True) v0_ l ∧ Below w.heap.size w w' := by
  have HR0 := Aside0.mk hr0
  clear hr0
  go_enter Try.func73, Try.ntmps73
  go_wp2_with ((with_reducible refine gate_builtin (b := .append) (xs := #[.const (.slice none 0 0), .tmp 3]) rfl ?_); at_builtin; refine Kd.R_append_rows k61 (w0 := w) w.heap.size rfl (.const (.slice none 0 0)) (.tmp 3) 31 61 (.agg #[.string (⟨#[]⟩ : ByteArray), .int .i64 0]) 24 rfl Try.underlying31 info61 rfl (by decide) (by omega) (.slice none 0 0) [] l _ _ _ (fun _ => True) (fun _ => False) rfl rfl (Kd.R_nil _ _ _ _ _) HR0.out (fun x cs h => own_Pair _ _ x cs h) (fun _ h => h.elim) (fun _ _ => trivial) (Below.refl _ _) (Nat.le_refl _) (by simp only [List.length_nil]; omega) ?_; intro v1 w1 ho hb hg hat; rw [List.nil_append] at ho; have O := Aside0.mk ho; have B := Aside0.mk hb; clear ho hb hg hat)
  go_ret
  exact ⟨_, rfl, O.out, B.out⟩


theorem impl_PairsIn.M (A0 : Option Addr) (c0 : Nat) (l : List S61) (a b : ByteArray) (w : World) (hr0 : Kd.C k61 w A0 l.length l) (hc0 : l.length ≤ c0) : Calls Try.prog 29 #[.slice A0 l.length c0, .agg #[.string a, .string b]] w fun e w' => ∃ v0, e = .returned v0 ∧ Kd.R k61 61 w' w.heap.size (fun _ => True) v0 (inM l a b) ∧ Below w.heap.size w w' := by
  have B := Aside0.mk (Below.refl w.heap.size w)
  have hu := Try.underlying30
  have HR0 := Aside0.mk hr0
  have HC0 := Aside0.mk hc0
  have L63 := Aside0.mk hr0.2.1
  clear hr0
  obtain ⟨i0, hif, _, hsz0, _⟩ := info_parts info61
  by_cases hvv : (prB l && ivB a b) = true
  · rw [Bool.and_eq_true] at hvv
    obtain ⟨hv, hi⟩ := hvv
    have h48 := prB_len hv
    have hin := in_slice hv hi
    have hle := at_hi (l := l) hi
    have hhl := hiP_le l b
    have hal := atP_le l a
    have hlen : (inM l a b).length = hiP l b - atP l a := by rw [← hin, List.length_drop, List.length_take, Nat.min_eq_left hhl]
    have hin48 : (inM l a b).length ≤ 1000000 := by omega
    have hcc : (inM l a b).length ≤ c0 - atP l a := by omega
    by_cases hb : b.toList = ([] : List UInt8)
    · have hh : hiP l b = l.length := if_pos hb
      have hbb : (b.toList == ([] : List UInt8)) = true := by simp [hb]
      have hcut := cut_mid (P := Try.prog) 31 61 .i64 .i64 Try.underlying31 hif 2 hsz0 A0 l.length c0 ((atP l a : Nat) : Int) ((l.length : Int)) (by omega) (by omega) (by omega) hc0
      rw [Int.toNat_natCast, show ((l.length : Int)).toNat - atP l a = (inM l a b).length by omega] at hcut
      generalize hA2 : (if c0 = atP l a then A0 else A0.map (·.add (atP l a * 2))) = A2 at hcut
      have C2 := Aside0.mk (fun {W : World} (h : Kd.C k61 W A0 l.length l) => show Kd.C k61 W A2 (inM l a b).length (inM l a b) from by
        have h1 := Kd.C_take h (m := hiP l b) (by omega)
        have h2 := Kd.C_drop h1 (m := atP l a) (c := c0) (by rw [List.length_take]; omega) (by rw [List.length_take]; omega)
        rw [hin] at h2
        rw [← hA2]
        exact h2)
      clear hA2 hif hsz0 hc0 hin hlen hh

      go_enter Try.func29, Try.ntmps29
      go_wp2_with (first
        | ((with_reducible refine gate_dst (N := 3) rfl ?_); refine bx ?hg (N := 3) ?hd (cs := #[.string a, .string b]) (t := 30) ?hr B ?_; (case hd => rfl); (case hg => rfl); (case hr => first | (go_simp; done) | (go_simp; rfl)); intro g3 w1 hb B F3 L3 E3; obtain ⟨c3_0, c3_1⟩ := cs2 F3; clear hb E3)
        | (go_at_call 56; with_reducible refine cl (impl_PairsValid.M _ _ l _ (cb HR0 B)) B fun w2 hb B => ?_; replace F3 := bn F3 hb; clear c3_0 c3_1; obtain ⟨c3_0, c3_1⟩ := cs2 F3; clear hb)
        | (go_at_call 55; with_reducible refine cl (impl_IntervalValid.M a b _) B fun w3 hb B => ?_; replace F3 := bn F3 hb; clear c3_0 c3_1; obtain ⟨c3_0, c3_1⟩ := cs2 F3; clear hb)
        | (go_at_call 72; with_reducible refine cl (impl_pairPlace.M _ _ l a _ (cb HR0 B) HC0.out hv) B fun w4 hb B => ?_; replace F3 := bn F3 hb; clear c3_0 c3_1; obtain ⟨c3_0, c3_1⟩ := cs2 F3; clear hb)
        | (go_at_call 73; with_reducible refine cr (impl_copyOfPair.M _ _ (inM l a b) _ (C2.out (cb HR0 B)) hcc hin48) B fun AC5 kC5 w5 hb B RC5 QC5 => ?_; replace F3 := bn F3 hb; clear QC5; clear hb))
      go_ret
      exact ⟨_, rfl, RC5.out, B.out⟩
    · have hh : hiP l b = atP l b := if_neg hb
      have hbb : (b.toList == ([] : List UInt8)) = false := by simp [hb]
      have hcut := cut_mid (P := Try.prog) 31 61 .i64 .i64 Try.underlying31 hif 2 hsz0 A0 l.length c0 ((atP l a : Nat) : Int) (((atP l b : Nat) : Int)) (by omega) (by omega) (by omega) hc0
      rw [Int.toNat_natCast, show (((atP l b : Nat) : Int)).toNat - atP l a = (inM l a b).length by omega] at hcut
      generalize hA2 : (if c0 = atP l a then A0 else A0.map (·.add (atP l a * 2))) = A2 at hcut
      have C2 := Aside0.mk (fun {W : World} (h : Kd.C k61 W A0 l.length l) => show Kd.C k61 W A2 (inM l a b).length (inM l a b) from by
        have h1 := Kd.C_take h (m := hiP l b) (by omega)
        have h2 := Kd.C_drop h1 (m := atP l a) (c := c0) (by rw [List.length_take]; omega) (by rw [List.length_take]; omega)
        rw [hin] at h2
        rw [← hA2]
        exact h2)
      clear hA2 hif hsz0 hc0 hin hlen hh

      go_enter Try.func29, Try.ntmps29
      go_wp2_with (first
        | ((with_reducible refine gate_dst (N := 3) rfl ?_); refine bx ?hg (N := 3) ?hd (cs := #[.string a, .string b]) (t := 30) ?hr B ?_; (case hd => rfl); (case hg => rfl); (case hr => first | (go_simp; done) | (go_simp; rfl)); intro g3 w1 hb B F3 L3 E3; obtain ⟨c3_0, c3_1⟩ := cs2 F3; clear hb E3)
        | (go_at_call 56; with_reducible refine cl (impl_PairsValid.M _ _ l _ (cb HR0 B)) B fun w2 hb B => ?_; replace F3 := bn F3 hb; clear c3_0 c3_1; obtain ⟨c3_0, c3_1⟩ := cs2 F3; clear hb)
        | (go_at_call 55; with_reducible refine cl (impl_IntervalValid.M a b _) B fun w3 hb B => ?_; replace F3 := bn F3 hb; clear c3_0 c3_1; obtain ⟨c3_0, c3_1⟩ := cs2 F3; clear hb)
        | (go_at_call 72; with_reducible refine cl (impl_pairPlace.M _ _ l a _ (cb HR0 B) HC0.out hv) B fun w4 hb B => ?_; replace F3 := bn F3 hb; clear c3_0 c3_1; obtain ⟨c3_0, c3_1⟩ := cs2 F3; clear hb)
        | (go_at_call 72; with_reducible refine cl (impl_pairPlace.M _ _ l b _ (cb HR0 B) HC0.out hv) B fun w5 hb B => ?_; replace F3 := bn F3 hb; clear hb)
        | (go_at_call 73; with_reducible refine cr (impl_copyOfPair.M _ _ (inM l a b) _ (C2.out (cb HR0 B)) hcc hin48) B fun AC6 kC6 w6 hb B RC6 QC6 => ?_; replace F3 := bn F3 hb; clear QC6; clear hb))
      go_ret
      exact ⟨_, rfl, RC6.out, B.out⟩
  · have hM : inM l a b = [] := if_neg hvv
    rw [hM]
    have hvn : prB l = false ∨ ivB a b = false := by grind
    clear hif hsz0 hc0
    go_enter Try.func29, Try.ntmps29
    go_wp2_with (first
      | ((with_reducible refine gate_dst (N := 3) rfl ?_); refine bx ?hg (N := 3) ?hd (cs := #[.string a, .string b]) (t := 30) ?hr B ?_; (case hd => rfl); (case hg => rfl); (case hr => first | (go_simp; done) | (go_simp; rfl)); intro g3 w1 hb B F3 L3 E3; obtain ⟨c3_0, c3_1⟩ := cs2 F3; clear hb E3)
      | (go_at_call 56; with_reducible refine cl (impl_PairsValid.M _ _ l _ (cb HR0 B)) B fun w2 hb B => ?_; replace F3 := bn F3 hb; clear c3_0 c3_1; obtain ⟨c3_0, c3_1⟩ := cs2 F3; clear hb)
      | (go_at_call 55; with_reducible refine cl (impl_IntervalValid.M a b _) B fun w3 hb B => ?_; replace F3 := bn F3 hb; clear hb))
    all_goals first
      | (go_ret; exact ⟨_, rfl, Kd.R_nil _ _ _ _ _, B.out⟩)
      | (exfalso; grind)

/-- sessions as cells of a row that is read are sessions as cells of a row of one's own -/
theorem own_Session (W : World) (base : Nat) (x : S100) (cs : List Value) (h : k100.K W x cs) : k100.M W base (fun _ => False) x cs := by
  obtain rfl := k100_open h
  exact k100_mkM _ _ _ x

theorem impl_copyOfSession.M (A0 : Option Addr) (c0 : Nat) (l : List S100) (w : World) (hr0 : Kd.C k100 w A0 l.length l) (hc0 : l.length ≤ c0) (hs : l.length ≤ 1000000) :
    Calls Try.prog 107 #[.slice A0 l.length c0] w fun e w' => ∃ v0_ : Value, e = .returned v0_ ∧ Kd.R k100 100 w' w.heap.size (fun _ => True) v0_ l ∧ Below w.heap.size w w' := by
  have HR0 := Aside0.mk hr0
  clear hr0
  go_enter Try.func107, Try.ntmps107
  go_wp2_with ((with_reducible refine gate_builtin (b := .append) (xs := #[.const (.slice none 0 0), .tmp 3]) rfl ?_); at_builtin; refine Kd.R_append_rows k100 (w0 := w) w.heap.size rfl (.const (.slice none 0 0)) (.tmp 3) 32 100 (.agg #[.int .i64 0, .int .i64 0, .int .i64 0]) 24 rfl Try.underlying32 info100 rfl (by decide) (by omega) (.slice none 0 0) [] l _ _ _ (fun _ => True) (fun _ => False) rfl rfl (Kd.R_nil _ _ _ _ _) HR0.out (fun x cs h => own_Session _ _ x cs h) (fun _ h => h.elim) (fun _ _ => trivial) (Below.refl _ _) (Nat.le_refl _) (by simp only [List.length_nil]; omega) ?_; intro v1 w1 ho hb hg hat; rw [List.nil_append] at ho; have O := Aside0.mk ho; have B := Aside0.mk hb; clear ho hb hg hat)
  go_ret
  exact ⟨_, rfl, O.out, B.out⟩


def impl_statePart.T1 : Bool × List (List Nat × List Nat) := (true, [([], []), ([], []), ([1], [1]), ([], []), ([2, 3], [2, 3]), ([], []), ([5], [5]), ([6, 4], [6]), ([0, 4, 7], [0, 4, 7]), ([8, 7, 0, 1, 2, 3, 4, 5, 6, 7, 8], [8])])
def impl_statePart.B1 : List Nat := [0, 0, 2, 0, 14, 0, 32, 126, 255, 511]
theorem impl_statePart.tab1 : rtab .any (opsOf Try.f75 1) = impl_statePart.T1 := by kernel_rfl
theorem impl_statePart.bits1 : waitsOk impl_statePart.T1.2 impl_statePart.B1 = true := by kernel_rfl
theorem impl_statePart.M (a b : ByteArray) (AP : Option Addr) (cP : Nat) (ps : List S61) (AS : Option Addr) (cS : Nat) (ss : List S100) (t : Bool) (c : ByteArray) (d f : ByteArray) (w : World) (hrp : Kd.C k61 w AP ps.length ps) (hrs : Kd.C k100 w AS ss.length ss) (hcp : ps.length ≤ cP) (hcs : ss.length ≤ cS) (hsl : ss.length ≤ 1000000) : Calls Try.prog 75 #[.agg #[.string a, .string b, .slice AP ps.length cP, .slice AS ss.length cS, .bool t, .string c], .agg #[.string d, .string f]] w fun e w' => ∃ v2 v3, e = .returned (.agg #[.string d, .string f, v2, v3, .bool false, .string (⟨#[]⟩ : ByteArray)]) ∧ Kd.R k61 61 w' w.heap.size (fun _ => True) v2 (inM ps d f) ∧ Kd.R k100 100 w' w.heap.size (fun _ => True) v3 ss ∧ Below w.heap.size w w' := by
  have B := Aside0.mk (Below.refl w.heap.size w)
  have hu := Try.underlying34
  have hu2 := Try.underlying30
  have HRP := Aside0.mk hrp
  have HRS := Aside0.mk hrs
  have HCP := Aside0.mk hcp
  have HCS := Aside0.mk hcs
  clear hrp hrs hcp hcs
  go_enter Try.func75, Try.ntmps75
  go_wp2_with (first
    | ((with_reducible refine gate_dst (N := 2) rfl ?_); refine bx ?hg (N := 2) ?hd (cs := #[.string a, .string b, .slice AP ps.length cP, .slice AS ss.length cS, .bool t, .string c]) (t := 34) ?hr B ?_; (case hd => rfl); (case hg => rfl); (case hr => first | (go_simp; done) | (go_simp; rfl)); intro g2 w1 hb B F2 L2 E2; obtain ⟨c2_0, c2_1, c2_2, c2_3, c2_4, c2_5⟩ := cs6 F2; clear hb E2)
    | ((with_reducible refine gate_dst (N := 3) rfl ?_); refine bx ?hg (N := 3) ?hd (cs := #[.string d, .string f]) (t := 30) ?hr B ?_; (case hd => rfl); (case hg => rfl); (case hr => first | (go_simp; done) | (go_simp; rfl)); intro g3 w2 hb B F3 L3 E3; replace F2 := bn F2 hb; clear c2_0 c2_1 c2_2 c2_3 c2_4 c2_5; obtain ⟨c2_0, c2_1, c2_2, c2_3, c2_4, c2_5⟩ := cs6 F2; obtain ⟨c3_0, c3_1⟩ := cs2 F3; clear hb E3)
    | ((with_reducible refine gate_dst (N := 4) rfl ?_); refine bx ?hg (N := 4) ?hd (cs := #[.string (⟨#[]⟩ : ByteArray), .string (⟨#[]⟩ : ByteArray), .slice none 0 0, .slice none 0 0, .bool false, .string (⟨#[]⟩ : ByteArray)]) (t := 34) ?hr B ?_; (case hd => rfl); (case hg => rfl); (case hr => first | (go_simp; done) | (go_simp; rfl)); intro g4 w3 hb B F4 L4 E4; have N2_4 := ne1 E4 F2; have N3_4 := ne1 E4 F3; replace F2 := bn F2 hb; replace F3 := bn F3 hb; clear c2_0 c2_1 c2_2 c2_3 c2_4 c2_5; obtain ⟨c2_0, c2_1, c2_2, c2_3, c2_4, c2_5⟩ := cs6 F2; clear c3_0 c3_1; obtain ⟨c3_0, c3_1⟩ := cs2 F3; clear hb E4))
  all_goals (
    refine rg (n := 10) (S := fun W => W.heap[g3]? = some (.cells #[.string d, .string f] 30 (0, 0)) ∧ W.heap[g2]? = some (.cells #[.string a, .string b, .slice AP ps.length cP, .slice AS ss.length cS, .bool t, .string c] 34 (0, 0))) (ds := []) #[false, false, false, false, false, false, false, false, false, false] (by kernel_rfl) rfl rfl ⟨F3.out, F2.out⟩ id B (fun w4 hb B hHeld => ?_)
    refine with_tabW impl_statePart.tab1 impl_statePart.bits1 (fun HT_ HW_ => ?_)
    replace F2 := bn F2 hb
    replace F3 := bn F3 hb
    replace F4 := bn F4 hb
    clear hb
    refine ta (i := 0) (N := some 5) (v := ?_) (bits 10 1) rfl rfl (take_ofW HT_.out HW_.out (by kernel_rfl)) (fun _ _ _ h => h) (by kernel_rfl) hHeld ?_ ?_; rotate_left; (intro w' hS; obtain ⟨s0, s1⟩ := hS; obtain ⟨q0, q1⟩ := cs2 (Aside0.mk s0); go_simp; with_reducible rfl)
    refine pu (i := 1) (N := some 6) (v := ?_) (bits 10 3) rfl rfl (any_of HT_.out (by kernel_rfl)) (fun _ _ _ h => h) (by kernel_rfl) ?_ ?_; rotate_left; (intro w'; go_simp; with_reducible rfl)
    refine ta (i := 2) (N := some 7) (v := ?_) (bits 10 7) rfl rfl (take_ofW HT_.out HW_.out (by kernel_rfl)) (fun _ _ _ h => h) (by kernel_rfl) hHeld ?_ ?_; rotate_left; (intro w' hS; obtain ⟨s0, s1⟩ := hS; obtain ⟨q0, q1, q2, q3, q4, q5⟩ := cs6 (Aside0.mk s1); go_simp; with_reducible rfl)
    refine ta (i := 3) (N := some 8) (v := ?_) (bits 10 15) rfl rfl (take_ofW HT_.out HW_.out (by kernel_rfl)) (fun _ _ _ h => h) (by kernel_rfl) hHeld ?_ ?_; rotate_left; (intro w' hS; obtain ⟨s0, s1⟩ := hS; obtain ⟨q0, q1⟩ := cs2 (Aside0.mk s0); go_simp; with_reducible rfl)
    refine pu (i := 5) (N := some 10) (v := ?_) (bits 10 47) rfl rfl (any_of HT_.out (by kernel_rfl)) (fun _ _ _ h => h) (by kernel_rfl) ?_ ?_; rotate_left; (intro w'; go_simp; with_reducible rfl)
    refine ta (i := 6) (N := some 11) (v := ?_) (bits 10 111) rfl rfl (take_ofW HT_.out HW_.out (by kernel_rfl)) (fun _ _ _ h => h) (by kernel_rfl) hHeld ?_ ?_; rotate_left; (intro w' hS; obtain ⟨s0, s1⟩ := hS; obtain ⟨q0, q1, q2, q3, q4, q5⟩ := cs6 (Aside0.mk s1); go_simp; with_reducible rfl)
    refine norm_ (a' := ?_) ?_ ?_
    rotate_left
    · simp only [Act.put, List.setIfInBounds_toArray, List.set_cons_zero, List.set_cons_succ, i64_w, i32_w]
      rfl
    refine one_ (i := 4) (N := some 9) (bits 10 127) rfl rfl (one_of HT_.out (by kernel_rfl)) (by decide) (fun K hK => ?_)
    refine goes_ Try.func29 (by kernel_rfl) rfl #[.slice AP ps.length cP, .agg #[.string d, .string f]] (by rfl) rfl rfl (by (try simp only [List.map_toArray, List.map_cons, List.map_nil]); rfl) ?_
    with_reducible refine cr (impl_PairsIn.M _ _ ps d f _ (cb HRP B) HCP.out) B fun AI5 kI5 w5 hb B RI5 QI5 => ?_
    replace F2 := bn F2 hb
    replace F3 := bn F3 hb
    replace F4 := bn F4 hb
    clear hb
    refine ⟨_, rfl, ?_⟩
    refine hK.out _ _ ⟨F3.out, F2.out⟩ (fun hHeld => ?_)
    clear hK K
    refine norm_ (a' := ?_) ?_ ?_
    rotate_left
    · show Act.put _ (some 9) _ = _
      simp only [Act.put, List.setIfInBounds_toArray, List.set_cons_zero, List.set_cons_succ, i64_w, i32_w]
      rfl
    clear QI5
    refine one_ (i := 7) (N := some 12) (bits 10 255) rfl rfl (one_of HT_.out (by kernel_rfl)) (by decide) (fun K hK => ?_)
    refine goes_ Try.func107 (by kernel_rfl) rfl #[.slice AS ss.length cS] (by rfl) rfl rfl (by (try simp only [List.map_toArray, List.map_cons, List.map_nil]); rfl) ?_
    with_reducible refine cr (impl_copyOfSession.M _ _ ss _ (cb HRS B) HCS.out (by omega)) B fun AC6 kC6 w6 hb B RC6 QC6 => ?_
    replace F2 := bn F2 hb
    replace F3 := bn F3 hb
    replace F4 := bn F4 hb
    replace RI5 := rn RI5 hb
    clear hb
    refine ⟨_, rfl, ?_⟩
    refine hK.out _ _ ⟨F3.out, F2.out⟩ (fun hHeld => ?_)
    clear hK K
    refine norm_ (a' := ?_) ?_ ?_
    rotate_left
    · show Act.put _ (some 12) _ = _
      simp only [Act.put, List.setIfInBounds_toArray, List.set_cons_zero, List.set_cons_succ, i64_w, i32_w]
      rfl
    clear QC6
    refine pu (i := 8) (N := some 13) (v := ?_) (bits 10 511) rfl rfl (any_of HT_.out (by kernel_rfl)) (fun _ _ _ h => h) (by kernel_rfl) ?_ ?_; rotate_left; (intro w'; go_simp; with_reducible rfl)
    refine norm_ (a' := ?_) ?_ ?_
    rotate_left
    · simp only [Act.put, List.setIfInBounds_toArray, List.set_cons_zero, List.set_cons_succ, i64_w, i32_w]
      rfl
    refine one_ (i := 9) (N := none) (bits 10 1023) rfl rfl (one_of HT_.out (by kernel_rfl)) (by decide) (fun K hK => ?_)
    obtain ⟨y0, y1, y2, y3, y4, y5⟩ := cs6 F4
    have z0 := fz F4 0
    have z1 := fz F4 1
    have z2 := fz F4 2
    have z3 := fz F4 3
    have z4 := fz F4 4
    have z5 := fz F4 5
    refine sxs (g := g4) 0 [.string d, .string f, .slice AI5 (inM ps d f).length kI5, .slice AC6 ss.length kC6, .bool false, .string (⟨#[]⟩ : ByteArray)] [.string d, .string f, .slice AI5 (inM ps d f).length kI5, .slice AC6 ss.length kC6, .bool false, .string (⟨#[]⟩ : ByteArray)] (by rfl) rfl ?hr B F4 L4 rfl (Nat.le_of_ble_eq_true rfl) (fun w7 hk B G => ?_)
    (case hr => first | (go_simp; done) | (go_simp; rfl))
    replace F2 := bk F2 hk N2_4.out
    replace F3 := bk F3 hk N3_4.out
    replace RI5 := rk RI5 F4 (by decide) hk
    replace RC6 := rk RC6 F4 (by decide) hk
    replace F4 := G
    clear hk y0 z0 y1 z1 y2 z2 y3 z3 y4 z4 y5 z5
    refine hK.out _ _ ⟨F3.out, F2.out⟩ (fun hHeld => ?_)
    clear hK K
    refine done_ (done_of HT_.out (by kernel_rfl)) ?_)
  all_goals try go_wp2
  refine bodyPost_ret (results_single rfl (.cell g4 34 _ (0, 0) _ rfl F4.out hu rfl (by kernel_rfl) .nil)) rfl ?_
  exact ⟨_, _, rfl, RI5.out, RC6.out, B.out⟩

/-! Calls that give or write several rows. -/
theorem c2r {P : Program} {F : FuncId} {args : Array Value} {w W : World} {Q : Ending → World → Prop} {α β : Type} {d : Kd α} {d' : Kd β} {e e' : Nat} {xs : List α} {ys : List β} {f : Value → Value → Value} (c : Calls P F args W fun r w' => ∃ v1 v2, r = .returned (f v1 v2) ∧ Kd.R d e w' W.heap.size (fun _ => True) v1 xs ∧ Kd.R d' e' w' W.heap.size (fun _ => True) v2 ys ∧ Below W.heap.size W w') (B : Aside0 (Below w.heap.size w W))
    (h : ∀ A kk A' kk' W', Below W.heap.size W W' → Aside0 (Below w.heap.size w W') → Aside0 (Ow d e W' w.heap.size (.slice A xs.length kk) xs) → Aside0 (Fr W (.slice A xs.length kk)) → Aside0 (Ow d' e' W' w.heap.size (.slice A' ys.length kk') ys) → Aside0 (Fr W (.slice A' ys.length kk')) → Q (.returned (f (.slice A xs.length kk) (.slice A' ys.length kk'))) W') : Calls P F args W Q :=
  c.mono (by
    rintro r W' ⟨v1, v2, rfl, ho, ho', hb⟩
    obtain ⟨A, kk, rfl⟩ := Kd.R_slice ho
    obtain ⟨A', kk', rfl⟩ := Kd.R_slice ho'
    exact h A kk A' kk' W' hb ⟨below_step B.out hb⟩ ⟨Kd.R_lower ho (below_size B.out)⟩ ⟨fun k hk => Kd.R_base ho k hk⟩ ⟨Kd.R_lower ho' (below_size B.out)⟩ ⟨fun k hk => Kd.R_base ho' k hk⟩)
theorem c4r {P : Program} {F : FuncId} {args : Array Value} {w W : World} {Q : Ending → World → Prop} {α β : Type} {d : Kd α} {d' : Kd β} {e e' : Nat} {xs xs2 : List α} {ys ys2 : List β} {f : Value → Value → Value → Value → Value} (c : Calls P F args W fun r w' => ∃ v1 v2 v3 v4, r = .returned (f v1 v2 v3 v4) ∧ Kd.R d e w' W.heap.size (fun _ => True) v1 xs ∧ Kd.R d' e' w' W.heap.size (fun _ => True) v2 ys ∧ Kd.R d e w' W.heap.size (fun _ => True) v3 xs2 ∧ Kd.R d' e' w' W.heap.size (fun _ => True) v4 ys2 ∧ (∀ k_, v3.ownBlock = some k_ → v1.ownBlock = some k_ → False) ∧ (∀ k_, v4.ownBlock = some k_ → v2.ownBlock = some k_ → False) ∧ Below W.heap.size W w') (B : Aside0 (Below w.heap.size w W))
    (h : ∀ A kk A' kk' A2 kk2 A3 kk3 W', Below W.heap.size W W' → Aside0 (Below w.heap.size w W') → Aside0 (Ow d e W' w.heap.size (.slice A xs.length kk) xs) → Aside0 (Fr W (.slice A xs.length kk)) → Aside0 (Ow d' e' W' w.heap.size (.slice A' ys.length kk') ys) → Aside0 (Fr W (.slice A' ys.length kk')) →
      Aside0 (Ow d e W' w.heap.size (.slice A2 xs2.length kk2) xs2) → Aside0 (Fr W (.slice A2 xs2.length kk2)) → Aside0 (Ow d' e' W' w.heap.size (.slice A3 ys2.length kk3) ys2) → Aside0 (Fr W (.slice A3 ys2.length kk3)) →
      Aside0 (∀ k_, (Value.slice A2 xs2.length kk2).ownBlock = some k_ → (Value.slice A xs.length kk).ownBlock = some k_ → False) → Aside0 (∀ k_, (Value.slice A3 ys2.length kk3).ownBlock = some k_ → (Value.slice A' ys.length kk').ownBlock = some k_ → False) →
      Q (.returned (f (.slice A xs.length kk) (.slice A' ys.length kk') (.slice A2 xs2.length kk2) (.slice A3 ys2.length kk3))) W') : Calls P F args W Q :=
  c.mono (by
    rintro r W' ⟨v1, v2, v3, v4, rfl, ho, ho', ho2, ho3, d1, d2, hb⟩
    obtain ⟨A, kk, rfl⟩ := Kd.R_slice ho
    obtain ⟨A', kk', rfl⟩ := Kd.R_slice ho'
    obtain ⟨A2, kk2, rfl⟩ := Kd.R_slice ho2
    obtain ⟨A3, kk3, rfl⟩ := Kd.R_slice ho3
    exact h A kk A' kk' A2 kk2 A3 kk3 W' hb ⟨below_step B.out hb⟩ ⟨Kd.R_lower ho (below_size B.out)⟩ ⟨fun k hk => Kd.R_base ho k hk⟩ ⟨Kd.R_lower ho' (below_size B.out)⟩ ⟨fun k hk => Kd.R_base ho' k hk⟩
      ⟨Kd.R_lower ho2 (below_size B.out)⟩ ⟨fun k hk => Kd.R_base ho2 k hk⟩ ⟨Kd.R_lower ho3 (below_size B.out)⟩ ⟨fun k hk => Kd.R_base ho3 k hk⟩ ⟨d1⟩ ⟨d2⟩)
/-- two rows are written -/
theorem cm2 {P : Program} {F : FuncId} {args : Array Value} {w W : World} {Q : Ending → World → Prop} {α β : Type} {d : Kd α} {d' : Kd β} {t t' : Nat} {xs : List α} {ys : List β} {ok ok' S : Nat → Prop} {v v' u : Value} (c : Calls P F args W fun e w' => e = .returned u ∧ d.R t w' w.heap.size ok v xs ∧ d'.R t' w' w.heap.size ok' v' ys ∧ Below w.heap.size w w' ∧ Kept W w' S)
    (h : ∀ W', Kept W W' S → Aside0 (Below w.heap.size w W') → Aside0 (Ow d t W' w.heap.size v xs) → Aside0 (Ow d' t' W' w.heap.size v' ys) → Q (.returned u) W') : Calls P F args W Q :=
  c.mono (by rintro e W' ⟨rfl, hr, hr', hb, hk⟩; exact h W' hk ⟨hb⟩ ⟨Kd.R_mono hr (fun _ _ => trivial)⟩ ⟨Kd.R_mono hr' (fun _ _ => trivial)⟩)
theorem bkp2 {W W' : World} {α β : Type} {d : Kd α} {d' : Kd β} {e e' b b' g t : Nat} {cs : Array Value} {v v' : Value} {xs : List α} {ys : List β} (F : Aside0 (W.heap[g]? = some (.cells cs t (0, 0)))) (hk : Kept W W' fun k => some k = v.ownBlock ∨ some k = v'.ownBlock) (R : Aside0 (Ow d e W b v xs)) (R' : Aside0 (Ow d' e' W b' v' ys)) (ht : e ≠ t) (ht' : e' ≠ t) : Aside0 (W'.heap[g]? = some (.cells cs t (0, 0))) :=
  ⟨blk_kept F.out hk (fun h => h.elim (Kd.R_ne R.out F.out ht) (Kd.R_ne R'.out F.out ht'))⟩
theorem rkp2 {W W' : World} {β : Type} {d' : Kd β} {e' b' : Nat} {v v' v2 : Value} {ys : List β} (R' : Aside0 (Ow d' e' W b' v' ys)) (hE : d'.E = []) (hk : Kept W W' fun k => some k = v.ownBlock ∨ some k = v2.ownBlock) (ne : ∀ k, v'.ownBlock = some k → v.ownBlock = some k → False) (ne2 : ∀ k, v'.ownBlock = some k → v2.ownBlock = some k → False) : Aside0 (Ow d' e' W' b' v' ys) :=
  ⟨Kd.R_mono (Kd.R_kept (Kd.R_tight hE R'.out) hk (fun k h1 h2 => h2.elim (fun h2 => ne k h1.symm h2.symm) (fun h2 => ne2 k h1.symm h2.symm))) (fun _ _ => trivial)⟩

def impl_StateCut.T6 : Bool × List (List Nat × List Nat) := (true, [([], []), ([], []), ([0, 1], [0, 1]), ([], []), ([], []), ([3, 4, 2], [3, 4]), ([2, 5, 0, 1, 2], [2]), ([5, 6, 0, 1, 2, 3, 4, 5, 6], [5]), ([7, 0, 1, 2, 3, 4, 5, 6, 7], [])])
def impl_StateCut.B6 : List Nat := [0, 0, 3, 0, 0, 31, 63, 127, 255]
theorem impl_StateCut.tab6 : rtab .any (opsOf Try.f31 6) = impl_StateCut.T6 := by kernel_rfl
theorem impl_StateCut.bits6 : waitsOk impl_StateCut.T6.2 impl_StateCut.B6 = true := by kernel_rfl
theorem impl_StateCut.Mt (a b : ByteArray) (AP : Option Addr) (cP : Nat) (ps : List S61) (AS : Option Addr) (cS : Nat) (ss : List S100) (c : ByteArray) (w : World) (hrp : Kd.C k61 w AP ps.length ps) (hrs : Kd.C k100 w AS ss.length ss) (hcp : ps.length ≤ cP) (hcs : ss.length ≤ cS) (hs : stB a b ps ss true c = true) (hcut : cutB a b c = true) : Calls Try.prog 31 #[.agg #[.string a, .string b, .slice AP ps.length cP, .slice AS ss.length cS, .bool true, .string c]] w fun e w' => ∃ v2 v3 v4 v5, e = .returned (.tuple #[.agg #[.string (csM ⟨a, b, ps, ss, true, c⟩).1.a, .string (csM ⟨a, b, ps, ss, true, c⟩).1.b, v2, v3, .bool (csM ⟨a, b, ps, ss, true, c⟩).1.t, .string (csM ⟨a, b, ps, ss, true, c⟩).1.c], .agg #[.string (csM ⟨a, b, ps, ss, true, c⟩).2.1.a, .string (csM ⟨a, b, ps, ss, true, c⟩).2.1.b, v4, v5, .bool (csM ⟨a, b, ps, ss, true, c⟩).2.1.t, .string (csM ⟨a, b, ps, ss, true, c⟩).2.1.c], .bool (csM ⟨a, b, ps, ss, true, c⟩).2.2]) ∧ Kd.R k61 61 w' w.heap.size (fun _ => True) v2 (csM ⟨a, b, ps, ss, true, c⟩).1.ps ∧ Kd.R k100 100 w' w.heap.size (fun _ => True) v3 (csM ⟨a, b, ps, ss, true, c⟩).1.ss ∧ Kd.R k61 61 w' w.heap.size (fun _ => True) v4 (csM ⟨a, b, ps, ss, true, c⟩).2.1.ps ∧ Kd.R k100 100 w' w.heap.size (fun _ => True) v5 (csM ⟨a, b, ps, ss, true, c⟩).2.1.ss ∧ (∀ k_, v4.ownBlock = some k_ → v2.ownBlock = some k_ → False) ∧ (∀ k_, v5.ownBlock = some k_ → v3.ownBlock = some k_ → False) ∧ Below w.heap.size w w' := by
  have B := Aside0.mk (Below.refl w.heap.size w)
  have hu := Try.underlying34
  have hu2 := Try.underlying30
  have HRP := Aside0.mk hrp
  have HRS := Aside0.mk hrs
  have HCP := Aside0.mk hcp
  have HCS := Aside0.mk hcs
  clear hrp hrs hcp hcs
  have hsl : ss.length ≤ 1000000 := by
    have := sesB_len (stB_parts.mp hs).2.2.1
    omega
  have hce : (c.toList == ([] : List UInt8)) = false := by have := keyB_ne (cutB_parts hcut).2.1; simp [this]
  rw [show csM ⟨a, b, ps, ss, true, c⟩ = (⟨a, c, inM ps a c, ss, false, ⟨#[]⟩⟩, ⟨c, b, inM ps c b, ss, false, ⟨#[]⟩⟩, true) from if_pos (by unfold cutOk SM.ok; rw [hs, hcut]; rfl)]
  go_enter Try.func31, Try.ntmps31
  go_wp2_with (first
    | ((with_reducible refine gate_dst (N := 1) rfl ?_); refine bx ?hg (N := 1) ?hd (cs := #[.string a, .string b, .slice AP ps.length cP, .slice AS ss.length cS, .bool true, .string c]) (t := 34) ?hr B ?_; (case hd => rfl); (case hg => rfl); (case hr => first | (go_simp; done) | (go_simp; rfl)); intro g1 w1 hb B F1 L1 E1; obtain ⟨c1_0, c1_1, c1_2, c1_3, c1_4, c1_5⟩ := cs6 F1; clear hb E1)
    | ((with_reducible refine gate_dst (N := 2) rfl ?_); refine bx ?hg (N := 2) ?hd (cs := #[.string (⟨#[]⟩ : ByteArray), .string (⟨#[]⟩ : ByteArray), .slice none 0 0, .slice none 0 0, .bool false, .string (⟨#[]⟩ : ByteArray)]) (t := 34) ?hr B ?_; (case hd => rfl); (case hg => rfl); (case hr => first | (go_simp; done) | (go_simp; rfl)); intro g2 w2 hb B F2 L2 E2; have N1_2 := ne1 E2 F1; replace F1 := bn F1 hb; clear c1_0 c1_1 c1_2 c1_3 c1_4 c1_5; obtain ⟨c1_0, c1_1, c1_2, c1_3, c1_4, c1_5⟩ := cs6 F1; clear hb E2)
    | ((with_reducible refine gate_dst (N := 3) rfl ?_); refine bx ?hg (N := 3) ?hd (cs := #[.string (⟨#[]⟩ : ByteArray), .string (⟨#[]⟩ : ByteArray), .slice none 0 0, .slice none 0 0, .bool false, .string (⟨#[]⟩ : ByteArray)]) (t := 34) ?hr B ?_; (case hd => rfl); (case hg => rfl); (case hr => first | (go_simp; done) | (go_simp; rfl)); intro g3 w3 hb B F3 L3 E3; have N1_3 := ne1 E3 F1; have N2_3 := ne1 E3 F2; replace F1 := bn F1 hb; replace F2 := bn F2 hb; clear c1_0 c1_1 c1_2 c1_3 c1_4 c1_5; obtain ⟨c1_0, c1_1, c1_2, c1_3, c1_4, c1_5⟩ := cs6 F1; clear hb E3)
    | (go_at_call 14; with_reducible refine cl (impl_StateValid.M a b _ _ ps _ _ ss true c _ (cb HRP B) (cb HRS B)) B fun w4 hb B => ?_; replace F1 := bn F1 hb; replace F2 := bn F2 hb; replace F3 := bn F3 hb; clear c1_0 c1_1 c1_2 c1_3 c1_4 c1_5; obtain ⟨c1_0, c1_1, c1_2, c1_3, c1_4, c1_5⟩ := cs6 F1; clear hb)
    | (go_at_call 59; with_reducible refine cl (impl_IntervalCut.Mt a b c hcut _) B fun w5 hb B => ?_; replace F1 := bn F1 hb; replace F2 := bn F2 hb; replace F3 := bn F3 hb; clear c1_0 c1_1 c1_2 c1_3 c1_4 c1_5; obtain ⟨c1_0, c1_1, c1_2, c1_3, c1_4, c1_5⟩ := cs6 F1; clear hb)
    | ((with_reducible refine gate_dst (N := 5) rfl ?_); refine bx ?hg (N := 5) ?hd (cs := #[.string (⟨#[]⟩ : ByteArray), .string (⟨#[]⟩ : ByteArray)]) (t := 30) ?hr B ?_; (case hd => rfl); (case hg => rfl); (case hr => first | (go_simp; done) | (go_simp; rfl)); intro g5 w6 hb B F5 L5 E5; have N1_5 := ne1 E5 F1; have N2_5 := ne1 E5 F2; have N3_5 := ne1 E5 F3; replace F1 := bn F1 hb; replace F2 := bn F2 hb; replace F3 := bn F3 hb; clear c1_0 c1_1 c1_2 c1_3 c1_4 c1_5; obtain ⟨c1_0, c1_1, c1_2, c1_3, c1_4, c1_5⟩ := cs6 F1; obtain ⟨c5_0, c5_1⟩ := cs2 F5; clear hb E5)
    | ((with_reducible refine gate_dst (N := 6) rfl ?_); refine bx ?hg (N := 6) ?hd (cs := #[.string (⟨#[]⟩ : ByteArray), .string (⟨#[]⟩ : ByteArray)]) (t := 30) ?hr B ?_; (case hd => rfl); (case hg => rfl); (case hr => first | (go_simp; done) | (go_simp; rfl)); intro g6 w7 hb B F6 L6 E6; have N1_6 := ne1 E6 F1; have N2_6 := ne1 E6 F2; have N3_6 := ne1 E6 F3; have N5_6 := ne1 E6 F5; replace F1 := bn F1 hb; replace F2 := bn F2 hb; replace F3 := bn F3 hb; replace F5 := bn F5 hb; clear c1_0 c1_1 c1_2 c1_3 c1_4 c1_5; obtain ⟨c1_0, c1_1, c1_2, c1_3, c1_4, c1_5⟩ := cs6 F1; clear c5_0 c5_1; obtain ⟨c5_0, c5_1⟩ := cs2 F5; obtain ⟨c6_0, c6_1⟩ := cs2 F6; clear hb E6)
    | ((with_reducible refine gate_store (t := 30) (p := 5) rfl ?_); obtain ⟨y0, y1⟩ := cs2 F5; have z0 := fz F5 0; have z1 := fz F5 1; refine sx (t := 30) (t' := 30) (p := 5) (v := ?vo8) ?hg ?ho ?hn 0 [.string a, .string c] [.string a, .string c] ?hr B F5 L5 rfl (Nat.le_of_ble_eq_true rfl) ?_; (case ho => rfl); (case hg => rfl); (case hn => rfl); (case hr => first | (go_simp; done) | (go_simp; rfl)); intro w8 hk B G; replace F1 := bk F1 hk N1_5.out; replace F2 := bk F2 hk N2_5.out; replace F3 := bk F3 hk N3_5.out; replace F6 := bk F6 hk N5_6.out.symm; replace F5 := G; clear c1_0 c1_1 c1_2 c1_3 c1_4 c1_5; obtain ⟨c1_0, c1_1, c1_2, c1_3, c1_4, c1_5⟩ := cs6 F1; clear c5_0 c5_1; obtain ⟨c5_0, c5_1⟩ := cs2 F5; clear c6_0 c6_1; obtain ⟨c6_0, c6_1⟩ := cs2 F6; clear hk y0 z0 y1 z1)
    | ((with_reducible refine gate_store (t := 30) (p := 6) rfl ?_); obtain ⟨y0, y1⟩ := cs2 F6; have z0 := fz F6 0; have z1 := fz F6 1; refine sx (t := 30) (t' := 30) (p := 6) (v := ?vo9) ?hg ?ho ?hn 0 [.string c, .string b] [.string c, .string b] ?hr B F6 L6 rfl (Nat.le_of_ble_eq_true rfl) ?_; (case ho => rfl); (case hg => rfl); (case hn => rfl); (case hr => first | (go_simp; done) | (go_simp; rfl)); intro w9 hk B G; replace F1 := bk F1 hk N1_6.out; replace F2 := bk F2 hk N2_6.out; replace F3 := bk F3 hk N3_6.out; replace F5 := bk F5 hk N5_6.out; replace F6 := G; clear c1_0 c1_1 c1_2 c1_3 c1_4 c1_5; obtain ⟨c1_0, c1_1, c1_2, c1_3, c1_4, c1_5⟩ := cs6 F1; clear c5_0 c5_1; obtain ⟨c5_0, c5_1⟩ := cs2 F5; clear c6_0 c6_1; obtain ⟨c6_0, c6_1⟩ := cs2 F6; clear hk y0 z0 y1 z1))
  all_goals (
    refine rg (n := 9) (S := fun W => W.heap[g1]? = some (.cells #[.string a, .string b, .slice AP ps.length cP, .slice AS ss.length cS, .bool true, .string c] 34 (0, 0)) ∧ W.heap[g5]? = some (.cells #[.string a, .string c] 30 (0, 0)) ∧ W.heap[g6]? = some (.cells #[.string c, .string b] 30 (0, 0))) (ds := []) #[false, false, false, false, false, false, false, false, false] (by kernel_rfl) rfl rfl ⟨F1.out, F5.out, F6.out⟩ id B (fun w10 hb B hHeld => ?_)
    refine with_tabW impl_StateCut.tab6 impl_StateCut.bits6 (fun HT_ HW_ => ?_)
    replace F1 := bn F1 hb
    replace F2 := bn F2 hb
    replace F3 := bn F3 hb
    replace F5 := bn F5 hb
    replace F6 := bn F6 hb
    clear hb
    refine ta (i := 0) (N := some 36) (v := ?_) (bits 9 1) rfl rfl (take_ofW HT_.out HW_.out (by kernel_rfl)) (fun _ _ _ h => h) (by kernel_rfl) hHeld ?_ ?_; rotate_left; (intro w' hS; obtain ⟨s0, s1, s2⟩ := hS; obtain ⟨q0, q1, q2, q3, q4, q5⟩ := cs6 (Aside0.mk s0); go_simp; with_reducible rfl)
    refine ta (i := 1) (N := some 37) (v := ?_) (bits 9 3) rfl rfl (take_ofW HT_.out HW_.out (by kernel_rfl)) (fun _ _ _ h => h) (by kernel_rfl) hHeld ?_ ?_; rotate_left; (intro w' hS; obtain ⟨s0, s1, s2⟩ := hS; obtain ⟨q0, q1⟩ := cs2 (Aside0.mk s1); go_simp; with_reducible rfl)
    refine ta (i := 3) (N := some 39) (v := ?_) (bits 9 11) rfl rfl (take_ofW HT_.out HW_.out (by kernel_rfl)) (fun _ _ _ h => h) (by kernel_rfl) hHeld ?_ ?_; rotate_left; (intro w' hS; obtain ⟨s0, s1, s2⟩ := hS; obtain ⟨q0, q1, q2, q3, q4, q5⟩ := cs6 (Aside0.mk s0); go_simp; with_reducible rfl)
    refine ta (i := 4) (N := some 40) (v := ?_) (bits 9 27) rfl rfl (take_ofW HT_.out HW_.out (by kernel_rfl)) (fun _ _ _ h => h) (by kernel_rfl) hHeld ?_ ?_; rotate_left; (intro w' hS; obtain ⟨s0, s1, s2⟩ := hS; obtain ⟨q0, q1⟩ := cs2 (Aside0.mk s2); go_simp; with_reducible rfl)
    refine norm_ (a' := ?_) ?_ ?_
    rotate_left
    · simp only [Act.put, List.setIfInBounds_toArray, List.set_cons_zero, List.set_cons_succ, i64_w, i32_w]
      rfl
    refine one_ (i := 2) (N := some 38) (bits 9 31) rfl rfl (one_of HT_.out (by kernel_rfl)) (by decide) (fun K hK => ?_)
    refine goes_ Try.func75 (by kernel_rfl) rfl #[.agg #[.string a, .string b, .slice AP ps.length cP, .slice AS ss.length cS, .bool true, .string c], .agg #[.string a, .string c]] (by rfl) rfl rfl (by (try simp only [List.map_toArray, List.map_cons, List.map_nil]); rfl) ?_
    with_reducible refine c2r (impl_statePart.M a b _ _ ps _ _ ss true c a c _ (cb HRP B) (cb HRS B) HCP.out HCS.out hsl) B fun AP11 kP11 AS11 kS11 w11 hb B RP11 QP11 RS11 QS11 => ?_
    replace F1 := bn F1 hb
    replace F2 := bn F2 hb
    replace F3 := bn F3 hb
    replace F5 := bn F5 hb
    replace F6 := bn F6 hb
    clear hb
    refine ⟨_, rfl, ?_⟩
    refine hK.out _ _ ⟨F1.out, F5.out, F6.out⟩ (fun hHeld => ?_)
    clear hK K
    refine norm_ (a' := ?_) ?_ ?_
    rotate_left
    · show Act.put _ (some 38) _ = _
      simp only [Act.put, List.setIfInBounds_toArray, List.set_cons_zero, List.set_cons_succ, i64_w, i32_w]
      rfl
    clear QP11 QS11
    refine one_ (i := 5) (N := some 41) (bits 9 63) rfl rfl (one_of HT_.out (by kernel_rfl)) (by decide) (fun K hK => ?_)
    refine goes_ Try.func75 (by kernel_rfl) rfl #[.agg #[.string a, .string b, .slice AP ps.length cP, .slice AS ss.length cS, .bool true, .string c], .agg #[.string c, .string b]] (by rfl) rfl rfl (by (try simp only [List.map_toArray, List.map_cons, List.map_nil]); rfl) ?_
    with_reducible refine c2r (impl_statePart.M a b _ _ ps _ _ ss true c c b _ (cb HRP B) (cb HRS B) HCP.out HCS.out hsl) B fun AP12 kP12 AS12 kS12 w12 hb B RP12 QP12 RS12 QS12 => ?_
    have DP11_P12 := fr QP12 RP11
    have DS11_P12 := fr QP12 RS11
    have DP11_S12 := fr QS12 RP11
    have DS11_S12 := fr QS12 RS11
    replace F1 := bn F1 hb
    replace F2 := bn F2 hb
    replace F3 := bn F3 hb
    replace F5 := bn F5 hb
    replace F6 := bn F6 hb
    replace RP11 := rn RP11 hb
    replace RS11 := rn RS11 hb
    clear hb
    refine ⟨_, rfl, ?_⟩
    refine hK.out _ _ ⟨F1.out, F5.out, F6.out⟩ (fun hHeld => ?_)
    clear hK K
    refine norm_ (a' := ?_) ?_ ?_
    rotate_left
    · show Act.put _ (some 41) _ = _
      simp only [Act.put, List.setIfInBounds_toArray, List.set_cons_zero, List.set_cons_succ, i64_w, i32_w]
      rfl
    clear QP12 QS12
    refine one_ (i := 6) (N := none) (bits 9 127) rfl rfl (one_of HT_.out (by kernel_rfl)) (by decide) (fun K hK => ?_)
    obtain ⟨y0, y1, y2, y3, y4, y5⟩ := cs6 F2
    have z0 := fz F2 0
    have z1 := fz F2 1
    have z2 := fz F2 2
    have z3 := fz F2 3
    have z4 := fz F2 4
    have z5 := fz F2 5
    refine sxs (g := g2) 0 [.string a, .string c, .slice AP11 (inM ps a c).length kP11, .slice AS11 ss.length kS11, .bool false, .string (⟨#[]⟩ : ByteArray)] [.string a, .string c, .slice AP11 (inM ps a c).length kP11, .slice AS11 ss.length kS11, .bool false, .string (⟨#[]⟩ : ByteArray)] (by rfl) rfl ?hr B F2 L2 rfl (Nat.le_of_ble_eq_true rfl) (fun w13 hk B G => ?_)
    (case hr => first | (go_simp; done) | (go_simp; rfl))
    replace F1 := bk F1 hk N1_2.out
    replace F3 := bk F3 hk N2_3.out.symm
    replace F5 := bk F5 hk N2_5.out.symm
    replace F6 := bk F6 hk N2_6.out.symm
    replace RP11 := rk RP11 F2 (by decide) hk
    replace RS11 := rk RS11 F2 (by decide) hk
    replace RP12 := rk RP12 F2 (by decide) hk
    replace RS12 := rk RS12 F2 (by decide) hk
    replace F2 := G
    clear hk y0 z0 y1 z1 y2 z2 y3 z3 y4 z4 y5 z5
    refine hK.out _ _ ⟨F1.out, F5.out, F6.out⟩ (fun hHeld => ?_)
    clear hK K
    refine one_ (i := 7) (N := none) (bits 9 255) rfl rfl (one_of HT_.out (by kernel_rfl)) (by decide) (fun K hK => ?_)
    obtain ⟨y0, y1, y2, y3, y4, y5⟩ := cs6 F3
    have z0 := fz F3 0
    have z1 := fz F3 1
    have z2 := fz F3 2
    have z3 := fz F3 3
    have z4 := fz F3 4
    have z5 := fz F3 5
    refine sxs (g := g3) 0 [.string c, .string b, .slice AP12 (inM ps c b).length kP12, .slice AS12 ss.length kS12, .bool false, .string (⟨#[]⟩ : ByteArray)] [.string c, .string b, .slice AP12 (inM ps c b).length kP12, .slice AS12 ss.length kS12, .bool false, .string (⟨#[]⟩ : ByteArray)] (by rfl) rfl ?hr B F3 L3 rfl (Nat.le_of_ble_eq_true rfl) (fun w14 hk B G => ?_)
    (case hr => first | (go_simp; done) | (go_simp; rfl))
    replace F1 := bk F1 hk N1_3.out
    replace F2 := bk F2 hk N2_3.out
    replace F5 := bk F5 hk N3_5.out.symm
    replace F6 := bk F6 hk N3_6.out.symm
    replace RP11 := rk RP11 F3 (by decide) hk
    replace RS11 := rk RS11 F3 (by decide) hk
    replace RP12 := rk RP12 F3 (by decide) hk
    replace RS12 := rk RS12 F3 (by decide) hk
    replace F3 := G
    clear hk y0 z0 y1 z1 y2 z2 y3 z3 y4 z4 y5 z5
    refine hK.out _ _ ⟨F1.out, F5.out, F6.out⟩ (fun hHeld => ?_)
    clear hK K
    refine pu (i := 8) (N := some 4) (v := ?_) (bits 9 511) rfl rfl (any_of HT_.out (by kernel_rfl)) (fun _ _ _ h => h) (by kernel_rfl) ?_ ?_; rotate_left; (intro w'; go_simp; with_reducible rfl)
    refine norm_ (a' := ?_) ?_ ?_
    rotate_left
    · simp only [Act.put, List.setIfInBounds_toArray, List.set_cons_zero, List.set_cons_succ, i64_w, i32_w]
      rfl
    refine done_ (done_of HT_.out (by kernel_rfl)) ?_)
  all_goals try go_wp2
  refine bodyPost_ret (results_list (rs := [.cell 2 34, .cell 3 34, .tmp 4]) rfl (by simp) (.cell g2 34 _ (0, 0) _ rfl F2.out hu rfl (by kernel_rfl) (.cell g3 34 _ (0, 0) _ rfl F3.out hu rfl (by kernel_rfl) (.tmp .nil)))) rfl ?_
  exact ⟨_, _, _, _, rfl, RP11.out, RS11.out, RP12.out, RS12.out, DP11_P12.out, DS11_S12.out, B.out⟩
theorem impl_StateCut.M (a b : ByteArray) (AP : Option Addr) (cP : Nat) (ps : List S61) (AS : Option Addr) (cS : Nat) (ss : List S100) (t : Bool) (c : ByteArray) (w : World) (hrp : Kd.C k61 w AP ps.length ps) (hrs : Kd.C k100 w AS ss.length ss) (hcp : ps.length ≤ cP) (hcs : ss.length ≤ cS) : Calls Try.prog 31 #[.agg #[.string a, .string b, .slice AP ps.length cP, .slice AS ss.length cS, .bool t, .string c]] w fun e w' => ∃ v2 v3 v4 v5, e = .returned (.tuple #[.agg #[.string (csM ⟨a, b, ps, ss, t, c⟩).1.a, .string (csM ⟨a, b, ps, ss, t, c⟩).1.b, v2, v3, .bool (csM ⟨a, b, ps, ss, t, c⟩).1.t, .string (csM ⟨a, b, ps, ss, t, c⟩).1.c], .agg #[.string (csM ⟨a, b, ps, ss, t, c⟩).2.1.a, .string (csM ⟨a, b, ps, ss, t, c⟩).2.1.b, v4, v5, .bool (csM ⟨a, b, ps, ss, t, c⟩).2.1.t, .string (csM ⟨a, b, ps, ss, t, c⟩).2.1.c], .bool (csM ⟨a, b, ps, ss, t, c⟩).2.2]) ∧ Kd.R k61 61 w' w.heap.size (fun _ => True) v2 (csM ⟨a, b, ps, ss, t, c⟩).1.ps ∧ Kd.R k100 100 w' w.heap.size (fun _ => True) v3 (csM ⟨a, b, ps, ss, t, c⟩).1.ss ∧ Kd.R k61 61 w' w.heap.size (fun _ => True) v4 (csM ⟨a, b, ps, ss, t, c⟩).2.1.ps ∧ Kd.R k100 100 w' w.heap.size (fun _ => True) v5 (csM ⟨a, b, ps, ss, t, c⟩).2.1.ss ∧ (∀ k_, v4.ownBlock = some k_ → v2.ownBlock = some k_ → False) ∧ (∀ k_, v5.ownBlock = some k_ → v3.ownBlock = some k_ → False) ∧ Below w.heap.size w w' := by
  have B := Aside0.mk (Below.refl w.heap.size w)
  cases hs : stB a b ps ss t c with
  | false =>
    rw [cs_bad (show cutOk ⟨a, b, ps, ss, t, c⟩ = false by unfold cutOk SM.ok; rw [hs]; rfl)]
    have hu := Try.underlying34
    have hu2 := Try.underlying30
    have HRP := Aside0.mk hrp
    have HRS := Aside0.mk hrs
    have HCP := Aside0.mk hcp
    have HCS := Aside0.mk hcs
    clear hrp hrs hcp hcs
    go_enter Try.func31, Try.ntmps31
    go_wp2_with (first
      | ((with_reducible refine gate_dst (N := 1) rfl ?_); refine bx ?hg (N := 1) ?hd (cs := #[.string a, .string b, .slice AP ps.length cP, .slice AS ss.length cS, .bool t, .string c]) (t := 34) ?hr B ?_; (case hd => rfl); (case hg => rfl); (case hr => first | (go_simp; done) | (go_simp; rfl)); intro g1 w1001 hb B F1 L1 E1; obtain ⟨c1_0, c1_1, c1_2, c1_3, c1_4, c1_5⟩ := cs6 F1; clear hb E1)
      | ((with_reducible refine gate_dst (N := 2) rfl ?_); refine bx ?hg (N := 2) ?hd (cs := #[.string (⟨#[]⟩ : ByteArray), .string (⟨#[]⟩ : ByteArray), .slice none 0 0, .slice none 0 0, .bool false, .string (⟨#[]⟩ : ByteArray)]) (t := 34) ?hr B ?_; (case hd => rfl); (case hg => rfl); (case hr => first | (go_simp; done) | (go_simp; rfl)); intro g2 w1002 hb B F2 L2 E2; have N1_2 := ne1 E2 F1; replace F1 := bn F1 hb; clear c1_0 c1_1 c1_2 c1_3 c1_4 c1_5; obtain ⟨c1_0, c1_1, c1_2, c1_3, c1_4, c1_5⟩ := cs6 F1; clear hb E2)
      | ((with_reducible refine gate_dst (N := 3) rfl ?_); refine bx ?hg (N := 3) ?hd (cs := #[.string (⟨#[]⟩ : ByteArray), .string (⟨#[]⟩ : ByteArray), .slice none 0 0, .slice none 0 0, .bool false, .string (⟨#[]⟩ : ByteArray)]) (t := 34) ?hr B ?_; (case hd => rfl); (case hg => rfl); (case hr => first | (go_simp; done) | (go_simp; rfl)); intro g3 w1003 hb B F3 L3 E3; have N1_3 := ne1 E3 F1; have N2_3 := ne1 E3 F2; replace F1 := bn F1 hb; replace F2 := bn F2 hb; clear c1_0 c1_1 c1_2 c1_3 c1_4 c1_5; obtain ⟨c1_0, c1_1, c1_2, c1_3, c1_4, c1_5⟩ := cs6 F1; clear hb E3)
      | (go_at_call 14; with_reducible refine cl (impl_StateValid.M a b _ _ ps _ _ ss t c _ (cb HRP B) (cb HRS B)) B fun w1004 hb B => ?_; replace F1 := bn F1 hb; replace F2 := bn F2 hb; replace F3 := bn F3 hb; clear c1_0 c1_1 c1_2 c1_3 c1_4 c1_5; obtain ⟨c1_0, c1_1, c1_2, c1_3, c1_4, c1_5⟩ := cs6 F1; clear hb)
      | ((with_reducible refine gate_store (t := 34) (p := 2) rfl ?_); obtain ⟨y0, y1, y2, y3, y4, y5⟩ := cs6 F2; have z0 := fz F2 0; have z1 := fz F2 1; have z2 := fz F2 2; have z3 := fz F2 3; have z4 := fz F2 4; have z5 := fz F2 5; refine sx (t := 34) (t' := 34) (p := 2) (v := ?vo1005) ?hg ?ho ?hn 0 [.string (⟨#[]⟩ : ByteArray), .string (⟨#[]⟩ : ByteArray), .slice none 0 0, .slice none 0 0, .bool false, .string (⟨#[]⟩ : ByteArray)] [.string (⟨#[]⟩ : ByteArray), .string (⟨#[]⟩ : ByteArray), .slice none 0 0, .slice none 0 0, .bool false, .string (⟨#[]⟩ : ByteArray)] ?hr B F2 L2 rfl (Nat.le_of_ble_eq_true rfl) ?_; (case ho => rfl); (case hg => rfl); (case hn => rfl); (case hr => first | (go_simp; done) | (go_simp; rfl)); intro w1005 hk B G; replace F1 := bk F1 hk N1_2.out; replace F3 := bk F3 hk N2_3.out.symm; replace F2 := G; clear hk y0 z0 y1 z1 y2 z2 y3 z3 y4 z4 y5 z5)
      | ((with_reducible refine gate_store (t := 34) (p := 3) rfl ?_); obtain ⟨y0, y1, y2, y3, y4, y5⟩ := cs6 F3; have z0 := fz F3 0; have z1 := fz F3 1; have z2 := fz F3 2; have z3 := fz F3 3; have z4 := fz F3 4; have z5 := fz F3 5; refine sx (t := 34) (t' := 34) (p := 3) (v := ?vo1006) ?hg ?ho ?hn 0 [.string (⟨#[]⟩ : ByteArray), .string (⟨#[]⟩ : ByteArray), .slice none 0 0, .slice none 0 0, .bool false, .string (⟨#[]⟩ : ByteArray)] [.string (⟨#[]⟩ : ByteArray), .string (⟨#[]⟩ : ByteArray), .slice none 0 0, .slice none 0 0, .bool false, .string (⟨#[]⟩ : ByteArray)] ?hr B F3 L3 rfl (Nat.le_of_ble_eq_true rfl) ?_; (case ho => rfl); (case hg => rfl); (case hn => rfl); (case hr => first | (go_simp; done) | (go_simp; rfl)); intro w1006 hk B G; replace F1 := bk F1 hk N1_3.out; replace F2 := bk F2 hk N2_3.out; replace F3 := G; clear hk y0 z0 y1 z1 y2 z2 y3 z3 y4 z4 y5 z5))
    all_goals (refine bodyPost_ret (results_list (rs := [.cell 2 34, .cell 3 34, .tmp 4]) rfl (by simp) (.cell g2 34 _ (0, 0) _ rfl F2.out hu rfl (by kernel_rfl) (.cell g3 34 _ (0, 0) _ rfl F3.out hu rfl (by kernel_rfl) (.tmp .nil)))) rfl ?_; exact ⟨_, _, _, _, rfl, Kd.R_nil _ _ _ _ _, Kd.R_nil _ _ _ _ _, Kd.R_nil _ _ _ _ _, Kd.R_nil _ _ _ _ _, (fun _ h => nomatch h), (fun _ h => nomatch h), B.out⟩)
  | true =>
    cases t with
    | false =>
      rw [cs_bad (show cutOk ⟨a, b, ps, ss, false, c⟩ = false by unfold cutOk SM.ok; rw [hs]; rfl)]
      have hu := Try.underlying34
      have hu2 := Try.underlying30
      have HRP := Aside0.mk hrp
      have HRS := Aside0.mk hrs
      have HCP := Aside0.mk hcp
      have HCS := Aside0.mk hcs
      clear hrp hrs hcp hcs
      go_enter Try.func31, Try.ntmps31
      go_wp2_with (first
        | ((with_reducible refine gate_dst (N := 1) rfl ?_); refine bx ?hg (N := 1) ?hd (cs := #[.string a, .string b, .slice AP ps.length cP, .slice AS ss.length cS, .bool false, .string c]) (t := 34) ?hr B ?_; (case hd => rfl); (case hg => rfl); (case hr => first | (go_simp; done) | (go_simp; rfl)); intro g1 w2001 hb B F1 L1 E1; obtain ⟨c1_0, c1_1, c1_2, c1_3, c1_4, c1_5⟩ := cs6 F1; clear hb E1)
        | ((with_reducible refine gate_dst (N := 2) rfl ?_); refine bx ?hg (N := 2) ?hd (cs := #[.string (⟨#[]⟩ : ByteArray), .string (⟨#[]⟩ : ByteArray), .slice none 0 0, .slice none 0 0, .bool false, .string (⟨#[]⟩ : ByteArray)]) (t := 34) ?hr B ?_; (case hd => rfl); (case hg => rfl); (case hr => first | (go_simp; done) | (go_simp; rfl)); intro g2 w2002 hb B F2 L2 E2; have N1_2 := ne1 E2 F1; replace F1 := bn F1 hb; clear c1_0 c1_1 c1_2 c1_3 c1_4 c1_5; obtain ⟨c1_0, c1_1, c1_2, c1_3, c1_4, c1_5⟩ := cs6 F1; clear hb E2)
        | ((with_reducible refine gate_dst (N := 3) rfl ?_); refine bx ?hg (N := 3) ?hd (cs := #[.string (⟨#[]⟩ : ByteArray), .string (⟨#[]⟩ : ByteArray), .slice none 0 0, .slice none 0 0, .bool false, .string (⟨#[]⟩ : ByteArray)]) (t := 34) ?hr B ?_; (case hd => rfl); (case hg => rfl); (case hr => first | (go_simp; done) | (go_simp; rfl)); intro g3 w2003 hb B F3 L3 E3; have N1_3 := ne1 E3 F1; have N2_3 := ne1 E3 F2; replace F1 := bn F1 hb; replace F2 := bn F2 hb; clear c1_0 c1_1 c1_2 c1_3 c1_4 c1_5; obtain ⟨c1_0, c1_1, c1_2, c1_3, c1_4, c1_5⟩ := cs6 F1; clear hb E3)
        | (go_at_call 14; with_reducible refine cl (impl_StateValid.M a b _ _ ps _ _ ss false c _ (cb HRP B) (cb HRS B)) B fun w2004 hb B => ?_; replace F1 := bn F1 hb; replace F2 := bn F2 hb; replace F3 := bn F3 hb; clear c1_0 c1_1 c1_2 c1_3 c1_4 c1_5; obtain ⟨c1_0, c1_1, c1_2, c1_3, c1_4, c1_5⟩ := cs6 F1; clear hb)
        | ((with_reducible refine gate_store (t := 34) (p := 2) rfl ?_); obtain ⟨y0, y1, y2, y3, y4, y5⟩ := cs6 F2; have z0 := fz F2 0; have z1 := fz F2 1; have z2 := fz F2 2; have z3 := fz F2 3; have z4 := fz F2 4; have z5 := fz F2 5; refine sx (t := 34) (t' := 34) (p := 2) (v := ?vo2005) ?hg ?ho ?hn 0 [.string (⟨#[]⟩ : ByteArray), .string (⟨#[]⟩ : ByteArray), .slice none 0 0, .slice none 0 0, .bool false, .string (⟨#[]⟩ : ByteArray)] [.string (⟨#[]⟩ : ByteArray), .string (⟨#[]⟩ : ByteArray), .slice none 0 0, .slice none 0 0, .bool false, .string (⟨#[]⟩ : ByteArray)] ?hr B F2 L2 rfl (Nat.le_of_ble_eq_true rfl) ?_; (case ho => rfl); (case hg => rfl); (case hn => rfl); (case hr => first | (go_simp; done) | (go_simp; rfl)); intro w2005 hk B G; replace F1 := bk F1 hk N1_2.out; replace F3 := bk F3 hk N2_3.out.symm; replace F2 := G; clear hk y0 z0 y1 z1 y2 z2 y3 z3 y4 z4 y5 z5)
        | ((with_reducible refine gate_store (t := 34) (p := 3) rfl ?_); obtain ⟨y0, y1, y2, y3, y4, y5⟩ := cs6 F3; have z0 := fz F3 0; have z1 := fz F3 1; have z2 := fz F3 2; have z3 := fz F3 3; have z4 := fz F3 4; have z5 := fz F3 5; refine sx (t := 34) (t' := 34) (p := 3) (v := ?vo2006) ?hg ?ho ?hn 0 [.string (⟨#[]⟩ : ByteArray), .string (⟨#[]⟩ : ByteArray), .slice none 0 0, .slice none 0 0, .bool false, .string (⟨#[]⟩ : ByteArray)] [.string (⟨#[]⟩ : ByteArray), .string (⟨#[]⟩ : ByteArray), .slice none 0 0, .slice none 0 0, .bool false, .string (⟨#[]⟩ : ByteArray)] ?hr B F3 L3 rfl (Nat.le_of_ble_eq_true rfl) ?_; (case ho => rfl); (case hg => rfl); (case hn => rfl); (case hr => first | (go_simp; done) | (go_simp; rfl)); intro w2006 hk B G; replace F1 := bk F1 hk N1_3.out; replace F2 := bk F2 hk N2_3.out; replace F3 := G; clear hk y0 z0 y1 z1 y2 z2 y3 z3 y4 z4 y5 z5))
      all_goals (refine bodyPost_ret (results_list (rs := [.cell 2 34, .cell 3 34, .tmp 4]) rfl (by simp) (.cell g2 34 _ (0, 0) _ rfl F2.out hu rfl (by kernel_rfl) (.cell g3 34 _ (0, 0) _ rfl F3.out hu rfl (by kernel_rfl) (.tmp .nil)))) rfl ?_; exact ⟨_, _, _, _, rfl, Kd.R_nil _ _ _ _ _, Kd.R_nil _ _ _ _ _, Kd.R_nil _ _ _ _ _, Kd.R_nil _ _ _ _ _, (fun _ h => nomatch h), (fun _ h => nomatch h), B.out⟩)
    | true =>
      cases hcut : cutB a b c with
      | true => exact impl_StateCut.Mt a b AP cP ps AS cS ss c w hrp hrs hcp hcs hs hcut
      | false =>
        rw [cs_bad (show cutOk ⟨a, b, ps, ss, true, c⟩ = false by unfold cutOk SM.ok; rw [hs, hcut]; rfl)]
        have hu := Try.underlying34
        have hu2 := Try.underlying30
        have HRP := Aside0.mk hrp
        have HRS := Aside0.mk hrs
        have HCP := Aside0.mk hcp
        have HCS := Aside0.mk hcs
        clear hrp hrs hcp hcs
        go_enter Try.func31, Try.ntmps31
        go_wp2_with (first
          | ((with_reducible refine gate_dst (N := 1) rfl ?_); refine bx ?hg (N := 1) ?hd (cs := #[.string a, .string b, .slice AP ps.length cP, .slice AS ss.length cS, .bool true, .string c]) (t := 34) ?hr B ?_; (case hd => rfl); (case hg => rfl); (case hr => first | (go_simp; done) | (go_simp; rfl)); intro g1 w3001 hb B F1 L1 E1; obtain ⟨c1_0, c1_1, c1_2, c1_3, c1_4, c1_5⟩ := cs6 F1; clear hb E1)
          | ((with_reducible refine gate_dst (N := 2) rfl ?_); refine bx ?hg (N := 2) ?hd (cs := #[.string (⟨#[]⟩ : ByteArray), .string (⟨#[]⟩ : ByteArray), .slice none 0 0, .slice none 0 0, .bool false, .string (⟨#[]⟩ : ByteArray)]) (t := 34) ?hr B ?_; (case hd => rfl); (case hg => rfl); (case hr => first | (go_simp; done) | (go_simp; rfl)); intro g2 w3002 hb B F2 L2 E2; have N1_2 := ne1 E2 F1; replace F1 := bn F1 hb; clear c1_0 c1_1 c1_2 c1_3 c1_4 c1_5; obtain ⟨c1_0, c1_1, c1_2, c1_3, c1_4, c1_5⟩ := cs6 F1; clear hb E2)
          | ((with_reducible refine gate_dst (N := 3) rfl ?_); refine bx ?hg (N := 3) ?hd (cs := #[.string (⟨#[]⟩ : ByteArray), .string (⟨#[]⟩ : ByteArray), .slice none 0 0, .slice none 0 0, .bool false, .string (⟨#[]⟩ : ByteArray)]) (t := 34) ?hr B ?_; (case hd => rfl); (case hg => rfl); (case hr => first | (go_simp; done) | (go_simp; rfl)); intro g3 w3003 hb B F3 L3 E3; have N1_3 := ne1 E3 F1; have N2_3 := ne1 E3 F2; replace F1 := bn F1 hb; replace F2 := bn F2 hb; clear c1_0 c1_1 c1_2 c1_3 c1_4 c1_5; obtain ⟨c1_0, c1_1, c1_2, c1_3, c1_4, c1_5⟩ := cs6 F1; clear hb E3)
          | (go_at_call 14; with_reducible refine cl (impl_StateValid.M a b _ _ ps _ _ ss true c _ (cb HRP B) (cb HRS B)) B fun w3004 hb B => ?_; replace F1 := bn F1 hb; replace F2 := bn F2 hb; replace F3 := bn F3 hb; clear c1_0 c1_1 c1_2 c1_3 c1_4 c1_5; obtain ⟨c1_0, c1_1, c1_2, c1_3, c1_4, c1_5⟩ := cs6 F1; clear hb)
          | ((with_reducible refine gate_store (t := 34) (p := 2) rfl ?_); obtain ⟨y0, y1, y2, y3, y4, y5⟩ := cs6 F2; have z0 := fz F2 0; have z1 := fz F2 1; have z2 := fz F2 2; have z3 := fz F2 3; have z4 := fz F2 4; have z5 := fz F2 5; refine sx (t := 34) (t' := 34) (p := 2) (v := ?vo3005) ?hg ?ho ?hn 0 [.string (⟨#[]⟩ : ByteArray), .string (⟨#[]⟩ : ByteArray), .slice none 0 0, .slice none 0 0, .bool false, .string (⟨#[]⟩ : ByteArray)] [.string (⟨#[]⟩ : ByteArray), .string (⟨#[]⟩ : ByteArray), .slice none 0 0, .slice none 0 0, .bool false, .string (⟨#[]⟩ : ByteArray)] ?hr B F2 L2 rfl (Nat.le_of_ble_eq_true rfl) ?_; (case ho => rfl); (case hg => rfl); (case hn => rfl); (case hr => first | (go_simp; done) | (go_simp; rfl)); intro w3005 hk B G; replace F1 := bk F1 hk N1_2.out; replace F3 := bk F3 hk N2_3.out.symm; replace F2 := G; clear c1_0 c1_1 c1_2 c1_3 c1_4 c1_5; obtain ⟨c1_0, c1_1, c1_2, c1_3, c1_4, c1_5⟩ := cs6 F1; clear hk y0 z0 y1 z1 y2 z2 y3 z3 y4 z4 y5 z5)
          | ((with_reducible refine gate_store (t := 34) (p := 3) rfl ?_); obtain ⟨y0, y1, y2, y3, y4, y5⟩ := cs6 F3; have z0 := fz F3 0; have z1 := fz F3 1; have z2 := fz F3 2; have z3 := fz F3 3; have z4 := fz F3 4; have z5 := fz F3 5; refine sx (t := 34) (t' := 34) (p := 3) (v := ?vo3006) ?hg ?ho ?hn 0 [.string (⟨#[]⟩ : ByteArray), .string (⟨#[]⟩ : ByteArray), .slice none 0 0, .slice none 0 0, .bool false, .string (⟨#[]⟩ : ByteArray)] [.string (⟨#[]⟩ : ByteArray), .string (⟨#[]⟩ : ByteArray), .slice none 0 0, .slice none 0 0, .bool false, .string (⟨#[]⟩ : ByteArray)] ?hr B F3 L3 rfl (Nat.le_of_ble_eq_true rfl) ?_; (case ho => rfl); (case hg => rfl); (case hn => rfl); (case hr => first | (go_simp; done) | (go_simp; rfl)); intro w3006 hk B G; replace F1 := bk F1 hk N1_3.out; replace F2 := bk F2 hk N2_3.out; replace F3 := G; clear c1_0 c1_1 c1_2 c1_3 c1_4 c1_5; obtain ⟨c1_0, c1_1, c1_2, c1_3, c1_4, c1_5⟩ := cs6 F1; clear hk y0 z0 y1 z1 y2 z2 y3 z3 y4 z4 y5 z5)
          | (go_at_call 59; with_reducible refine cl (impl_IntervalCut.Mf a b c hcut _) B fun w3007 hb B => ?_; replace F1 := bn F1 hb; replace F2 := bn F2 hb; replace F3 := bn F3 hb; clear hb)
          | ((with_reducible refine gate_dst (N := 5) rfl ?_); refine bx ?hg (N := 5) ?hd (cs := #[.string (⟨#[]⟩ : ByteArray), .string (⟨#[]⟩ : ByteArray)]) (t := 30) ?hr B ?_; (case hd => rfl); (case hg => rfl); (case hr => first | (go_simp; done) | (go_simp; rfl)); intro g5 w3008 hb B F5 L5 E5; have N1_5 := ne1 E5 F1; have N2_5 := ne1 E5 F2; have N3_5 := ne1 E5 F3; replace F1 := bn F1 hb; replace F2 := bn F2 hb; replace F3 := bn F3 hb; clear hb E5)
          | ((with_reducible refine gate_dst (N := 6) rfl ?_); refine bx ?hg (N := 6) ?hd (cs := #[.string (⟨#[]⟩ : ByteArray), .string (⟨#[]⟩ : ByteArray)]) (t := 30) ?hr B ?_; (case hd => rfl); (case hg => rfl); (case hr => first | (go_simp; done) | (go_simp; rfl)); intro g6 w3009 hb B F6 L6 E6; have N1_6 := ne1 E6 F1; have N2_6 := ne1 E6 F2; have N3_6 := ne1 E6 F3; have N5_6 := ne1 E6 F5; replace F1 := bn F1 hb; replace F2 := bn F2 hb; replace F3 := bn F3 hb; replace F5 := bn F5 hb; clear hb E6)
          | ((with_reducible refine gate_store (t := 30) (p := 5) rfl ?_); obtain ⟨y0, y1⟩ := cs2 F5; have z0 := fz F5 0; have z1 := fz F5 1; refine sx (t := 30) (t' := 30) (p := 5) (v := ?vo3010) ?hg ?ho ?hn 0 [.string (⟨#[]⟩ : ByteArray), .string (⟨#[]⟩ : ByteArray)] [.string (⟨#[]⟩ : ByteArray), .string (⟨#[]⟩ : ByteArray)] ?hr B F5 L5 rfl (Nat.le_of_ble_eq_true rfl) ?_; (case ho => rfl); (case hg => rfl); (case hn => rfl); (case hr => first | (go_simp; done) | (go_simp; rfl)); intro w3010 hk B G; replace F1 := bk F1 hk N1_5.out; replace F2 := bk F2 hk N2_5.out; replace F3 := bk F3 hk N3_5.out; replace F6 := bk F6 hk N5_6.out.symm; replace F5 := G; clear hk y0 z0 y1 z1)
          | ((with_reducible refine gate_store (t := 30) (p := 6) rfl ?_); obtain ⟨y0, y1⟩ := cs2 F6; have z0 := fz F6 0; have z1 := fz F6 1; refine sx (t := 30) (t' := 30) (p := 6) (v := ?vo3011) ?hg ?ho ?hn 0 [.string (⟨#[]⟩ : ByteArray), .string (⟨#[]⟩ : ByteArray)] [.string (⟨#[]⟩ : ByteArray), .string (⟨#[]⟩ : ByteArray)] ?hr B F6 L6 rfl (Nat.le_of_ble_eq_true rfl) ?_; (case ho => rfl); (case hg => rfl); (case hn => rfl); (case hr => first | (go_simp; done) | (go_simp; rfl)); intro w3011 hk B G; replace F1 := bk F1 hk N1_6.out; replace F2 := bk F2 hk N2_6.out; replace F3 := bk F3 hk N3_6.out; replace F6 := G; clear hk y0 z0 y1 z1)
          | ((with_reducible refine gate_store (t := 34) (p := 2) rfl ?_); obtain ⟨y0, y1, y2, y3, y4, y5⟩ := cs6 F2; have z0 := fz F2 0; have z1 := fz F2 1; have z2 := fz F2 2; have z3 := fz F2 3; have z4 := fz F2 4; have z5 := fz F2 5; refine sx (t := 34) (t' := 34) (p := 2) (v := ?vo3012) ?hg ?ho ?hn 0 [.string (⟨#[]⟩ : ByteArray), .string (⟨#[]⟩ : ByteArray), .slice none 0 0, .slice none 0 0, .bool false, .string (⟨#[]⟩ : ByteArray)] [.string (⟨#[]⟩ : ByteArray), .string (⟨#[]⟩ : ByteArray), .slice none 0 0, .slice none 0 0, .bool false, .string (⟨#[]⟩ : ByteArray)] ?hr B F2 L2 rfl (Nat.le_of_ble_eq_true rfl) ?_; (case ho => rfl); (case hg => rfl); (case hn => rfl); (case hr => first | (go_simp; done) | (go_simp; rfl)); intro w3012 hk B G; replace F1 := bk F1 hk N1_2.out; replace F3 := bk F3 hk N2_3.out.symm; replace F2 := G; clear hk y0 z0 y1 z1 y2 z2 y3 z3 y4 z4 y5 z5)
          | ((with_reducible refine gate_store (t := 34) (p := 3) rfl ?_); obtain ⟨y0, y1, y2, y3, y4, y5⟩ := cs6 F3; have z0 := fz F3 0; have z1 := fz F3 1; have z2 := fz F3 2; have z3 := fz F3 3; have z4 := fz F3 4; have z5 := fz F3 5; refine sx (t := 34) (t' := 34) (p := 3) (v := ?vo3013) ?hg ?ho ?hn 0 [.string (⟨#[]⟩ : ByteArray), .string (⟨#[]⟩ : ByteArray), .slice none 0 0, .slice none 0 0, .bool false, .string (⟨#[]⟩ : ByteArray)] [.string (⟨#[]⟩ : ByteArray), .string (⟨#[]⟩ : ByteArray), .slice none 0 0, .slice none 0 0, .bool false, .string (⟨#[]⟩ : ByteArray)] ?hr B F3 L3 rfl (Nat.le_of_ble_eq_true rfl) ?_; (case ho => rfl); (case hg => rfl); (case hn => rfl); (case hr => first | (go_simp; done) | (go_simp; rfl)); intro w3013 hk B G; replace F1 := bk F1 hk N1_3.out; replace F2 := bk F2 hk N2_3.out; replace F3 := G; clear hk y0 z0 y1 z1 y2 z2 y3 z3 y4 z4 y5 z5))
        all_goals (refine bodyPost_ret (results_list (rs := [.cell 2 34, .cell 3 34, .tmp 4]) rfl (by simp) (.cell g2 34 _ (0, 0) _ rfl F2.out hu rfl (by kernel_rfl) (.cell g3 34 _ (0, 0) _ rfl F3.out hu rfl (by kernel_rfl) (.tmp .nil)))) rfl ?_; exact ⟨_, _, _, _, rfl, Kd.R_nil _ _ _ _ _, Kd.R_nil _ _ _ _ _, Kd.R_nil _ _ _ _ _, Kd.R_nil _ _ _ _ _, (fun _ h => nomatch h), (fun _ h => nomatch h), B.out⟩)
theorem impl_StateCut.Mr (a b : ByteArray) (AP : Option Addr) (cP : Nat) (ps : List S61) (AS : Option Addr) (cS : Nat) (ss : List S100) (t : Bool) (c : ByteArray) (xa xb : ByteArray) (xp : List S61) (xs : List S100) (xt : Bool) (xc ya yb : ByteArray) (yp : List S61) (ys : List S100) (yt : Bool) (yc : ByteArray) (ok : Bool) (hm : csM ⟨a, b, ps, ss, t, c⟩ = (⟨xa, xb, xp, xs, xt, xc⟩, ⟨ya, yb, yp, ys, yt, yc⟩, ok)) (w : World) (hrp : Kd.C k61 w AP ps.length ps) (hrs : Kd.C k100 w AS ss.length ss) (hcp : ps.length ≤ cP) (hcs : ss.length ≤ cS) : Calls Try.prog 31 #[.agg #[.string a, .string b, .slice AP ps.length cP, .slice AS ss.length cS, .bool t, .string c]] w fun e w' => ∃ v2 v3 v4 v5, e = .returned (.tuple #[.agg #[.string xa, .string xb, v2, v3, .bool xt, .string xc], .agg #[.string ya, .string yb, v4, v5, .bool yt, .string yc], .bool ok]) ∧ Kd.R k61 61 w' w.heap.size (fun _ => True) v2 xp ∧ Kd.R k100 100 w' w.heap.size (fun _ => True) v3 xs ∧ Kd.R k61 61 w' w.heap.size (fun _ => True) v4 yp ∧ Kd.R k100 100 w' w.heap.size (fun _ => True) v5 ys ∧ (∀ k_, v4.ownBlock = some k_ → v2.ownBlock = some k_ → False) ∧ (∀ k_, v5.ownBlock = some k_ → v3.ownBlock = some k_ → False) ∧ Below w.heap.size w w' := by
  have h := impl_StateCut.M a b AP cP ps AS cS ss t c w hrp hrs hcp hcs
  rw [hm] at h
  exact h

theorem laws_szInterval.M (a b : ByteArray) (n : Int) (w : World) (hn : 0 ≤ n ∧ n ≤ 1048576) (ha : a.size ≤ 9223372036854775807) (hb : b.size ≤ 9223372036854775807) : Calls Try.prog 44 #[.agg #[.string a, .string b], .int .i64 n] w fun e w' => ∃ v : Int, e = .returned (.int .i64 v) ∧ (v < 0 ∨ 0 ≤ v ∧ v ≤ n) ∧ Below w.heap.size w w' := by
  have B := Aside0.mk (Below.refl w.heap.size w)
  have hu := Try.underlying23
  go_enter Try.func44, Try.ntmps44
  go_wp2_with (first
    | ((with_reducible refine gate_dst (N := 2) rfl ?_); refine bx ?hg (N := 2) ?hd (cs := #[.string a, .string b]) (t := 23) ?hr B ?_; (case hd => rfl); (case hg => rfl); (case hr => first | (go_simp; done) | (go_simp; rfl)); intro g2 w1 hb B F2 L2 E2; obtain ⟨c2_0, c2_1⟩ := cs2 F2; clear hb E2))
  all_goals go_ret
  all_goals (refine ⟨_, rfl, ?_, B.out⟩; omega)
theorem laws_szPair.M (a : ByteArray) (b n : Int) (w : World) (hn : 0 ≤ n ∧ n ≤ 1048576) (ha : a.size ≤ 9223372036854775807) : Calls Try.prog 88 #[.agg #[.string a, .int .i64 b], .int .i64 n] w fun e w' => ∃ v : Int, e = .returned (.int .i64 v) ∧ (v < 0 ∨ 0 ≤ v ∧ v ≤ n) ∧ Below w.heap.size w w' := by
  have B := Aside0.mk (Below.refl w.heap.size w)
  have hu := Try.underlying108
  go_enter Try.func88, Try.ntmps88
  go_wp2_with (first
    | ((with_reducible refine gate_dst (N := 2) rfl ?_); refine bx ?hg (N := 2) ?hd (cs := #[.string a, .int .i64 (b)]) (t := 108) ?hr B ?_; (case hd => rfl); (case hg => rfl); (case hr => first | (go_simp; done) | (go_simp; rfl)); intro g2 w1 hb B F2 L2 E2; obtain ⟨c2_0, c2_1⟩ := cs2 F2; clear hb E2))
  all_goals go_ret
  all_goals (refine ⟨_, rfl, ?_, B.out⟩; omega)
theorem laws_szPairS.M (A0 : Option Addr) (c0 : Nat) (l : List S108) (n : Int) (w : World) (hr0 : Kd.C k108 w A0 l.length l) (hn : 0 ≤ n ∧ n ≤ 1048576) (hs : ∀ y ∈ l, y.f0.size ≤ 9223372036854775807) : Calls Try.prog 45 #[.slice A0 l.length c0, .int .i64 n] w fun e w' => ∃ v : Int, e = .returned (.int .i64 v) ∧ (v < 0 ∨ 0 ≤ v ∧ v ≤ n ∧ (l.length : Int) ≤ n) ∧ Below w.heap.size w w' := by
  have B := Aside0.mk (Below.refl w.heap.size w)
  have hu := Try.underlying108
  have HR0 := Aside0.mk hr0
  have hm := hr0.2.1
  have HS := Aside0.mk hs
  clear hr0 hs
  go_enter Try.func45, Try.ntmps45
  go_wp2
  · go_ret
    exact ⟨-1, rfl, by omega, B.out⟩
  · go_loopg [1, 5] (l.length + 1) (fun kx v1 v5 wr => ∃ (j : Nat) (m : Int), v1 = .int .i64 m ∧ v5 = .int .i64 (j : Int) ∧ j ≤ l.length ∧ l.length < j + kx ∧ 0 ≤ m ∧ m ≤ n ∧ Aside0 (Below w.heap.size w wr))
    case atStart => exact ⟨0, _, rfl, rfl, by omega, by omega, by omega, by omega, B⟩
    case round =>
      clear B
      obtain ⟨j, m, rfl, rfl, hj, hk, hm0, hm1, B⟩ := hrel
      by_cases hlt : j < l.length
      · obtain ⟨d, rfl⟩ : ∃ d, gk = d + 1 := ⟨gk - 1, by omega⟩
        have cj : decide ((j : Int) < (l.length : Int)) = true := decide_eq_true (by omega)
        obtain ⟨ad, hA, y0, y1⟩ := at_T108 (cb HR0 B) (j : Int) (by omega) (by omega)
        cases hA
        have hz := HS.out (rd_T108 l (j : Int)) (by simp [rd_T108, List.getD_eq_getElem?_getD, List.getElem?_eq_getElem hlt])
        rw [Int.toNat_natCast] at y0 y1
        have j1 := eq_true (show (j : Int) < (l.length : Int) by omega)
        have j2 := eq_true hlt
        generalize hy : rd_T108 l (j : Int) = y at *
        go_wp2_with (first
          | (go_at_call 88; with_reducible refine cx (laws_szPair.M y.f0 y.f1 m _ (by omega) (by omega)) B fun v1 hv1 w1 hb B => ?_; clear hb))
        all_goals first
          | (go_roundg d; (case measure => omega); (case rel => exact ⟨j + 1, _, rfl, congrArg (Value.int .i64) (Int.natCast_succ _).symm, by omega, by omega, by omega, by omega, B⟩))
          | (go_ret; exact ⟨-1, rfl, by omega, B.out⟩)
      · have cj : decide ((j : Int) < (l.length : Int)) = false := decide_eq_false (by omega)
        go_wp2
        go_ret
        exact ⟨m, rfl, by omega, B.out⟩
theorem laws_szSessionS.M (A0 : Option Addr) (c0 : Nat) (l : List S112) (n : Int) (w : World) (hr0 : Kd.C k112 w A0 l.length l) (hn : 0 ≤ n ∧ n ≤ 1048576) : Calls Try.prog 46 #[.slice A0 l.length c0, .int .i64 n] w fun e w' => ∃ v : Int, e = .returned (.int .i64 v) ∧ (v < 0 ∨ 0 ≤ v ∧ v ≤ n ∧ (l.length : Int) ≤ n) ∧ Below w.heap.size w w' := by
  have B := Aside0.mk (Below.refl w.heap.size w)
  have hm := hr0.2.1
  clear hr0
  go_enter Try.func46, Try.ntmps46
  go_wp2
  all_goals go_ret
  all_goals (refine ⟨_, rfl, ?_, B.out⟩; omega)
theorem laws_szState.M (a b : ByteArray) (AP : Option Addr) (cP : Nat) (ps : List S108) (AS : Option Addr) (cS : Nat) (ss : List S112) (t : Bool) (c : ByteArray) (n : Int) (w : World) (hrp : Kd.C k108 w AP ps.length ps) (hrs : Kd.C k112 w AS ss.length ss) (hn : 0 ≤ n ∧ n ≤ 1048576) (hs : a.size ≤ 9223372036854775807 ∧ b.size ≤ 9223372036854775807 ∧ c.size ≤ 9223372036854775807 ∧ ∀ y ∈ ps, y.f0.size ≤ 9223372036854775807) : Calls Try.prog 11 #[.agg #[.string a, .string b, .slice AP ps.length cP, .slice AS ss.length cS, .bool t, .string c], .int .i64 n] w fun e w' => ∃ v : Int, e = .returned (.int .i64 v) ∧ (v < 0 ∨ 0 ≤ v ∧ v ≤ n ∧ (ps.length : Int) ≤ n ∧ (ss.length : Int) ≤ n) ∧ Below w.heap.size w w' := by
  have B := Aside0.mk (Below.refl w.heap.size w)
  have hu := Try.underlying27
  have HRP := Aside0.mk hrp
  have HRS := Aside0.mk hrs
  obtain ⟨ha, hb, hc, hps⟩ := hs
  have HPS := Aside0.mk hps
  clear hrp hrs hps
  go_enter Try.func11, Try.ntmps11
  go_wp2_with (first
    | ((with_reducible refine gate_dst (N := 2) rfl ?_); refine bx ?hg (N := 2) ?hd (cs := #[.string a, .string b, .slice AP ps.length cP, .slice AS ss.length cS, .bool t, .string c]) (t := 27) ?hr B ?_; (case hd => rfl); (case hg => rfl); (case hr => first | (go_simp; done) | (go_simp; rfl)); intro g2 w1 hb B F2 L2 E2; obtain ⟨c2_0, c2_1, c2_2, c2_3, c2_4, c2_5⟩ := cs6 F2; clear hb E2)
    | (go_at_call 44; with_reducible refine cx (laws_szInterval.M a b n _ (by omega) (by omega) (by omega)) B fun v2 hv2 w2 hb B => ?_; replace F2 := bn F2 hb; clear c2_0 c2_1 c2_2 c2_3 c2_4 c2_5; obtain ⟨c2_0, c2_1, c2_2, c2_3, c2_4, c2_5⟩ := cs6 F2; clear hb)
    | (go_at_call 45; with_reducible refine cx (laws_szPairS.M _ _ ps v2 _ (cb HRP B) (by omega) HPS.out) B fun v3 hv3 w3 hb B => ?_; replace F2 := bn F2 hb; clear c2_0 c2_1 c2_2 c2_3 c2_4 c2_5; obtain ⟨c2_0, c2_1, c2_2, c2_3, c2_4, c2_5⟩ := cs6 F2; clear hb)
    | (go_at_call 46; with_reducible refine cx (laws_szSessionS.M _ _ ss v3 _ (cb HRS B) (by omega)) B fun v4 hv4 w4 hb B => ?_; replace F2 := bn F2 hb; clear c2_0 c2_1 c2_2 c2_3 c2_4 c2_5; obtain ⟨c2_0, c2_1, c2_2, c2_3, c2_4, c2_5⟩ := cs6 F2; clear hb))
  all_goals go_ret
  all_goals (refine ⟨_, rfl, ?_, B.out⟩; omega)

theorem laws_toInterval.M (x0 : ByteArray) (x1 : ByteArray) (w : World) : Calls Try.prog 52 #[.agg #[.string x0, .string x1]] w fun e w' => e = .returned (.agg #[.string x0, .string x1]) ∧ Below w.heap.size w w' := by
  have B := Aside0.mk (Below.refl w.heap.size w)
  have hu := Try.underlying30
  have hu2 := Try.underlying23
  go_enter Try.func52, Try.ntmps52
  go_wp2_with (first
    | ((with_reducible refine gate_dst (N := 1) rfl ?_); refine bx ?hg (N := 1) ?hd (cs := #[.string x0, .string x1]) (t := 23) ?hr B ?_; (case hd => rfl); (case hg => rfl); (case hr => first | (go_simp; done) | (go_simp; rfl)); intro g1 w1 hb B F1 L1 E1; obtain ⟨c1_0, c1_1⟩ := cs2 F1; clear hb E1)
    | ((with_reducible refine gate_dst (N := 2) rfl ?_); refine bx ?hg (N := 2) ?hd (cs := #[.string (⟨#[]⟩ : ByteArray), .string (⟨#[]⟩ : ByteArray)]) (t := 30) ?hr B ?_; (case hd => rfl); (case hg => rfl); (case hr => first | (go_simp; done) | (go_simp; rfl)); intro g2 w2 hb B F2 L2 E2; have N1_2 := ne1 E2 F1; replace F1 := bn F1 hb; clear c1_0 c1_1; obtain ⟨c1_0, c1_1⟩ := cs2 F1; clear hb E2)
    | ((with_reducible refine gate_dst (N := 3) rfl ?_); refine bx ?hg (N := 3) ?hd (cs := #[.string (⟨#[]⟩ : ByteArray), .string (⟨#[]⟩ : ByteArray)]) (t := 30) ?hr B ?_; (case hd => rfl); (case hg => rfl); (case hr => first | (go_simp; done) | (go_simp; rfl)); intro g3 w3 hb B F3 L3 E3; have N1_3 := ne1 E3 F1; have N2_3 := ne1 E3 F2; replace F1 := bn F1 hb; replace F2 := bn F2 hb; clear c1_0 c1_1; obtain ⟨c1_0, c1_1⟩ := cs2 F1; obtain ⟨c3_0, c3_1⟩ := cs2 F3; clear hb E3)
    | ((with_reducible refine gate_store (t := 9) (p := 6) rfl ?_); obtain ⟨y0, y1⟩ := cs2 F3; have z0 := fz F3 0; have z1 := fz F3 1; refine sx (t := 30) (t' := 9) (p := 6) (v := ?vo4) ?hg ?ho ?hn 0 [.string x0] [.string x0, .string (⟨#[]⟩ : ByteArray)] ?hr B F3 L3 rfl (Nat.le_of_ble_eq_true rfl) ?_; (case ho => rfl); (case hg => rfl); (case hn => rfl); (case hr => first | (go_simp; done) | (go_simp; rfl)); intro w4 hk B G; replace F1 := bk F1 hk N1_3.out; replace F2 := bk F2 hk N2_3.out; replace F3 := G; clear c1_0 c1_1; obtain ⟨c1_0, c1_1⟩ := cs2 F1; clear c3_0 c3_1; obtain ⟨c3_0, c3_1⟩ := cs2 F3; clear hk y0 z0 y1 z1)
    | ((with_reducible refine gate_store (t := 9) (p := 9) rfl ?_); obtain ⟨y0, y1⟩ := cs2 F3; have z0 := fz F3 0; have z1 := fz F3 1; refine sx (t := 30) (t' := 9) (p := 9) (v := ?vo5) ?hg ?ho ?hn 1 [.string x1] [.string x0, .string x1] ?hr B F3 L3 rfl (Nat.le_of_ble_eq_true rfl) ?_; (case ho => rfl); (case hg => rfl); (case hn => rfl); (case hr => first | (go_simp; done) | (go_simp; rfl)); intro w5 hk B G; replace F2 := bk F2 hk N2_3.out; replace F3 := G; clear c3_0 c3_1; obtain ⟨c3_0, c3_1⟩ := cs2 F3; clear hk y0 z0 y1 z1)
    | ((with_reducible refine gate_store (t := 30) (p := 2) rfl ?_); obtain ⟨y0, y1⟩ := cs2 F2; have z0 := fz F2 0; have z1 := fz F2 1; refine sx (t := 30) (t' := 30) (p := 2) (v := ?vo6) ?hg ?ho ?hn 0 [.string x0, .string x1] [.string x0, .string x1] ?hr B F2 L2 rfl (Nat.le_of_ble_eq_true rfl) ?_; (case ho => rfl); (case hg => rfl); (case hn => rfl); (case hr => first | (go_simp; done) | (go_simp; rfl)); intro w6 hk B G; replace F2 := G; clear hk y0 z0 y1 z1))
  refine bodyPost_ret (results_single rfl (.cell g2 30 _ (0, 0) _ rfl F2.out hu rfl (by kernel_rfl) .nil)) rfl ?_
  exact ⟨rfl, B.out⟩
def prOf (x : S108) : S61 := ⟨x.f0, x.f1⟩
theorem laws_toPair.M (x0 : ByteArray) (x1 : Int) (w : World) : Calls Try.prog 91 #[.agg #[.string x0, .int .i64 (x1)]] w fun e w' => e = .returned (.agg #[.string x0, .int .i64 (x1)]) ∧ Below w.heap.size w w' := by
  have B := Aside0.mk (Below.refl w.heap.size w)
  have hu := Try.underlying61
  have hu2 := Try.underlying108
  go_enter Try.func91, Try.ntmps91
  go_wp2_with (first
    | ((with_reducible refine gate_dst (N := 1) rfl ?_); refine bx ?hg (N := 1) ?hd (cs := #[.string x0, .int .i64 (x1)]) (t := 108) ?hr B ?_; (case hd => rfl); (case hg => rfl); (case hr => first | (go_simp; done) | (go_simp; rfl)); intro g1 w1 hb B F1 L1 E1; obtain ⟨c1_0, c1_1⟩ := cs2 F1; clear hb E1)
    | ((with_reducible refine gate_dst (N := 2) rfl ?_); refine bx ?hg (N := 2) ?hd (cs := #[.string (⟨#[]⟩ : ByteArray), .int .i64 (0)]) (t := 61) ?hr B ?_; (case hd => rfl); (case hg => rfl); (case hr => first | (go_simp; done) | (go_simp; rfl)); intro g2 w2 hb B F2 L2 E2; have N1_2 := ne1 E2 F1; replace F1 := bn F1 hb; clear c1_0 c1_1; obtain ⟨c1_0, c1_1⟩ := cs2 F1; clear hb E2)
    | ((with_reducible refine gate_dst (N := 3) rfl ?_); refine bx ?hg (N := 3) ?hd (cs := #[.string (⟨#[]⟩ : ByteArray), .int .i64 (0)]) (t := 61) ?hr B ?_; (case hd => rfl); (case hg => rfl); (case hr => first | (go_simp; done) | (go_simp; rfl)); intro g3 w3 hb B F3 L3 E3; have N1_3 := ne1 E3 F1; have N2_3 := ne1 E3 F2; replace F1 := bn F1 hb; replace F2 := bn F2 hb; clear c1_0 c1_1; obtain ⟨c1_0, c1_1⟩ := cs2 F1; obtain ⟨c3_0, c3_1⟩ := cs2 F3; clear hb E3)
    | ((with_reducible refine gate_store (t := 9) (p := 6) rfl ?_); obtain ⟨y0, y1⟩ := cs2 F3; have z0 := fz F3 0; have z1 := fz F3 1; refine sx (t := 61) (t' := 9) (p := 6) (v := ?vo4) ?hg ?ho ?hn 0 [.string x0] [.string x0, .int .i64 (0)] ?hr B F3 L3 rfl (Nat.le_of_ble_eq_true rfl) ?_; (case ho => rfl); (case hg => rfl); (case hn => rfl); (case hr => first | (go_simp; done) | (go_simp; rfl)); intro w4 hk B G; replace F1 := bk F1 hk N1_3.out; replace F2 := bk F2 hk N2_3.out; replace F3 := G; clear c1_0 c1_1; obtain ⟨c1_0, c1_1⟩ := cs2 F1; clear c3_0 c3_1; obtain ⟨c3_0, c3_1⟩ := cs2 F3; clear hk y0 z0 y1 z1)
    | ((with_reducible refine gate_store (t := 3) (p := 9) rfl ?_); obtain ⟨y0, y1⟩ := cs2 F3; have z0 := fz F3 0; have z1 := fz F3 1; refine sx (t := 61) (t' := 3) (p := 9) (v := ?vo5) ?hg ?ho ?hn 1 [.int .i64 (x1)] [.string x0, .int .i64 (x1)] ?hr B F3 L3 rfl (Nat.le_of_ble_eq_true rfl) ?_; (case ho => rfl); (case hg => rfl); (case hn => rfl); (case hr => first | (go_simp; done) | (go_simp; rfl)); intro w5 hk B G; replace F2 := bk F2 hk N2_3.out; replace F3 := G; clear c3_0 c3_1; obtain ⟨c3_0, c3_1⟩ := cs2 F3; clear hk y0 z0 y1 z1)
    | ((with_reducible refine gate_store (t := 61) (p := 2) rfl ?_); obtain ⟨y0, y1⟩ := cs2 F2; have z0 := fz F2 0; have z1 := fz F2 1; refine sx (t := 61) (t' := 61) (p := 2) (v := ?vo6) ?hg ?ho ?hn 0 [.string x0, .int .i64 (x1)] [.string x0, .int .i64 (x1)] ?hr B F2 L2 rfl (Nat.le_of_ble_eq_true rfl) ?_; (case ho => rfl); (case hg => rfl); (case hn => rfl); (case hr => first | (go_simp; done) | (go_simp; rfl)); intro w6 hk B G; replace F2 := G; clear hk y0 z0 y1 z1))
  refine bodyPost_ret (results_single rfl (.cell g2 61 _ (0, 0) _ rfl F2.out hu rfl (by kernel_rfl) .nil)) rfl ?_
  exact ⟨rfl, B.out⟩
theorem laws_toPairS.M (A0 : Option Addr) (c0 : Nat) (l : List S108) (m : List S61) (w : World) (hr0 : Kd.C k108 w A0 l.length l) (hl : l.length ≤ 1048576) (hm : l.map prOf = m) : Calls Try.prog 53 #[.slice A0 l.length c0] w fun e w' => ∃ v0, e = .returned v0 ∧ Kd.R k61 61 w' w.heap.size (fun _ => True) v0 m ∧ Below w.heap.size w w' := by
  have B := Aside0.mk (Below.refl w.heap.size w)
  subst hm
  have hu := Try.underlying61
  have hu2 := Try.underlying108
  have HR0 := Aside0.mk hr0
  clear hr0
  go_enter Try.func53, Try.ntmps53
  go_wp2_with ((with_reducible refine gate_dst (N := 7) rfl ?_); refine mkr k61 61 rfl (N := 7) rfl 31 _ _ rfl l.length rfl rfl Try.underlying31 (.agg #[.string (⟨#[]⟩ : ByteArray), .int .i64 (0)]) 24 info61 rfl (by decide) (by omega) z61 (k61_mkM _ _ _ z61) (by omega) B ?_; intro A kk w1 hb B R Q; clear hb Q)
  have R0 := Aside0.mk (show Ow k61 61 w1 w.heap.size (.slice A l.length kk) ((l.take 0).map prOf ++ List.replicate (l.length - 0) z61) from R.out)
  clear R
  go_loopg [4] (l.length + 1) (fun kx v4 wr => ∃ j : Nat, v4 = .int .i64 (j : Int) ∧ j ≤ l.length ∧ l.length < j + kx ∧ Aside0 (Below w.heap.size w wr) ∧ Aside0 (Ow k61 61 wr w.heap.size (.slice A l.length kk) ((l.take j).map prOf ++ List.replicate (l.length - j) z61)))
  case atStart => exact ⟨0, rfl, by omega, by omega, B, R0⟩
  case round =>
    clear R0 B
    obtain ⟨j, rfl, hj, hk, B, R⟩ := hrel
    by_cases hlt : j < l.length
    · obtain ⟨d, rfl⟩ : ∃ d, gk = d + 1 := ⟨gk - 1, by omega⟩
      have hln : ((l.take j).map prOf ++ List.replicate (l.length - j) z61).length = l.length := by rw [List.length_append, List.length_map, List.length_take, List.length_replicate]; omega
      obtain ⟨g, rfl, hg⟩ := rform R (by omega)
      have hfs := fill_set (f := prOf) (z := z61) hlt
      have cj : decide ((j : Int) < (l.length : Int)) = true := decide_eq_true (by omega)
      obtain ⟨ad, hA, x0, x1⟩ := at_T108 (cb HR0 B) (j : Int) (by omega) (by omega)
      cases hA
      rw [Int.toNat_natCast] at x0 x1
      have j1 := eq_true (show (j : Int) < (l.length : Int) by omega)
      have j2 := eq_true hlt
      have hy : rd_T108 l (j : Int) = l[j] := by simp [rd_T108, List.getD_eq_getElem?_getD, List.getElem?_eq_getElem hlt]
      rw [← hy] at hfs
      generalize rd_T108 l (j : Int) = y at *
      clear hy
      have HF := Aside0.mk hfs
      clear hfs hln
      go_wp2_with (first
        | (go_at_call 91; with_reducible refine cl (laws_toPair.M y.f0 y.f1 _) B fun w5 hb B => ?_; replace R := rn R hb; obtain ⟨cs, hcl, _, hcc, hfz⟩ := rcells z61 R j hlt; have hsz : k61.sz = 2 := rfl; obtain ⟨u0, hu0⟩ : ∃ u, cs[0]? = some u := ⟨_, List.getElem?_eq_getElem (by rw [hcl]; decide)⟩; have q0 := hcc 0 u0 hu0; have z0 := hfz 0; rw [hsz, Nat.add_zero] at q0 z0; obtain ⟨u1, hu1⟩ : ∃ u, cs[1]? = some u := ⟨_, List.getElem?_eq_getElem (by rw [hcl]; decide)⟩; have q1 := hcc 1 u1 hu1; have z1 := hfz 1; rw [hsz] at q1 z1; clear hb)
        | ((with_reducible refine gate_store (t := 61) (p := 21) rfl ?_); refine es (t := 61) (p := 21) (v := ?vo1) ?hg ?ho ?hn j 0 [.string y.f0, .int .i64 (y.f1)] (prOf y) ?hr R hlt hcl hcc (Nat.le_refl 2) (by rw [List.take_zero, List.drop_of_length_le (by rw [hcl]; exact Nat.le_refl 2)]; exact k61_mkM _ _ _ (prOf y)) B hg ?_; (case ho => rfl); (case hg => rfl); (case hn => rfl); (case hr => first | (go_simp; done) | (go_simp; rfl)); intro w6 _ B R; rw [HF.out] at R))
      go_roundg d
      case measure => omega
      case rel => exact ⟨j + 1, congrArg (Value.int .i64) (Int.natCast_succ _).symm, by omega, by omega, B, R⟩
    · have cj : decide ((j : Int) < (l.length : Int)) = false := decide_eq_false (by omega)
      rw [fill_end hlt] at R
      go_wp2
      go_ret
      exact ⟨_, rfl, R.out, B.out⟩
def sesOf (x : S112) : S100 := ⟨x.f0, x.f1, x.f2⟩
theorem laws_toSession.M (x0 : Int) (x1 : Int) (x2 : Int) (w : World) : Calls Try.prog 92 #[.agg #[.int .i64 (x0), .int .i64 (x1), .int .i64 (x2)]] w fun e w' => e = .returned (.agg #[.int .i64 (x0), .int .i64 (x1), .int .i64 (x2)]) ∧ Below w.heap.size w w' := by
  have B := Aside0.mk (Below.refl w.heap.size w)
  have hu := Try.underlying100
  have hu2 := Try.underlying112
  go_enter Try.func92, Try.ntmps92
  go_wp2_with (first
    | ((with_reducible refine gate_dst (N := 1) rfl ?_); refine bx ?hg (N := 1) ?hd (cs := #[.int .i64 (x0), .int .i64 (x1), .int .i64 (x2)]) (t := 112) ?hr B ?_; (case hd => rfl); (case hg => rfl); (case hr => first | (go_simp; done) | (go_simp; rfl)); intro g1 w1 hb B F1 L1 E1; obtain ⟨c1_0, c1_1, c1_2⟩ := cs3 F1; clear hb E1)
    | ((with_reducible refine gate_dst (N := 2) rfl ?_); refine bx ?hg (N := 2) ?hd (cs := #[.int .i64 (0), .int .i64 (0), .int .i64 (0)]) (t := 100) ?hr B ?_; (case hd => rfl); (case hg => rfl); (case hr => first | (go_simp; done) | (go_simp; rfl)); intro g2 w2 hb B F2 L2 E2; have N1_2 := ne1 E2 F1; replace F1 := bn F1 hb; clear c1_0 c1_1 c1_2; obtain ⟨c1_0, c1_1, c1_2⟩ := cs3 F1; clear hb E2)
    | ((with_reducible refine gate_dst (N := 3) rfl ?_); refine bx ?hg (N := 3) ?hd (cs := #[.int .i64 (0), .int .i64 (0), .int .i64 (0)]) (t := 100) ?hr B ?_; (case hd => rfl); (case hg => rfl); (case hr => first | (go_simp; done) | (go_simp; rfl)); intro g3 w3 hb B F3 L3 E3; have N1_3 := ne1 E3 F1; have N2_3 := ne1 E3 F2; replace F1 := bn F1 hb; replace F2 := bn F2 hb; clear c1_0 c1_1 c1_2; obtain ⟨c1_0, c1_1, c1_2⟩ := cs3 F1; obtain ⟨c3_0, c3_1, c3_2⟩ := cs3 F3; clear hb E3)
    | ((with_reducible refine gate_store (t := 3) (p := 6) rfl ?_); obtain ⟨y0, y1, y2⟩ := cs3 F3; have z0 := fz F3 0; have z1 := fz F3 1; have z2 := fz F3 2; refine sx (t := 100) (t' := 3) (p := 6) (v := ?vo4) ?hg ?ho ?hn 0 [.int .i64 (x0)] [.int .i64 (x0), .int .i64 (0), .int .i64 (0)] ?hr B F3 L3 rfl (Nat.le_of_ble_eq_true rfl) ?_; (case ho => rfl); (case hg => rfl); (case hn => rfl); (case hr => first | (go_simp; done) | (go_simp; rfl)); intro w4 hk B G; replace F1 := bk F1 hk N1_3.out; replace F2 := bk F2 hk N2_3.out; replace F3 := G; clear c1_0 c1_1 c1_2; obtain ⟨c1_0, c1_1, c1_2⟩ := cs3 F1; clear c3_0 c3_1 c3_2; obtain ⟨c3_0, c3_1, c3_2⟩ := cs3 F3; clear hk y0 z0 y1 z1 y2 z2)
    | ((with_reducible refine gate_store (t := 3) (p := 9) rfl ?_); obtain ⟨y0, y1, y2⟩ := cs3 F3; have z0 := fz F3 0; have z1 := fz F3 1; have z2 := fz F3 2; refine sx (t := 100) (t' := 3) (p := 9) (v := ?vo5) ?hg ?ho ?hn 1 [.int .i64 (x1)] [.int .i64 (x0), .int .i64 (x1), .int .i64 (0)] ?hr B F3 L3 rfl (Nat.le_of_ble_eq_true rfl) ?_; (case ho => rfl); (case hg => rfl); (case hn => rfl); (case hr => first | (go_simp; done) | (go_simp; rfl)); intro w5 hk B G; replace F1 := bk F1 hk N1_3.out; replace F2 := bk F2 hk N2_3.out; replace F3 := G; clear c1_0 c1_1 c1_2; obtain ⟨c1_0, c1_1, c1_2⟩ := cs3 F1; clear c3_0 c3_1 c3_2; obtain ⟨c3_0, c3_1, c3_2⟩ := cs3 F3; clear hk y0 z0 y1 z1 y2 z2)
    | ((with_reducible refine gate_store (t := 3) (p := 12) rfl ?_); obtain ⟨y0, y1, y2⟩ := cs3 F3; have z0 := fz F3 0; have z1 := fz F3 1; have z2 := fz F3 2; refine sx (t := 100) (t' := 3) (p := 12) (v := ?vo6) ?hg ?ho ?hn 2 [.int .i64 (x2)] [.int .i64 (x0), .int .i64 (x1), .int .i64 (x2)] ?hr B F3 L3 rfl (Nat.le_of_ble_eq_true rfl) ?_; (case ho => rfl); (case hg => rfl); (case hn => rfl); (case hr => first | (go_simp; done) | (go_simp; rfl)); intro w6 hk B G; replace F2 := bk F2 hk N2_3.out; replace F3 := G; clear c3_0 c3_1 c3_2; obtain ⟨c3_0, c3_1, c3_2⟩ := cs3 F3; clear hk y0 z0 y1 z1 y2 z2)
    | ((with_reducible refine gate_store (t := 100) (p := 2) rfl ?_); obtain ⟨y0, y1, y2⟩ := cs3 F2; have z0 := fz F2 0; have z1 := fz F2 1; have z2 := fz F2 2; refine sx (t := 100) (t' := 100) (p := 2) (v := ?vo7) ?hg ?ho ?hn 0 [.int .i64 (x0), .int .i64 (x1), .int .i64 (x2)] [.int .i64 (x0), .int .i64 (x1), .int .i64 (x2)] ?hr B F2 L2 rfl (Nat.le_of_ble_eq_true rfl) ?_; (case ho => rfl); (case hg => rfl); (case hn => rfl); (case hr => first | (go_simp; done) | (go_simp; rfl)); intro w7 hk B G; replace F2 := G; clear hk y0 z0 y1 z1 y2 z2))
  refine bodyPost_ret (results_single rfl (.cell g2 100 _ (0, 0) _ rfl F2.out hu rfl (by kernel_rfl) .nil)) rfl ?_
  exact ⟨rfl, B.out⟩
theorem laws_toSessionS.M (A0 : Option Addr) (c0 : Nat) (l : List S112) (m : List S100) (w : World) (hr0 : Kd.C k112 w A0 l.length l) (hl : l.length ≤ 1048576) (hm : l.map sesOf = m) : Calls Try.prog 54 #[.slice A0 l.length c0] w fun e w' => ∃ v0, e = .returned v0 ∧ Kd.R k100 100 w' w.heap.size (fun _ => True) v0 m ∧ Below w.heap.size w w' := by
  have B := Aside0.mk (Below.refl w.heap.size w)
  subst hm
  have hu := Try.underlying100
  have hu2 := Try.underlying112
  have HR0 := Aside0.mk hr0
  clear hr0
  go_enter Try.func54, Try.ntmps54
  go_wp2_with ((with_reducible refine gate_dst (N := 7) rfl ?_); refine mkr k100 100 rfl (N := 7) rfl 32 _ _ rfl l.length rfl rfl Try.underlying32 (.agg #[.int .i64 (0), .int .i64 (0), .int .i64 (0)]) 24 info100 rfl (by decide) (by omega) z100 (k100_mkM _ _ _ z100) (by omega) B ?_; intro A kk w1 hb B R Q; clear hb Q)
  have R0 := Aside0.mk (show Ow k100 100 w1 w.heap.size (.slice A l.length kk) ((l.take 0).map sesOf ++ List.replicate (l.length - 0) z100) from R.out)
  clear R
  go_loopg [4] (l.length + 1) (fun kx v4 wr => ∃ j : Nat, v4 = .int .i64 (j : Int) ∧ j ≤ l.length ∧ l.length < j + kx ∧ Aside0 (Below w.heap.size w wr) ∧ Aside0 (Ow k100 100 wr w.heap.size (.slice A l.length kk) ((l.take j).map sesOf ++ List.replicate (l.length - j) z100)))
  case atStart => exact ⟨0, rfl, by omega, by omega, B, R0⟩
  case round =>
    clear R0 B
    obtain ⟨j, rfl, hj, hk, B, R⟩ := hrel
    by_cases hlt : j < l.length
    · obtain ⟨d, rfl⟩ : ∃ d, gk = d + 1 := ⟨gk - 1, by omega⟩
      have hln : ((l.take j).map sesOf ++ List.replicate (l.length - j) z100).length = l.length := by rw [List.length_append, List.length_map, List.length_take, List.length_replicate]; omega
      obtain ⟨g, rfl, hg⟩ := rform R (by omega)
      have hfs := fill_set (f := sesOf) (z := z100) hlt
      have cj : decide ((j : Int) < (l.length : Int)) = true := decide_eq_true (by omega)
      obtain ⟨ad, hA, x0, x1, x2⟩ := at_T112 (cb HR0 B) (j : Int) (by omega) (by omega)
      cases hA
      rw [Int.toNat_natCast] at x0 x1 x2
      have j1 := eq_true (show (j : Int) < (l.length : Int) by omega)
      have j2 := eq_true hlt
      have hy : rd_T112 l (j : Int) = l[j] := by simp [rd_T112, List.getD_eq_getElem?_getD, List.getElem?_eq_getElem hlt]
      rw [← hy] at hfs
      generalize rd_T112 l (j : Int) = y at *
      clear hy
      have HF := Aside0.mk hfs
      clear hfs hln
      go_wp2_with (first
        | (go_at_call 92; with_reducible refine cl (laws_toSession.M y.f0 y.f1 y.f2 _) B fun w5 hb B => ?_; replace R := rn R hb; obtain ⟨cs, hcl, _, hcc, hfz⟩ := rcells z100 R j hlt; have hsz : k100.sz = 3 := rfl; obtain ⟨u0, hu0⟩ : ∃ u, cs[0]? = some u := ⟨_, List.getElem?_eq_getElem (by rw [hcl]; decide)⟩; have q0 := hcc 0 u0 hu0; have z0 := hfz 0; rw [hsz, Nat.add_zero] at q0 z0; obtain ⟨u1, hu1⟩ : ∃ u, cs[1]? = some u := ⟨_, List.getElem?_eq_getElem (by rw [hcl]; decide)⟩; have q1 := hcc 1 u1 hu1; have z1 := hfz 1; rw [hsz] at q1 z1; obtain ⟨u2, hu2⟩ : ∃ u, cs[2]? = some u := ⟨_, List.getElem?_eq_getElem (by rw [hcl]; decide)⟩; have q2 := hcc 2 u2 hu2; have z2 := hfz 2; rw [hsz] at q2 z2; clear hb)
        | ((with_reducible refine gate_store (t := 100) (p := 21) rfl ?_); refine es (t := 100) (p := 21) (v := ?vo1) ?hg ?ho ?hn j 0 [.int .i64 (y.f0), .int .i64 (y.f1), .int .i64 (y.f2)] (sesOf y) ?hr R hlt hcl hcc (Nat.le_refl 3) (by rw [List.take_zero, List.drop_of_length_le (by rw [hcl]; exact Nat.le_refl 3)]; exact k100_mkM _ _ _ (sesOf y)) B hg ?_; (case ho => rfl); (case hg => rfl); (case hn => rfl); (case hr => first | (go_simp; done) | (go_simp; rfl)); intro w6 _ B R; rw [HF.out] at R))
      go_roundg d
      case measure => omega
      case rel => exact ⟨j + 1, congrArg (Value.int .i64) (Int.natCast_succ _).symm, by omega, by omega, B, R⟩
    · have cj : decide ((j : Int) < (l.length : Int)) = false := decide_eq_false (by omega)
      rw [fill_end hlt] at R
      go_wp2
      go_ret
      exact ⟨_, rfl, R.out, B.out⟩

end Go.Proofs.Ytenfiihcdhnamaa.PFnExactStateCut
