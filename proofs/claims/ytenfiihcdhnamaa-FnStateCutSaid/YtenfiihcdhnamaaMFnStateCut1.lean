/- Walks over models, part 1: scutst keyval ipairs keyseq ises istate ipplace mkcap copyP iin copyS ipart c2r icutst same rdr drawn rdv splace sput putlen. -/
import Derived.Test.YtenfiihcdhnamaaPFnStateCutx0
import Derived.Deep.RegionHeld3
import Derived.Lib.Strings
import Derived.Laws.BytesArg
import Derived.Test.YtenfiihcdhnamaaPFnStateCutx19
import Derived.Test.YtenfiihcdhnamaaPFnStateCutx56
import Derived.Test.YtenfiihcdhnamaaPFnStateCutx18
import Derived.Test.YtenfiihcdhnamaaPFnStateCutx39
import Derived.Test.YtenfiihcdhnamaaPFnStateCutx40
import Derived.Test.YtenfiihcdhnamaaPFnStateCutx38
import Derived.Test.YtenfiihcdhnamaaPFnStateCutx46
import Derived.Test.YtenfiihcdhnamaaPFnStateCutx45
import Derived.Test.YtenfiihcdhnamaaMFnStateCut0
namespace Go.Proofs.Ytenfiihcdhnamaa.PFnStateCut
open Go.RowKit Go.Proofs.YtenfiihcdhnamaaW.PrintWords Go.Proofs.YtenfiihcdhnamaaW.PrintLast Go.Proofs.YtenfiihcdhnamaaW.PrintMore
set_option linter.unusedVariables false
set_option linter.unusedSimpArgs false
set_option maxHeartbeats 4000000
set_option maxRecDepth 100000
attribute [local go_sem] leq_str geq_str gtr_str
def spec_StateCut.T4 : Bool × List (List Nat × List Nat) := (true, [([], []), ([], []), ([1], [1]), ([], []), ([2, 3], [2, 3]), ([], []), ([], []), ([6], [6]), ([5, 7, 4], [5, 7]), ([0, 4, 8], [0, 4, 8]), ([], []), ([10, 9, 8, 0, 1, 2, 3, 4, 5, 6, 7, 8, 9, 10], [9, 10])])
def spec_StateCut.B4 : List Nat := [0, 0, 2, 0, 14, 0, 0, 64, 254, 511, 0, 2047]
theorem spec_StateCut.tab4 : rtab .any (opsOf Try.f30 4) = spec_StateCut.T4 := by kernel_rfl
theorem spec_StateCut.bits4 : waitsOk spec_StateCut.T4.2 spec_StateCut.B4 = true := by kernel_rfl
def spec_StateCut.T5 : Bool × List (List Nat × List Nat) := (true, [([], []), ([], []), ([1], [1]), ([], []), ([2, 3], [2, 3]), ([], []), ([], []), ([6], [6]), ([5, 7, 4], [5, 7]), ([0, 4, 8], [0, 4, 8]), ([], []), ([10, 9, 8, 0, 1, 2, 3, 4, 5, 6, 7, 8, 9, 10], [9, 10])])
def spec_StateCut.B5 : List Nat := [0, 0, 2, 0, 14, 0, 0, 64, 254, 511, 0, 2047]
theorem spec_StateCut.tab5 : rtab .any (opsOf Try.f30 5) = spec_StateCut.T5 := by kernel_rfl
theorem spec_StateCut.bits5 : waitsOk spec_StateCut.T5.2 spec_StateCut.B5 = true := by kernel_rfl
def spec_StateCut.T6 : Bool × List (List Nat × List Nat) := (true, [([], []), ([], []), ([0, 0], [0]), ([1, 2, 0, 1, 2], [1]), ([3, 0, 1, 2, 3], [])])
def spec_StateCut.B6 : List Nat := [0, 0, 1, 7, 15]
theorem spec_StateCut.tab6 : rtab .any (opsOf Try.f30 6) = spec_StateCut.T6 := by kernel_rfl
theorem spec_StateCut.bits6 : waitsOk spec_StateCut.T6.2 spec_StateCut.B6 = true := by kernel_rfl
theorem spec_StateCut.Mt (a b : ByteArray) (AP : Option Addr) (cP : Nat) (ps : List S61) (AS : Option Addr) (cS : Nat) (ss : List S100) (c : ByteArray) (w : World) (hrp : Kd.C k61 w AP ps.length ps) (hrs : Kd.C k100 w AS ss.length ss) (hcp : ps.length ≤ cP) (hcs : ss.length ≤ cS) (hs : stB a b ps ss true c = true) (hcut : cutB a b c = true) : Calls Try.prog 30 #[.agg #[.string a, .string b, .slice AP ps.length cP, .slice AS ss.length cS, .bool true, .string c]] w fun e w' => ∃ v2 v3 v4 v5, e = .returned (.tuple #[.agg #[.string (csM ⟨a, b, ps, ss, true, c⟩).1.a, .string (csM ⟨a, b, ps, ss, true, c⟩).1.b, v2, v3, .bool (csM ⟨a, b, ps, ss, true, c⟩).1.t, .string (csM ⟨a, b, ps, ss, true, c⟩).1.c], .agg #[.string (csM ⟨a, b, ps, ss, true, c⟩).2.1.a, .string (csM ⟨a, b, ps, ss, true, c⟩).2.1.b, v4, v5, .bool (csM ⟨a, b, ps, ss, true, c⟩).2.1.t, .string (csM ⟨a, b, ps, ss, true, c⟩).2.1.c], .bool (csM ⟨a, b, ps, ss, true, c⟩).2.2]) ∧ Kd.R k61 61 w' w.heap.size (fun _ => True) v2 (csM ⟨a, b, ps, ss, true, c⟩).1.ps ∧ Kd.R k100 100 w' w.heap.size (fun _ => True) v3 (csM ⟨a, b, ps, ss, true, c⟩).1.ss ∧ Kd.R k61 61 w' w.heap.size (fun _ => True) v4 (csM ⟨a, b, ps, ss, true, c⟩).2.1.ps ∧ Kd.R k100 100 w' w.heap.size (fun _ => True) v5 (csM ⟨a, b, ps, ss, true, c⟩).2.1.ss ∧ (∀ k_, v4.ownBlock = some k_ → v2.ownBlock = some k_ → False) ∧ (∀ k_, v5.ownBlock = some k_ → v3.ownBlock = some k_ → False) ∧ Below w.heap.size w w' := by
 have B := Aside0.mk (Below.refl w.heap.size w)
 have hu := Try.underlying34
 have hu2 := Try.underlying30
 have HRP := Aside0.mk hrp
 have HRS := Aside0.mk hrs
 have HCP := Aside0.mk hcp
 have HCS := Aside0.mk hcs
 clear hrp hrs hcp hcs
 have hsl : ss.length ≤ 1000000 := by
  have := sesB_len (stB_parts.mp hs).2.2.1
  omega
 rw [show csM ⟨a, b, ps, ss, true, c⟩ = (⟨a, c, inM ps a c, ss, false, ⟨#[]⟩⟩, ⟨c, b, inM ps c b, ss, false, ⟨#[]⟩⟩, true) from if_pos (by unfold cutOk SM.ok; rw [hs, hcut]; rfl)]
 go_enter Try.func30, Try.ntmps30
 go_wp2_with (first
  | ((with_reducible refine gate_dst (N := 1) rfl ?_); refine bx ?hg (N := 1) ?hd (cs := #[.string a, .string b, .slice AP ps.length cP, .slice AS ss.length cS, .bool true, .string c]) (t := 34) ?hr B ?_; (case hd | hg => rfl); (case hr => go_simp; first | done | rfl); intro g1 w1 hb B F1 L1 E1; obtain ⟨c1_0, c1_1, c1_2, c1_3, c1_4, c1_5⟩ := cs6 F1; clear hb E1)
  | ((with_reducible refine gate_dst (N := 2) rfl ?_); refine bx ?hg (N := 2) ?hd (cs := #[.string (⟨#[]⟩ : ByteArray), .string (⟨#[]⟩ : ByteArray), .slice none 0 0, .slice none 0 0, .bool false, .string (⟨#[]⟩ : ByteArray)]) (t := 34) ?hr B ?_; (case hd | hg => rfl); (case hr => go_simp; first | done | rfl); intro g2 w2 hb B F2 L2 E2; have N1_2 := ne1 E2 F1; replace F1 := bn F1 hb; clear c1_0 c1_1 c1_2 c1_3 c1_4 c1_5; obtain ⟨c1_0, c1_1, c1_2, c1_3, c1_4, c1_5⟩ := cs6 F1; clear hb E2)
  | ((with_reducible refine gate_dst (N := 3) rfl ?_); refine bx ?hg (N := 3) ?hd (cs := #[.string (⟨#[]⟩ : ByteArray), .string (⟨#[]⟩ : ByteArray), .slice none 0 0, .slice none 0 0, .bool false, .string (⟨#[]⟩ : ByteArray)]) (t := 34) ?hr B ?_; (case hd | hg => rfl); (case hr => go_simp; first | done | rfl); intro g3 w3 hb B F3 L3 E3; have N1_3 := ne1 E3 F1; have N2_3 := ne1 E3 F2; replace F1 := bn F1 hb; replace F2 := bn F2 hb; clear c1_0 c1_1 c1_2 c1_3 c1_4 c1_5; obtain ⟨c1_0, c1_1, c1_2, c1_3, c1_4, c1_5⟩ := cs6 F1; clear hb E3)
  | (go_at_call 51; with_reducible refine cl (spec_IntervalCut.Mt a b c hcut _) B fun w4 hb B => ?_; replace F1 := bn F1 hb; replace F2 := bn F2 hb; replace F3 := bn F3 hb; clear c1_0 c1_1 c1_2 c1_3 c1_4 c1_5; obtain ⟨c1_0, c1_1, c1_2, c1_3, c1_4, c1_5⟩ := cs6 F1; clear hb)
  | ((with_reducible refine gate_dst (N := 5) rfl ?_); refine bx ?hg (N := 5) ?hd (cs := #[.string (⟨#[]⟩ : ByteArray), .string (⟨#[]⟩ : ByteArray)]) (t := 30) ?hr B ?_; (case hd | hg => rfl); (case hr => go_simp; first | done | rfl); intro g5 w5 hb B F5 L5 E5; have N1_5 := ne1 E5 F1; have N2_5 := ne1 E5 F2; have N3_5 := ne1 E5 F3; replace F1 := bn F1 hb; replace F2 := bn F2 hb; replace F3 := bn F3 hb; clear c1_0 c1_1 c1_2 c1_3 c1_4 c1_5; obtain ⟨c1_0, c1_1, c1_2, c1_3, c1_4, c1_5⟩ := cs6 F1; obtain ⟨c5_0, c5_1⟩ := cs2 F5; clear hb E5)
  | ((with_reducible refine gate_dst (N := 6) rfl ?_); refine bx ?hg (N := 6) ?hd (cs := #[.string (⟨#[]⟩ : ByteArray), .string (⟨#[]⟩ : ByteArray)]) (t := 30) ?hr B ?_; (case hd | hg => rfl); (case hr => go_simp; first | done | rfl); intro g6 w6 hb B F6 L6 E6; have N1_6 := ne1 E6 F1; have N2_6 := ne1 E6 F2; have N3_6 := ne1 E6 F3; have N5_6 := ne1 E6 F5; replace F1 := bn F1 hb; replace F2 := bn F2 hb; replace F3 := bn F3 hb; replace F5 := bn F5 hb; clear c1_0 c1_1 c1_2 c1_3 c1_4 c1_5; obtain ⟨c1_0, c1_1, c1_2, c1_3, c1_4, c1_5⟩ := cs6 F1; clear c5_0 c5_1; obtain ⟨c5_0, c5_1⟩ := cs2 F5; obtain ⟨c6_0, c6_1⟩ := cs2 F6; clear hb E6)
  | ((with_reducible refine gate_store (t := 30) (p := 5) rfl ?_); obtain ⟨y0, y1, z0, z1⟩ := cz2 F5; refine sx (t := 30) (t' := 30) (p := 5) (v := ?vo7) ?hg ?ho ?hn 0 [.string a, .string c] [.string a, .string c] ?hr B F5 L5 rfl (Nat.le_of_ble_eq_true rfl) ?_; (case ho | hg | hn => rfl); (case hr => go_simp; first | done | rfl); intro w7 hk B G; replace F1 := bk F1 hk N1_5.out; replace F2 := bk F2 hk N2_5.out; replace F3 := bk F3 hk N3_5.out; replace F6 := bk F6 hk N5_6.out.symm; replace F5 := G; clear c1_0 c1_1 c1_2 c1_3 c1_4 c1_5; obtain ⟨c1_0, c1_1, c1_2, c1_3, c1_4, c1_5⟩ := cs6 F1; clear c5_0 c5_1; obtain ⟨c5_0, c5_1⟩ := cs2 F5; clear c6_0 c6_1; obtain ⟨c6_0, c6_1⟩ := cs2 F6; clear hk y0 z0 y1 z1)
  | ((with_reducible refine gate_store (t := 30) (p := 6) rfl ?_); obtain ⟨y0, y1, z0, z1⟩ := cz2 F6; refine sx (t := 30) (t' := 30) (p := 6) (v := ?vo8) ?hg ?ho ?hn 0 [.string c, .string b] [.string c, .string b] ?hr B F6 L6 rfl (Nat.le_of_ble_eq_true rfl) ?_; (case ho | hg | hn => rfl); (case hr => go_simp; first | done | rfl); intro w8 hk B G; replace F1 := bk F1 hk N1_6.out; replace F2 := bk F2 hk N2_6.out; replace F3 := bk F3 hk N3_6.out; replace F5 := bk F5 hk N5_6.out; replace F6 := G; clear c1_0 c1_1 c1_2 c1_3 c1_4 c1_5; obtain ⟨c1_0, c1_1, c1_2, c1_3, c1_4, c1_5⟩ := cs6 F1; clear c5_0 c5_1; obtain ⟨c5_0, c5_1⟩ := cs2 F5; clear c6_0 c6_1; obtain ⟨c6_0, c6_1⟩ := cs2 F6; clear hk y0 z0 y1 z1)
  | (go_at_call 12; with_reducible refine cl (spec_StateValid.M a b _ _ ps _ _ ss true c _ (cb HRP B) (cb HRS B)) B fun w9 hb B => ?_; replace F1 := bn F1 hb; replace F2 := bn F2 hb; replace F3 := bn F3 hb; replace F5 := bn F5 hb; replace F6 := bn F6 hb; clear c1_0 c1_1 c1_2 c1_3 c1_4 c1_5; obtain ⟨c1_0, c1_1, c1_2, c1_3, c1_4, c1_5⟩ := cs6 F1; clear c5_0 c5_1; obtain ⟨c5_0, c5_1⟩ := cs2 F5; clear c6_0 c6_1; obtain ⟨c6_0, c6_1⟩ := cs2 F6; clear hb))
 all_goals (
  refine rg (n := 12) (S := fun W => W.heap[g5]? = some (.cells #[.string a, .string c] 30 (0, 0)) ∧ W.heap[g1]? = some (.cells #[.string a, .string b, .slice AP ps.length cP, .slice AS ss.length cS, .bool true, .string c] 34 (0, 0))) (ds := []) #[false, false, false, false, false, false, false, false, false, false, false, false] (by kernel_rfl) rfl rfl ⟨F5.out, F1.out⟩ id B (fun w10 hb B hHeld => ?_)
  refine with_tabW spec_StateCut.tab4 spec_StateCut.bits4 (fun HT_ HW_ => ?_)
  replace F1 := bn F1 hb
  replace F2 := bn F2 hb
  replace F3 := bn F3 hb
  replace F5 := bn F5 hb
  replace F6 := bn F6 hb
  clear hb
  refine join_ 1 (bits 12 2047) (σ := Option Addr × Nat × Option Addr × Nat × Option Addr × Nat × List S100 × Nat) (fun (AIs37, kIs37, AL38, kL38, AL41, kL41, z41, g8) => [(33, .agg #[.string a, .string c]), (34, .pointer (some ⟨g1, 2, none⟩)), (35, .slice AP ps.length cP), (36, .agg #[.string a, .string c]), (37, .slice AIs37 (inM ps a c).length kIs37), (38, .slice AL38 ([] : List S100).length kL38), (39, .pointer (some ⟨g1, 3, none⟩)), (40, .slice AS ss.length cS), (41, .slice AL41 z41.length kL41), (42, .agg #[.string a, .string c, .slice AIs37 (inM ps a c).length kIs37, .slice AL41 z41.length kL41, .bool false, .string (⟨#[]⟩ : ByteArray)]), (8, .pointer (some ⟨g8, 0, none⟩))]) (fun (AIs37, kIs37, AL38, kL38, AL41, kL41, z41, g8) W => Aside0 (Below w.heap.size w W) ∧ Aside0 (W.heap[g1]? = some (.cells #[.string a, .string b, .slice AP ps.length cP, .slice AS ss.length cS, .bool true, .string c] 34 (0, 0))) ∧ Aside0 (W.heap[g2]? = some (.cells #[.string (⟨#[]⟩ : ByteArray), .string (⟨#[]⟩ : ByteArray), .slice none 0 0, .slice none 0 0, .bool false, .string (⟨#[]⟩ : ByteArray)] 34 (0, 0))) ∧ Aside0 (W.heap[g3]? = some (.cells #[.string (⟨#[]⟩ : ByteArray), .string (⟨#[]⟩ : ByteArray), .slice none 0 0, .slice none 0 0, .bool false, .string (⟨#[]⟩ : ByteArray)] 34 (0, 0))) ∧ Aside0 (W.heap[g5]? = some (.cells #[.string a, .string c] 30 (0, 0))) ∧ Aside0 (W.heap[g6]? = some (.cells #[.string c, .string b] 30 (0, 0))) ∧ Aside0 (W.heap[g8]? = some (.cells #[.string (⟨#[]⟩ : ByteArray), .string (⟨#[]⟩ : ByteArray), .slice none 0 0, .slice none 0 0, .bool false, .string (⟨#[]⟩ : ByteArray)] 34 (0, 0))) ∧ Aside0 (w.heap.size ≤ g8) ∧ Aside0 (g1 ≠ g8) ∧ Aside0 (g2 ≠ g8) ∧ Aside0 (g3 ≠ g8) ∧ Aside0 (g5 ≠ g8) ∧ Aside0 (g6 ≠ g8) ∧ Aside0 (Ow k61 61 W w.heap.size (.slice AIs37 (inM ps a c).length kIs37) (inM ps a c)) ∧ Aside0 (Ow k100 100 W w.heap.size (.slice AL41 z41.length kL41) z41) ∧ ss = z41) ?_ (fun J => ?_)
  rotate_left
  ·refine tv 0 (some 33) (v := ?_) (bits 12 1) HT_ HW_ (by kernel_rfl) rfl rfl (fun _ _ _ h => h) (by kernel_rfl) hHeld ?_ ?_; rotate_left; (intro w' hS; obtain ⟨s0, s1⟩ := hS; obtain ⟨q0, q1⟩ := cs2 (Aside0.mk s0); go_simp; with_reducible rfl)
   refine pv 1 (some 34) (v := ?_) (bits 12 3) HT_ (by kernel_rfl) rfl rfl (fun _ _ _ h => h) (by kernel_rfl) ?_ ?_; rotate_left; (intro w'; go_simp; with_reducible rfl)
   refine tv 2 (some 35) (v := ?_) (bits 12 7) HT_ HW_ (by kernel_rfl) rfl rfl (fun _ _ _ h => h) (by kernel_rfl) hHeld ?_ ?_; rotate_left; (intro w' hS; obtain ⟨s0, s1⟩ := hS; obtain ⟨q0, q1, q2, q3, q4, q5⟩ := cs6 (Aside0.mk s1); go_simp; with_reducible rfl)
   refine tv 3 (some 36) (v := ?_) (bits 12 15) HT_ HW_ (by kernel_rfl) rfl rfl (fun _ _ _ h => h) (by kernel_rfl) hHeld ?_ ?_; rotate_left; (intro w' hS; obtain ⟨s0, s1⟩ := hS; obtain ⟨q0, q1⟩ := cs2 (Aside0.mk s0); go_simp; with_reducible rfl)
   refine pv 6 (some 39) (v := ?_) (bits 12 79) HT_ (by kernel_rfl) rfl rfl (fun _ _ _ h => h) (by kernel_rfl) ?_ ?_; rotate_left; (intro w'; go_simp; with_reducible rfl)
   refine tv 7 (some 40) (v := ?_) (bits 12 207) HT_ HW_ (by kernel_rfl) rfl rfl (fun _ _ _ h => h) (by kernel_rfl) hHeld ?_ ?_; rotate_left; (intro w' hS; obtain ⟨s0, s1⟩ := hS; obtain ⟨q0, q1, q2, q3, q4, q5⟩ := cs6 (Aside0.mk s1); go_simp; with_reducible rfl)
   refine norm_ (a' := ?_) ?_ ?_
   rotate_left
   ·simp only [Act.put, za, zb, zc, i64_w, i32_w]
    rfl
   refine three_ (i := 4) (j := 5) (k := 10) (Ni := some 37) (Nj := some 38) (Nk := some 8) (bits 12 223) (bits 12 239) (bits 12 1231) rfl rfl rfl rfl rfl rfl (three_of HT_.out (by kernel_rfl)) (by decide) (by decide) (by decide) (fun K hK => ?_) (fun K hK => ?_) (fun K hK => ?_)
   ·refine goes_ Try.func74 (by kernel_rfl) rfl #[.slice AP ps.length cP, .agg #[.string a, .string c]] (by rfl) rfl rfl (by (try simp only [List.map_toArray, List.map_cons, List.map_nil]); rfl) ?_
    with_reducible refine cr (spec_PairsIn.M _ _ ps a c _ (cb HRP B) HCP.out) B fun AIs37 kIs37 w11 hb B RIs37 QIs37 => ?_
    replace F1 := bn F1 hb
    replace F2 := bn F2 hb
    replace F3 := bn F3 hb
    replace F5 := bn F5 hb
    replace F6 := bn F6 hb
    clear hb
    refine ⟨_, rfl, ?_⟩
    refine hK.out _ _ ⟨F5.out, F1.out⟩ (fun hHeld => ?_)
    clear hK K
    refine norm_ (a' := ?_) ?_ ?_
    rotate_left
    ·show Act.put _ (some 37) _ = _
     simp only [Act.put, za, zb, zc, i64_w, i32_w]
     rfl
    clear QIs37
    refine two_ (i := 5) (j := 10) (Ni := some 38) (Nj := some 8) (bits 12 255) (bits 12 1247) rfl rfl rfl rfl (two_of HT_.out (by kernel_rfl)) (by decide) (by decide) (fun K hK => ?_) (fun K hK => ?_)
    ·refine lts k100 100 (by rfl) rfl ([] : List S100) [] ?hr (Reps.none _ _) (by simp) B (fun z38 hz38 AL38 kL38 w12 hb B RL38 QL38 => ?_)
     (case hr => go_simp; first | done | rfl)
     have DIs37_L38 := fr QL38 RIs37
     replace F1 := bn F1 hb
     replace F2 := bn F2 hb
     replace F3 := bn F3 hb
     replace F5 := bn F5 hb
     replace F6 := bn F6 hb
     replace RIs37 := rn RIs37 hb
     clear hb QL38
     subst hz38
     refine hK.out _ _ ⟨F5.out, F1.out⟩ (fun hHeld => ?_)
     clear hK K
     refine norm_ (a' := ?_) ?_ ?_
     rotate_left
     ·show Act.put _ (some 38) _ = _
      simp only [Act.put, za, zb, zc, i64_w, i32_w]
      rfl
     refine two_ (i := 8) (j := 10) (Ni := some 41) (Nj := some 8) (bits 12 511) (bits 12 1279) rfl rfl rfl rfl (two_of HT_.out (by kernel_rfl)) (by decide) (by decide) (fun K hK => ?_) (fun K hK => ?_)
     ·refine aps k100 100 (by rfl) rfl (.tmp 38) (.tmp 40) 32 (.agg #[.int .i64 (0), .int .i64 (0), .int .i64 (0)]) 24 rfl Try.underlying32 info100 rfl (by decide) (by omega) rfl rfl RL38 (cb HRS B) (fun x cs h => by rw [k100_open h]; exact k100_mkM _ _ _ x) (by first | omega | (simp only [List.length_append, List.length_nil, List.length_cons]; omega)) B (fun z41 hz41 AL41 kL41 w13 hg B RL41 hat => ?_)
      replace F1 := bga F1 hg RL38 (by decide)
      replace F2 := bga F2 hg RL38 (by decide)
      replace F3 := bga F3 hg RL38 (by decide)
      replace F5 := bga F5 hg RL38 (by decide)
      replace F6 := bga F6 hg RL38 (by decide)
      replace RIs37 := rga RIs37 rfl hg (dty RL38 RIs37 (by decide))
      clear hg hat
      refine hK.out _ _ ⟨F5.out, F1.out⟩ (fun hHeld => ?_)
      clear hK K
      refine norm_ (a' := ?_) ?_ ?_
      rotate_left
      ·show Act.put _ (some 41) _ = _
       simp only [Act.put, za, zb, zc, i64_w, i32_w]
       rfl
      refine pv 9 (some 42) (v := ?_) (bits 12 1023) HT_ (by kernel_rfl) rfl rfl (fun _ _ _ h => h) (by kernel_rfl) ?_ ?_; rotate_left; (intro w'; go_simp; with_reducible rfl)
      refine norm_ (a' := ?_) ?_ ?_
      rotate_left
      ·simp only [Act.put, za, zb, zc, i64_w, i32_w]
       rfl
      refine one_ (i := 10) (N := some 8) (bits 12 2047) rfl rfl (one_of HT_.out (by kernel_rfl)) (by decide) (fun K hK => ?_)
      refine bxs (cs := #[.string (⟨#[]⟩ : ByteArray), .string (⟨#[]⟩ : ByteArray), .slice none 0 0, .slice none 0 0, .bool false, .string (⟨#[]⟩ : ByteArray)]) (t := 34) (by rfl) rfl ?hr B (fun g8 w14 hb B F8 L8 E8 => ?_)
      (case hr => go_simp; first | done | rfl)
      have N1_8 := ne1 E8 F1
      have N2_8 := ne1 E8 F2
      have N3_8 := ne1 E8 F3
      have N5_8 := ne1 E8 F5
      have N6_8 := ne1 E8 F6
      replace F1 := bn F1 hb
      replace F2 := bn F2 hb
      replace F3 := bn F3 hb
      replace F5 := bn F5 hb
      replace F6 := bn F6 hb
      replace RIs37 := rn RIs37 hb
      replace RL41 := rn RL41 hb
      clear hb E8
      refine hK.out _ _ ⟨F5.out, F1.out⟩ (fun hHeld => ?_)
      clear hK K
      refine norm_ (a' := ?_) ?_ ?_
      rotate_left
      ·show Act.put _ (some 8) _ = _
       simp only [Act.put, za, zb, zc, i64_w, i32_w]
       rfl
      refine norm_ (a' := _) ?_ (J ⟨AIs37, kIs37, AL38, kL38, AL41, kL41, z41, g8⟩ _ ⟨B, F1, F2, F3, F5, F6, F8, L8, N1_8, N2_8, N3_8, N5_8, N6_8, RIs37, RL41, (by rw [← hz41]; rfl)⟩)
      simp only [putAll, Act.put, za, zb, zc]
      try rfl
     ·refine bxs (cs := #[.string (⟨#[]⟩ : ByteArray), .string (⟨#[]⟩ : ByteArray), .slice none 0 0, .slice none 0 0, .bool false, .string (⟨#[]⟩ : ByteArray)]) (t := 34) (by rfl) rfl ?hr B (fun g8 w13 hb B F8 L8 E8 => ?_)
      (case hr => go_simp; first | done | rfl)
      have N1_8 := ne1 E8 F1
      have N2_8 := ne1 E8 F2
      have N3_8 := ne1 E8 F3
      have N5_8 := ne1 E8 F5
      have N6_8 := ne1 E8 F6
      replace F1 := bn F1 hb
      replace F2 := bn F2 hb
      replace F3 := bn F3 hb
      replace F5 := bn F5 hb
      replace F6 := bn F6 hb
      replace RIs37 := rn RIs37 hb
      replace RL38 := rn RL38 hb
      clear hb E8
      refine hK.out _ _ ⟨F5.out, F1.out⟩ (fun hHeld => ?_)
      clear hK K
      refine norm_ (a' := ?_) ?_ ?_
      rotate_left
      ·show Act.put _ (some 8) _ = _
       simp only [Act.put, za, zb, zc, i64_w, i32_w]
       rfl
      refine one_ (i := 8) (N := some 41) (bits 12 1535) rfl rfl (one_of HT_.out (by kernel_rfl)) (by decide) (fun K hK => ?_)
      refine aps k100 100 (by rfl) rfl (.tmp 38) (.tmp 40) 32 (.agg #[.int .i64 (0), .int .i64 (0), .int .i64 (0)]) 24 rfl Try.underlying32 info100 rfl (by decide) (by omega) rfl rfl RL38 (cb HRS B) (fun x cs h => by rw [k100_open h]; exact k100_mkM _ _ _ x) (by first | omega | (simp only [List.length_append, List.length_nil, List.length_cons]; omega)) B (fun z41 hz41 AL41 kL41 w14 hg B RL41 hat => ?_)
      replace F1 := bga F1 hg RL38 (by decide)
      replace F2 := bga F2 hg RL38 (by decide)
      replace F3 := bga F3 hg RL38 (by decide)
      replace F5 := bga F5 hg RL38 (by decide)
      replace F6 := bga F6 hg RL38 (by decide)
      replace F8 := bga F8 hg RL38 (by decide)
      replace RIs37 := rga RIs37 rfl hg (dty RL38 RIs37 (by decide))
      clear hg hat
      refine hK.out _ _ ⟨F5.out, F1.out⟩ (fun hHeld => ?_)
      clear hK K
      refine norm_ (a' := ?_) ?_ ?_
      rotate_left
      ·show Act.put _ (some 41) _ = _
       simp only [Act.put, za, zb, zc, i64_w, i32_w]
       rfl
      refine pv 9 (some 42) (v := ?_) (bits 12 2047) HT_ (by kernel_rfl) rfl rfl (fun _ _ _ h => h) (by kernel_rfl) ?_ ?_; rotate_left; (intro w'; go_simp; with_reducible rfl)
      refine norm_ (a' := ?_) ?_ ?_
      rotate_left
      ·simp only [Act.put, za, zb, zc, i64_w, i32_w]
       rfl
      refine norm_ (a' := _) ?_ (J ⟨AIs37, kIs37, AL38, kL38, AL41, kL41, z41, g8⟩ _ ⟨B, F1, F2, F3, F5, F6, F8, L8, N1_8, N2_8, N3_8, N5_8, N6_8, RIs37, RL41, (by rw [← hz41]; rfl)⟩)
      simp only [putAll, Act.put, za, zb, zc]
      try rfl
    ·refine bxs (cs := #[.string (⟨#[]⟩ : ByteArray), .string (⟨#[]⟩ : ByteArray), .slice none 0 0, .slice none 0 0, .bool false, .string (⟨#[]⟩ : ByteArray)]) (t := 34) (by rfl) rfl ?hr B (fun g8 w12 hb B F8 L8 E8 => ?_)
     (case hr => go_simp; first | done | rfl)
     have N1_8 := ne1 E8 F1
     have N2_8 := ne1 E8 F2
     have N3_8 := ne1 E8 F3
     have N5_8 := ne1 E8 F5
     have N6_8 := ne1 E8 F6
     replace F1 := bn F1 hb
     replace F2 := bn F2 hb
     replace F3 := bn F3 hb
     replace F5 := bn F5 hb
     replace F6 := bn F6 hb
     replace RIs37 := rn RIs37 hb
     clear hb E8
     refine hK.out _ _ ⟨F5.out, F1.out⟩ (fun hHeld => ?_)
     clear hK K
     refine norm_ (a' := ?_) ?_ ?_
     rotate_left
     ·show Act.put _ (some 8) _ = _
      simp only [Act.put, za, zb, zc, i64_w, i32_w]
      rfl
     refine one_ (i := 5) (N := some 38) (bits 12 1279) rfl rfl (one_of HT_.out (by kernel_rfl)) (by decide) (fun K hK => ?_)
     refine lts k100 100 (by rfl) rfl ([] : List S100) [] ?hr (Reps.none _ _) (by simp) B (fun z38 hz38 AL38 kL38 w13 hb B RL38 QL38 => ?_)
     (case hr => go_simp; first | done | rfl)
     have DIs37_L38 := fr QL38 RIs37
     replace F1 := bn F1 hb
     replace F2 := bn F2 hb
     replace F3 := bn F3 hb
     replace F5 := bn F5 hb
     replace F6 := bn F6 hb
     replace F8 := bn F8 hb
     replace RIs37 := rn RIs37 hb
     clear hb QL38
     subst hz38
     refine hK.out _ _ ⟨F5.out, F1.out⟩ (fun hHeld => ?_)
     clear hK K
     refine norm_ (a' := ?_) ?_ ?_
     rotate_left
     ·show Act.put _ (some 38) _ = _
      simp only [Act.put, za, zb, zc, i64_w, i32_w]
      rfl
     refine one_ (i := 8) (N := some 41) (bits 12 1535) rfl rfl (one_of HT_.out (by kernel_rfl)) (by decide) (fun K hK => ?_)
     refine aps k100 100 (by rfl) rfl (.tmp 38) (.tmp 40) 32 (.agg #[.int .i64 (0), .int .i64 (0), .int .i64 (0)]) 24 rfl Try.underlying32 info100 rfl (by decide) (by omega) rfl rfl RL38 (cb HRS B) (fun x cs h => by rw [k100_open h]; exact k100_mkM _ _ _ x) (by first | omega | (simp only [List.length_append, List.length_nil, List.length_cons]; omega)) B (fun z41 hz41 AL41 kL41 w14 hg B RL41 hat => ?_)
     replace F1 := bga F1 hg RL38 (by decide)
     replace F2 := bga F2 hg RL38 (by decide)
     replace F3 := bga F3 hg RL38 (by decide)
     replace F5 := bga F5 hg RL38 (by decide)
     replace F6 := bga F6 hg RL38 (by decide)
     replace F8 := bga F8 hg RL38 (by decide)
     replace RIs37 := rga RIs37 rfl hg (dty RL38 RIs37 (by decide))
     clear hg hat
     refine hK.out _ _ ⟨F5.out, F1.out⟩ (fun hHeld => ?_)
     clear hK K
     refine norm_ (a' := ?_) ?_ ?_
     rotate_left
     ·show Act.put _ (some 41) _ = _
      simp only [Act.put, za, zb, zc, i64_w, i32_w]
      rfl
     refine pv 9 (some 42) (v := ?_) (bits 12 2047) HT_ (by kernel_rfl) rfl rfl (fun _ _ _ h => h) (by kernel_rfl) ?_ ?_; rotate_left; (intro w'; go_simp; with_reducible rfl)
     refine norm_ (a' := ?_) ?_ ?_
     rotate_left
     ·simp only [Act.put, za, zb, zc, i64_w, i32_w]
      rfl
     refine norm_ (a' := _) ?_ (J ⟨AIs37, kIs37, AL38, kL38, AL41, kL41, z41, g8⟩ _ ⟨B, F1, F2, F3, F5, F6, F8, L8, N1_8, N2_8, N3_8, N5_8, N6_8, RIs37, RL41, (by rw [← hz41]; rfl)⟩)
     simp only [putAll, Act.put, za, zb, zc]
     try rfl
   ·refine lts k100 100 (by rfl) rfl ([] : List S100) [] ?hr (Reps.none _ _) (by simp) B (fun z38 hz38 AL38 kL38 w11 hb B RL38 QL38 => ?_)
    (case hr => go_simp; first | done | rfl)
    replace F1 := bn F1 hb
    replace F2 := bn F2 hb
    replace F3 := bn F3 hb
    replace F5 := bn F5 hb
    replace F6 := bn F6 hb
    clear hb QL38
    subst hz38
    refine hK.out _ _ ⟨F5.out, F1.out⟩ (fun hHeld => ?_)
    clear hK K
    refine norm_ (a' := ?_) ?_ ?_
    rotate_left
    ·show Act.put _ (some 38) _ = _
     simp only [Act.put, za, zb, zc, i64_w, i32_w]
     rfl
    refine two_ (i := 4) (j := 10) (Ni := some 37) (Nj := some 8) (bits 12 255) (bits 12 1263) rfl rfl rfl rfl (two_of HT_.out (by kernel_rfl)) (by decide) (by decide) (fun K hK => ?_) (fun K hK => ?_)
    ·refine goes_ Try.func74 (by kernel_rfl) rfl #[.slice AP ps.length cP, .agg #[.string a, .string c]] (by rfl) rfl rfl (by (try simp only [List.map_toArray, List.map_cons, List.map_nil]); rfl) ?_
     with_reducible refine cr (spec_PairsIn.M _ _ ps a c _ (cb HRP B) HCP.out) B fun AIs37 kIs37 w12 hb B RIs37 QIs37 => ?_
     have DL38_Is37 := fr QIs37 RL38
     replace F1 := bn F1 hb
     replace F2 := bn F2 hb
     replace F3 := bn F3 hb
     replace F5 := bn F5 hb
     replace F6 := bn F6 hb
     replace RL38 := rn RL38 hb
     clear hb
     refine ⟨_, rfl, ?_⟩
     refine hK.out _ _ ⟨F5.out, F1.out⟩ (fun hHeld => ?_)
     clear hK K
     refine norm_ (a' := ?_) ?_ ?_
     rotate_left
     ·show Act.put _ (some 37) _ = _
      simp only [Act.put, za, zb, zc, i64_w, i32_w]
      rfl
     clear QIs37
     refine two_ (i := 8) (j := 10) (Ni := some 41) (Nj := some 8) (bits 12 511) (bits 12 1279) rfl rfl rfl rfl (two_of HT_.out (by kernel_rfl)) (by decide) (by decide) (fun K hK => ?_) (fun K hK => ?_)
     ·refine aps k100 100 (by rfl) rfl (.tmp 38) (.tmp 40) 32 (.agg #[.int .i64 (0), .int .i64 (0), .int .i64 (0)]) 24 rfl Try.underlying32 info100 rfl (by decide) (by omega) rfl rfl RL38 (cb HRS B) (fun x cs h => by rw [k100_open h]; exact k100_mkM _ _ _ x) (by first | omega | (simp only [List.length_append, List.length_nil, List.length_cons]; omega)) B (fun z41 hz41 AL41 kL41 w13 hg B RL41 hat => ?_)
      replace F1 := bga F1 hg RL38 (by decide)
      replace F2 := bga F2 hg RL38 (by decide)
      replace F3 := bga F3 hg RL38 (by decide)
      replace F5 := bga F5 hg RL38 (by decide)
      replace F6 := bga F6 hg RL38 (by decide)
      replace RIs37 := rga RIs37 rfl hg (dty RL38 RIs37 (by decide))
      clear hg hat
      refine hK.out _ _ ⟨F5.out, F1.out⟩ (fun hHeld => ?_)
      clear hK K
      refine norm_ (a' := ?_) ?_ ?_
      rotate_left
      ·show Act.put _ (some 41) _ = _
       simp only [Act.put, za, zb, zc, i64_w, i32_w]
       rfl
      refine pv 9 (some 42) (v := ?_) (bits 12 1023) HT_ (by kernel_rfl) rfl rfl (fun _ _ _ h => h) (by kernel_rfl) ?_ ?_; rotate_left; (intro w'; go_simp; with_reducible rfl)
      refine norm_ (a' := ?_) ?_ ?_
      rotate_left
      ·simp only [Act.put, za, zb, zc, i64_w, i32_w]
       rfl
      refine one_ (i := 10) (N := some 8) (bits 12 2047) rfl rfl (one_of HT_.out (by kernel_rfl)) (by decide) (fun K hK => ?_)
      refine bxs (cs := #[.string (⟨#[]⟩ : ByteArray), .string (⟨#[]⟩ : ByteArray), .slice none 0 0, .slice none 0 0, .bool false, .string (⟨#[]⟩ : ByteArray)]) (t := 34) (by rfl) rfl ?hr B (fun g8 w14 hb B F8 L8 E8 => ?_)
      (case hr => go_simp; first | done | rfl)
      have N1_8 := ne1 E8 F1
      have N2_8 := ne1 E8 F2
      have N3_8 := ne1 E8 F3
      have N5_8 := ne1 E8 F5
      have N6_8 := ne1 E8 F6
      replace F1 := bn F1 hb
      replace F2 := bn F2 hb
      replace F3 := bn F3 hb
      replace F5 := bn F5 hb
      replace F6 := bn F6 hb
      replace RIs37 := rn RIs37 hb
      replace RL41 := rn RL41 hb
      clear hb E8
      refine hK.out _ _ ⟨F5.out, F1.out⟩ (fun hHeld => ?_)
      clear hK K
      refine norm_ (a' := ?_) ?_ ?_
      rotate_left
      ·show Act.put _ (some 8) _ = _
       simp only [Act.put, za, zb, zc, i64_w, i32_w]
       rfl
      refine norm_ (a' := _) ?_ (J ⟨AIs37, kIs37, AL38, kL38, AL41, kL41, z41, g8⟩ _ ⟨B, F1, F2, F3, F5, F6, F8, L8, N1_8, N2_8, N3_8, N5_8, N6_8, RIs37, RL41, (by rw [← hz41]; rfl)⟩)
      simp only [putAll, Act.put, za, zb, zc]
      try rfl
     ·refine bxs (cs := #[.string (⟨#[]⟩ : ByteArray), .string (⟨#[]⟩ : ByteArray), .slice none 0 0, .slice none 0 0, .bool false, .string (⟨#[]⟩ : ByteArray)]) (t := 34) (by rfl) rfl ?hr B (fun g8 w13 hb B F8 L8 E8 => ?_)
      (case hr => go_simp; first | done | rfl)
      have N1_8 := ne1 E8 F1
      have N2_8 := ne1 E8 F2
      have N3_8 := ne1 E8 F3
      have N5_8 := ne1 E8 F5
      have N6_8 := ne1 E8 F6
      replace F1 := bn F1 hb
      replace F2 := bn F2 hb
      replace F3 := bn F3 hb
      replace F5 := bn F5 hb
      replace F6 := bn F6 hb
      replace RL38 := rn RL38 hb
      replace RIs37 := rn RIs37 hb
      clear hb E8
      refine hK.out _ _ ⟨F5.out, F1.out⟩ (fun hHeld => ?_)
      clear hK K
      refine norm_ (a' := ?_) ?_ ?_
      rotate_left
      ·show Act.put _ (some 8) _ = _
       simp only [Act.put, za, zb, zc, i64_w, i32_w]
       rfl
      refine one_ (i := 8) (N := some 41) (bits 12 1535) rfl rfl (one_of HT_.out (by kernel_rfl)) (by decide) (fun K hK => ?_)
      refine aps k100 100 (by rfl) rfl (.tmp 38) (.tmp 40) 32 (.agg #[.int .i64 (0), .int .i64 (0), .int .i64 (0)]) 24 rfl Try.underlying32 info100 rfl (by decide) (by omega) rfl rfl RL38 (cb HRS B) (fun x cs h => by rw [k100_open h]; exact k100_mkM _ _ _ x) (by first | omega | (simp only [List.length_append, List.length_nil, List.length_cons]; omega)) B (fun z41 hz41 AL41 kL41 w14 hg B RL41 hat => ?_)
      replace F1 := bga F1 hg RL38 (by decide)
      replace F2 := bga F2 hg RL38 (by decide)
      replace F3 := bga F3 hg RL38 (by decide)
      replace F5 := bga F5 hg RL38 (by decide)
      replace F6 := bga F6 hg RL38 (by decide)
      replace F8 := bga F8 hg RL38 (by decide)
      replace RIs37 := rga RIs37 rfl hg (dty RL38 RIs37 (by decide))
      clear hg hat
      refine hK.out _ _ ⟨F5.out, F1.out⟩ (fun hHeld => ?_)
      clear hK K
      refine norm_ (a' := ?_) ?_ ?_
      rotate_left
      ·show Act.put _ (some 41) _ = _
       simp only [Act.put, za, zb, zc, i64_w, i32_w]
       rfl
      refine pv 9 (some 42) (v := ?_) (bits 12 2047) HT_ (by kernel_rfl) rfl rfl (fun _ _ _ h => h) (by kernel_rfl) ?_ ?_; rotate_left; (intro w'; go_simp; with_reducible rfl)
      refine norm_ (a' := ?_) ?_ ?_
      rotate_left
      ·simp only [Act.put, za, zb, zc, i64_w, i32_w]
       rfl
      refine norm_ (a' := _) ?_ (J ⟨AIs37, kIs37, AL38, kL38, AL41, kL41, z41, g8⟩ _ ⟨B, F1, F2, F3, F5, F6, F8, L8, N1_8, N2_8, N3_8, N5_8, N6_8, RIs37, RL41, (by rw [← hz41]; rfl)⟩)
      simp only [putAll, Act.put, za, zb, zc]
      try rfl
    ·refine bxs (cs := #[.string (⟨#[]⟩ : ByteArray), .string (⟨#[]⟩ : ByteArray), .slice none 0 0, .slice none 0 0, .bool false, .string (⟨#[]⟩ : ByteArray)]) (t := 34) (by rfl) rfl ?hr B (fun g8 w12 hb B F8 L8 E8 => ?_)
     (case hr => go_simp; first | done | rfl)
     have N1_8 := ne1 E8 F1
     have N2_8 := ne1 E8 F2
     have N3_8 := ne1 E8 F3
     have N5_8 := ne1 E8 F5
     have N6_8 := ne1 E8 F6
     replace F1 := bn F1 hb
     replace F2 := bn F2 hb
     replace F3 := bn F3 hb
     replace F5 := bn F5 hb
     replace F6 := bn F6 hb
     replace RL38 := rn RL38 hb
     clear hb E8
     refine hK.out _ _ ⟨F5.out, F1.out⟩ (fun hHeld => ?_)
     clear hK K
     refine norm_ (a' := ?_) ?_ ?_
     rotate_left
     ·show Act.put _ (some 8) _ = _
      simp only [Act.put, za, zb, zc, i64_w, i32_w]
      rfl
     refine one_ (i := 4) (N := some 37) (bits 12 1279) rfl rfl (one_of HT_.out (by kernel_rfl)) (by decide) (fun K hK => ?_)
     refine goes_ Try.func74 (by kernel_rfl) rfl #[.slice AP ps.length cP, .agg #[.string a, .string c]] (by rfl) rfl rfl (by (try simp only [List.map_toArray, List.map_cons, List.map_nil]); rfl) ?_
     with_reducible refine cr (spec_PairsIn.M _ _ ps a c _ (cb HRP B) HCP.out) B fun AIs37 kIs37 w13 hb B RIs37 QIs37 => ?_
     have DL38_Is37 := fr QIs37 RL38
     replace F1 := bn F1 hb
     replace F2 := bn F2 hb
     replace F3 := bn F3 hb
     replace F5 := bn F5 hb
     replace F6 := bn F6 hb
     replace F8 := bn F8 hb
     replace RL38 := rn RL38 hb
     clear hb
     refine ⟨_, rfl, ?_⟩
     refine hK.out _ _ ⟨F5.out, F1.out⟩ (fun hHeld => ?_)
     clear hK K
     refine norm_ (a' := ?_) ?_ ?_
     rotate_left
     ·show Act.put _ (some 37) _ = _
      simp only [Act.put, za, zb, zc, i64_w, i32_w]
      rfl
     clear QIs37
     refine one_ (i := 8) (N := some 41) (bits 12 1535) rfl rfl (one_of HT_.out (by kernel_rfl)) (by decide) (fun K hK => ?_)
     refine aps k100 100 (by rfl) rfl (.tmp 38) (.tmp 40) 32 (.agg #[.int .i64 (0), .int .i64 (0), .int .i64 (0)]) 24 rfl Try.underlying32 info100 rfl (by decide) (by omega) rfl rfl RL38 (cb HRS B) (fun x cs h => by rw [k100_open h]; exact k100_mkM _ _ _ x) (by first | omega | (simp only [List.length_append, List.length_nil, List.length_cons]; omega)) B (fun z41 hz41 AL41 kL41 w14 hg B RL41 hat => ?_)
     replace F1 := bga F1 hg RL38 (by decide)
     replace F2 := bga F2 hg RL38 (by decide)
     replace F3 := bga F3 hg RL38 (by decide)
     replace F5 := bga F5 hg RL38 (by decide)
     replace F6 := bga F6 hg RL38 (by decide)
     replace F8 := bga F8 hg RL38 (by decide)
     replace RIs37 := rga RIs37 rfl hg (dty RL38 RIs37 (by decide))
     clear hg hat
     refine hK.out _ _ ⟨F5.out, F1.out⟩ (fun hHeld => ?_)
     clear hK K
     refine norm_ (a' := ?_) ?_ ?_
     rotate_left
     ·show Act.put _ (some 41) _ = _
      simp only [Act.put, za, zb, zc, i64_w, i32_w]
      rfl
     refine pv 9 (some 42) (v := ?_) (bits 12 2047) HT_ (by kernel_rfl) rfl rfl (fun _ _ _ h => h) (by kernel_rfl) ?_ ?_; rotate_left; (intro w'; go_simp; with_reducible rfl)
     refine norm_ (a' := ?_) ?_ ?_
     rotate_left
     ·simp only [Act.put, za, zb, zc, i64_w, i32_w]
      rfl
     refine norm_ (a' := _) ?_ (J ⟨AIs37, kIs37, AL38, kL38, AL41, kL41, z41, g8⟩ _ ⟨B, F1, F2, F3, F5, F6, F8, L8, N1_8, N2_8, N3_8, N5_8, N6_8, RIs37, RL41, (by rw [← hz41]; rfl)⟩)
     simp only [putAll, Act.put, za, zb, zc]
     try rfl
   ·refine bxs (cs := #[.string (⟨#[]⟩ : ByteArray), .string (⟨#[]⟩ : ByteArray), .slice none 0 0, .slice none 0 0, .bool false, .string (⟨#[]⟩ : ByteArray)]) (t := 34) (by rfl) rfl ?hr B (fun g8 w11 hb B F8 L8 E8 => ?_)
    (case hr => go_simp; first | done | rfl)
    have N1_8 := ne1 E8 F1
    have N2_8 := ne1 E8 F2
    have N3_8 := ne1 E8 F3
    have N5_8 := ne1 E8 F5
    have N6_8 := ne1 E8 F6
    replace F1 := bn F1 hb
    replace F2 := bn F2 hb
    replace F3 := bn F3 hb
    replace F5 := bn F5 hb
    replace F6 := bn F6 hb
    clear hb E8
    refine hK.out _ _ ⟨F5.out, F1.out⟩ (fun hHeld => ?_)
    clear hK K
    refine norm_ (a' := ?_) ?_ ?_
    rotate_left
    ·show Act.put _ (some 8) _ = _
     simp only [Act.put, za, zb, zc, i64_w, i32_w]
     rfl
    refine two_ (i := 4) (j := 5) (Ni := some 37) (Nj := some 38) (bits 12 1247) (bits 12 1263) rfl rfl rfl rfl (two_of HT_.out (by kernel_rfl)) (by decide) (by decide) (fun K hK => ?_) (fun K hK => ?_)
    ·refine goes_ Try.func74 (by kernel_rfl) rfl #[.slice AP ps.length cP, .agg #[.string a, .string c]] (by rfl) rfl rfl (by (try simp only [List.map_toArray, List.map_cons, List.map_nil]); rfl) ?_
     with_reducible refine cr (spec_PairsIn.M _ _ ps a c _ (cb HRP B) HCP.out) B fun AIs37 kIs37 w12 hb B RIs37 QIs37 => ?_
     replace F1 := bn F1 hb
     replace F2 := bn F2 hb
     replace F3 := bn F3 hb
     replace F5 := bn F5 hb
     replace F6 := bn F6 hb
     replace F8 := bn F8 hb
     clear hb
     refine ⟨_, rfl, ?_⟩
     refine hK.out _ _ ⟨F5.out, F1.out⟩ (fun hHeld => ?_)
     clear hK K
     refine norm_ (a' := ?_) ?_ ?_
     rotate_left
     ·show Act.put _ (some 37) _ = _
      simp only [Act.put, za, zb, zc, i64_w, i32_w]
      rfl
     clear QIs37
     refine one_ (i := 5) (N := some 38) (bits 12 1279) rfl rfl (one_of HT_.out (by kernel_rfl)) (by decide) (fun K hK => ?_)
     refine lts k100 100 (by rfl) rfl ([] : List S100) [] ?hr (Reps.none _ _) (by simp) B (fun z38 hz38 AL38 kL38 w13 hb B RL38 QL38 => ?_)
     (case hr => go_simp; first | done | rfl)
     have DIs37_L38 := fr QL38 RIs37
     replace F1 := bn F1 hb
     replace F2 := bn F2 hb
     replace F3 := bn F3 hb
     replace F5 := bn F5 hb
     replace F6 := bn F6 hb
     replace F8 := bn F8 hb
     replace RIs37 := rn RIs37 hb
     clear hb QL38
     subst hz38
     refine hK.out _ _ ⟨F5.out, F1.out⟩ (fun hHeld => ?_)
     clear hK K
     refine norm_ (a' := ?_) ?_ ?_
     rotate_left
     ·show Act.put _ (some 38) _ = _
      simp only [Act.put, za, zb, zc, i64_w, i32_w]
      rfl
     refine one_ (i := 8) (N := some 41) (bits 12 1535) rfl rfl (one_of HT_.out (by kernel_rfl)) (by decide) (fun K hK => ?_)
     refine aps k100 100 (by rfl) rfl (.tmp 38) (.tmp 40) 32 (.agg #[.int .i64 (0), .int .i64 (0), .int .i64 (0)]) 24 rfl Try.underlying32 info100 rfl (by decide) (by omega) rfl rfl RL38 (cb HRS B) (fun x cs h => by rw [k100_open h]; exact k100_mkM _ _ _ x) (by first | omega | (simp only [List.length_append, List.length_nil, List.length_cons]; omega)) B (fun z41 hz41 AL41 kL41 w14 hg B RL41 hat => ?_)
     replace F1 := bga F1 hg RL38 (by decide)
     replace F2 := bga F2 hg RL38 (by decide)
     replace F3 := bga F3 hg RL38 (by decide)
     replace F5 := bga F5 hg RL38 (by decide)
     replace F6 := bga F6 hg RL38 (by decide)
     replace F8 := bga F8 hg RL38 (by decide)
     replace RIs37 := rga RIs37 rfl hg (dty RL38 RIs37 (by decide))
     clear hg hat
     refine hK.out _ _ ⟨F5.out, F1.out⟩ (fun hHeld => ?_)
     clear hK K
     refine norm_ (a' := ?_) ?_ ?_
     rotate_left
     ·show Act.put _ (some 41) _ = _
      simp only [Act.put, za, zb, zc, i64_w, i32_w]
      rfl
     refine pv 9 (some 42) (v := ?_) (bits 12 2047) HT_ (by kernel_rfl) rfl rfl (fun _ _ _ h => h) (by kernel_rfl) ?_ ?_; rotate_left; (intro w'; go_simp; with_reducible rfl)
     refine norm_ (a' := ?_) ?_ ?_
     rotate_left
     ·simp only [Act.put, za, zb, zc, i64_w, i32_w]
      rfl
     refine norm_ (a' := _) ?_ (J ⟨AIs37, kIs37, AL38, kL38, AL41, kL41, z41, g8⟩ _ ⟨B, F1, F2, F3, F5, F6, F8, L8, N1_8, N2_8, N3_8, N5_8, N6_8, RIs37, RL41, (by rw [← hz41]; rfl)⟩)
     simp only [putAll, Act.put, za, zb, zc]
     try rfl
    ·refine lts k100 100 (by rfl) rfl ([] : List S100) [] ?hr (Reps.none _ _) (by simp) B (fun z38 hz38 AL38 kL38 w12 hb B RL38 QL38 => ?_)
     (case hr => go_simp; first | done | rfl)
     replace F1 := bn F1 hb
     replace F2 := bn F2 hb
     replace F3 := bn F3 hb
     replace F5 := bn F5 hb
     replace F6 := bn F6 hb
     replace F8 := bn F8 hb
     clear hb QL38
     subst hz38
     refine hK.out _ _ ⟨F5.out, F1.out⟩ (fun hHeld => ?_)
     clear hK K
     refine norm_ (a' := ?_) ?_ ?_
     rotate_left
     ·show Act.put _ (some 38) _ = _
      simp only [Act.put, za, zb, zc, i64_w, i32_w]
      rfl
     refine one_ (i := 4) (N := some 37) (bits 12 1279) rfl rfl (one_of HT_.out (by kernel_rfl)) (by decide) (fun K hK => ?_)
     refine goes_ Try.func74 (by kernel_rfl) rfl #[.slice AP ps.length cP, .agg #[.string a, .string c]] (by rfl) rfl rfl (by (try simp only [List.map_toArray, List.map_cons, List.map_nil]); rfl) ?_
     with_reducible refine cr (spec_PairsIn.M _ _ ps a c _ (cb HRP B) HCP.out) B fun AIs37 kIs37 w13 hb B RIs37 QIs37 => ?_
     have DL38_Is37 := fr QIs37 RL38
     replace F1 := bn F1 hb
     replace F2 := bn F2 hb
     replace F3 := bn F3 hb
     replace F5 := bn F5 hb
     replace F6 := bn F6 hb
     replace F8 := bn F8 hb
     replace RL38 := rn RL38 hb
     clear hb
     refine ⟨_, rfl, ?_⟩
     refine hK.out _ _ ⟨F5.out, F1.out⟩ (fun hHeld => ?_)
     clear hK K
     refine norm_ (a' := ?_) ?_ ?_
     rotate_left
     ·show Act.put _ (some 37) _ = _
      simp only [Act.put, za, zb, zc, i64_w, i32_w]
      rfl
     clear QIs37
     refine one_ (i := 8) (N := some 41) (bits 12 1535) rfl rfl (one_of HT_.out (by kernel_rfl)) (by decide) (fun K hK => ?_)
     refine aps k100 100 (by rfl) rfl (.tmp 38) (.tmp 40) 32 (.agg #[.int .i64 (0), .int .i64 (0), .int .i64 (0)]) 24 rfl Try.underlying32 info100 rfl (by decide) (by omega) rfl rfl RL38 (cb HRS B) (fun x cs h => by rw [k100_open h]; exact k100_mkM _ _ _ x) (by first | omega | (simp only [List.length_append, List.length_nil, List.length_cons]; omega)) B (fun z41 hz41 AL41 kL41 w14 hg B RL41 hat => ?_)
     replace F1 := bga F1 hg RL38 (by decide)
     replace F2 := bga F2 hg RL38 (by decide)
     replace F3 := bga F3 hg RL38 (by decide)
     replace F5 := bga F5 hg RL38 (by decide)
     replace F6 := bga F6 hg RL38 (by decide)
     replace F8 := bga F8 hg RL38 (by decide)
     replace RIs37 := rga RIs37 rfl hg (dty RL38 RIs37 (by decide))
     clear hg hat
     refine hK.out _ _ ⟨F5.out, F1.out⟩ (fun hHeld => ?_)
     clear hK K
     refine norm_ (a' := ?_) ?_ ?_
     rotate_left
     ·show Act.put _ (some 41) _ = _
      simp only [Act.put, za, zb, zc, i64_w, i32_w]
      rfl
     refine pv 9 (some 42) (v := ?_) (bits 12 2047) HT_ (by kernel_rfl) rfl rfl (fun _ _ _ h => h) (by kernel_rfl) ?_ ?_; rotate_left; (intro w'; go_simp; with_reducible rfl)
     refine norm_ (a' := ?_) ?_ ?_
     rotate_left
     ·simp only [Act.put, za, zb, zc, i64_w, i32_w]
      rfl
     refine norm_ (a' := _) ?_ (J ⟨AIs37, kIs37, AL38, kL38, AL41, kL41, z41, g8⟩ _ ⟨B, F1, F2, F3, F5, F6, F8, L8, N1_8, N2_8, N3_8, N5_8, N6_8, RIs37, RL41, (by rw [← hz41]; rfl)⟩)
     simp only [putAll, Act.put, za, zb, zc]
     try rfl
  rintro ⟨AIs37, kIs37, AL38, kL38, AL41, kL41, z41, g8⟩ w15 ⟨B, F1, F2, F3, F5, F6, F8, L8, N1_8, N2_8, N3_8, N5_8, N6_8, RIs37, RL41, rfl⟩
  refine norm_ (a' := ?_) ?_ ?_
  rotate_left
  ·simp only [putAll, Act.put, za, zb, zc]
   rfl
  refine one_ (i := 11) (N := none) (bits 12 4095) rfl rfl (one_of HT_.out (by kernel_rfl)) (by decide) (fun K hK => ?_)
  obtain ⟨y0, y1, y2, y3, y4, y5, z0, z1, z2, z3, z4, z5⟩ := cz6 F8
  refine sxs (g := g8) 0 [.string a, .string c, .slice AIs37 (inM ps a c).length kIs37, .slice AL41 ss.length kL41, .bool false, .string (⟨#[]⟩ : ByteArray)] [.string a, .string c, .slice AIs37 (inM ps a c).length kIs37, .slice AL41 ss.length kL41, .bool false, .string (⟨#[]⟩ : ByteArray)] (by rfl) rfl ?hr B F8 L8 rfl (Nat.le_of_ble_eq_true rfl) (fun w16 hk B G => ?_)
  (case hr => go_simp; first | done | rfl)
  replace F1 := bk F1 hk N1_8.out
  replace F2 := bk F2 hk N2_8.out
  replace F3 := bk F3 hk N3_8.out
  replace F5 := bk F5 hk N5_8.out
  replace F6 := bk F6 hk N6_8.out
  replace RIs37 := rk RIs37 F8 (by decide) hk
  replace RL41 := rk RL41 F8 (by decide) hk
  replace F8 := G
  clear hk y0 z0 y1 z1 y2 z2 y3 z3 y4 z4 y5 z5
  refine hK.out _ _ ⟨F5.out, F1.out⟩ (fun hHeld => ?_)
  clear hK K
  refine done_ (done_of HT_.out (by kernel_rfl)) ?_
  clear c1_0 c1_1 c1_2 c1_3 c1_4 c1_5
  obtain ⟨c1_0, c1_1, c1_2, c1_3, c1_4, c1_5⟩ := cs6 F1
  clear c6_0 c6_1
  obtain ⟨c6_0, c6_1⟩ := cs2 F6
  obtain ⟨c8_0, c8_1, c8_2, c8_3, c8_4, c8_5⟩ := cs6 F8)
 all_goals try go_wp2
 all_goals (
  refine rg (n := 12) (S := fun W => W.heap[g6]? = some (.cells #[.string c, .string b] 30 (0, 0)) ∧ W.heap[g1]? = some (.cells #[.string a, .string b, .slice AP ps.length cP, .slice AS ss.length cS, .bool true, .string c] 34 (0, 0))) (ds := []) #[false, false, false, false, false, false, false, false, false, false, false, false] (by kernel_rfl) rfl rfl ⟨F6.out, F1.out⟩ id B (fun w17 hb B hHeld => ?_)
  refine with_tabW spec_StateCut.tab5 spec_StateCut.bits5 (fun HT_ HW_ => ?_)
  replace F1 := bn F1 hb
  replace F2 := bn F2 hb
  replace F3 := bn F3 hb
  replace F6 := bn F6 hb
  replace F8 := bn F8 hb
  replace RIs37 := rn RIs37 hb
  replace RL41 := rn RL41 hb
  clear hb
  refine join_ 1 (bits 12 2047) (σ := Option Addr × Nat × Option Addr × Nat × Option Addr × Nat × List S100 × Nat) (fun (AIs47, kIs47, AL48, kL48, AL51, kL51, z51, g9) => [(43, .agg #[.string c, .string b]), (44, .pointer (some ⟨g1, 2, none⟩)), (45, .slice AP ps.length cP), (46, .agg #[.string c, .string b]), (47, .slice AIs47 (inM ps c b).length kIs47), (48, .slice AL48 ([] : List S100).length kL48), (49, .pointer (some ⟨g1, 3, none⟩)), (50, .slice AS ss.length cS), (51, .slice AL51 z51.length kL51), (52, .agg #[.string c, .string b, .slice AIs47 (inM ps c b).length kIs47, .slice AL51 z51.length kL51, .bool false, .string (⟨#[]⟩ : ByteArray)]), (9, .pointer (some ⟨g9, 0, none⟩))]) (fun (AIs47, kIs47, AL48, kL48, AL51, kL51, z51, g9) W => Aside0 (Below w.heap.size w W) ∧ Aside0 (W.heap[g1]? = some (.cells #[.string a, .string b, .slice AP ps.length cP, .slice AS ss.length cS, .bool true, .string c] 34 (0, 0))) ∧ Aside0 (W.heap[g2]? = some (.cells #[.string (⟨#[]⟩ : ByteArray), .string (⟨#[]⟩ : ByteArray), .slice none 0 0, .slice none 0 0, .bool false, .string (⟨#[]⟩ : ByteArray)] 34 (0, 0))) ∧ Aside0 (W.heap[g3]? = some (.cells #[.string (⟨#[]⟩ : ByteArray), .string (⟨#[]⟩ : ByteArray), .slice none 0 0, .slice none 0 0, .bool false, .string (⟨#[]⟩ : ByteArray)] 34 (0, 0))) ∧ Aside0 (W.heap[g6]? = some (.cells #[.string c, .string b] 30 (0, 0))) ∧ Aside0 (W.heap[g8]? = some (.cells #[.string a, .string c, .slice AIs37 (inM ps a c).length kIs37, .slice AL41 ss.length kL41, .bool false, .string (⟨#[]⟩ : ByteArray)] 34 (0, 0))) ∧ Aside0 (W.heap[g9]? = some (.cells #[.string (⟨#[]⟩ : ByteArray), .string (⟨#[]⟩ : ByteArray), .slice none 0 0, .slice none 0 0, .bool false, .string (⟨#[]⟩ : ByteArray)] 34 (0, 0))) ∧ Aside0 (w.heap.size ≤ g9) ∧ Aside0 (g1 ≠ g9) ∧ Aside0 (g2 ≠ g9) ∧ Aside0 (g3 ≠ g9) ∧ Aside0 (g6 ≠ g9) ∧ Aside0 (g8 ≠ g9) ∧ Aside0 (Ow k61 61 W w.heap.size (.slice AIs37 (inM ps a c).length kIs37) (inM ps a c)) ∧ Aside0 (Ow k100 100 W w.heap.size (.slice AL41 ss.length kL41) ss) ∧ Aside0 (Ow k61 61 W w.heap.size (.slice AIs47 (inM ps c b).length kIs47) (inM ps c b)) ∧ Aside0 (Ow k100 100 W w.heap.size (.slice AL51 z51.length kL51) z51) ∧ Aside0 (∀ k_, (.slice AIs47 (inM ps c b).length kIs47 : Value).ownBlock = some k_ → (.slice AIs37 (inM ps a c).length kIs37 : Value).ownBlock = some k_ → False) ∧ Aside0 (∀ k_, (.slice AIs47 (inM ps c b).length kIs47 : Value).ownBlock = some k_ → (.slice AL41 ss.length kL41 : Value).ownBlock = some k_ → False) ∧ Aside0 (∀ k_, (.slice AL51 z51.length kL51 : Value).ownBlock = some k_ → (.slice AL41 ss.length kL41 : Value).ownBlock = some k_ → False) ∧ ss = z51) ?_ (fun J => ?_)
  rotate_left
  ·refine tv 0 (some 43) (v := ?_) (bits 12 1) HT_ HW_ (by kernel_rfl) rfl rfl (fun _ _ _ h => h) (by kernel_rfl) hHeld ?_ ?_; rotate_left; (intro w' hS; obtain ⟨s0, s1⟩ := hS; obtain ⟨q0, q1⟩ := cs2 (Aside0.mk s0); go_simp; with_reducible rfl)
   refine pv 1 (some 44) (v := ?_) (bits 12 3) HT_ (by kernel_rfl) rfl rfl (fun _ _ _ h => h) (by kernel_rfl) ?_ ?_; rotate_left; (intro w'; go_simp; with_reducible rfl)
   refine tv 2 (some 45) (v := ?_) (bits 12 7) HT_ HW_ (by kernel_rfl) rfl rfl (fun _ _ _ h => h) (by kernel_rfl) hHeld ?_ ?_; rotate_left; (intro w' hS; obtain ⟨s0, s1⟩ := hS; obtain ⟨q0, q1, q2, q3, q4, q5⟩ := cs6 (Aside0.mk s1); go_simp; with_reducible rfl)
   refine tv 3 (some 46) (v := ?_) (bits 12 15) HT_ HW_ (by kernel_rfl) rfl rfl (fun _ _ _ h => h) (by kernel_rfl) hHeld ?_ ?_; rotate_left; (intro w' hS; obtain ⟨s0, s1⟩ := hS; obtain ⟨q0, q1⟩ := cs2 (Aside0.mk s0); go_simp; with_reducible rfl)
   refine pv 6 (some 49) (v := ?_) (bits 12 79) HT_ (by kernel_rfl) rfl rfl (fun _ _ _ h => h) (by kernel_rfl) ?_ ?_; rotate_left; (intro w'; go_simp; with_reducible rfl)
   refine tv 7 (some 50) (v := ?_) (bits 12 207) HT_ HW_ (by kernel_rfl) rfl rfl (fun _ _ _ h => h) (by kernel_rfl) hHeld ?_ ?_; rotate_left; (intro w' hS; obtain ⟨s0, s1⟩ := hS; obtain ⟨q0, q1, q2, q3, q4, q5⟩ := cs6 (Aside0.mk s1); go_simp; with_reducible rfl)
   refine norm_ (a' := ?_) ?_ ?_
   rotate_left
   ·simp only [Act.put, za, zb, zc, i64_w, i32_w]
    rfl
   refine three_ (i := 4) (j := 5) (k := 10) (Ni := some 47) (Nj := some 48) (Nk := some 9) (bits 12 223) (bits 12 239) (bits 12 1231) rfl rfl rfl rfl rfl rfl (three_of HT_.out (by kernel_rfl)) (by decide) (by decide) (by decide) (fun K hK => ?_) (fun K hK => ?_) (fun K hK => ?_)
   ·refine goes_ Try.func74 (by kernel_rfl) rfl #[.slice AP ps.length cP, .agg #[.string c, .string b]] (by rfl) rfl rfl (by (try simp only [List.map_toArray, List.map_cons, List.map_nil]); rfl) ?_
    with_reducible refine cr (spec_PairsIn.M _ _ ps c b _ (cb HRP B) HCP.out) B fun AIs47 kIs47 w18 hb B RIs47 QIs47 => ?_
    have DIs37_Is47 := fr QIs47 RIs37
    have DL41_Is47 := fr QIs47 RL41
    replace F1 := bn F1 hb
    replace F2 := bn F2 hb
    replace F3 := bn F3 hb
    replace F6 := bn F6 hb
    replace F8 := bn F8 hb
    replace RIs37 := rn RIs37 hb
    replace RL41 := rn RL41 hb
    clear hb
    refine ⟨_, rfl, ?_⟩
    refine hK.out _ _ ⟨F6.out, F1.out⟩ (fun hHeld => ?_)
    clear hK K
    refine norm_ (a' := ?_) ?_ ?_
    rotate_left
    ·show Act.put _ (some 47) _ = _
     simp only [Act.put, za, zb, zc, i64_w, i32_w]
     rfl
    clear QIs47
    refine two_ (i := 5) (j := 10) (Ni := some 48) (Nj := some 9) (bits 12 255) (bits 12 1247) rfl rfl rfl rfl (two_of HT_.out (by kernel_rfl)) (by decide) (by decide) (fun K hK => ?_) (fun K hK => ?_)
    ·refine lts k100 100 (by rfl) rfl ([] : List S100) [] ?hr (Reps.none _ _) (by simp) B (fun z48 hz48 AL48 kL48 w19 hb B RL48 QL48 => ?_)
     (case hr => go_simp; first | done | rfl)
     have DIs37_L48 := fr QL48 RIs37
     have DL41_L48 := fr QL48 RL41
     have DIs47_L48 := fr QL48 RIs47
     replace F1 := bn F1 hb
     replace F2 := bn F2 hb
     replace F3 := bn F3 hb
     replace F6 := bn F6 hb
     replace F8 := bn F8 hb
     replace RIs37 := rn RIs37 hb
     replace RL41 := rn RL41 hb
     replace RIs47 := rn RIs47 hb
     clear hb QL48
     subst hz48
     refine hK.out _ _ ⟨F6.out, F1.out⟩ (fun hHeld => ?_)
     clear hK K
     refine norm_ (a' := ?_) ?_ ?_
     rotate_left
     ·show Act.put _ (some 48) _ = _
      simp only [Act.put, za, zb, zc, i64_w, i32_w]
      rfl
     refine two_ (i := 8) (j := 10) (Ni := some 51) (Nj := some 9) (bits 12 511) (bits 12 1279) rfl rfl rfl rfl (two_of HT_.out (by kernel_rfl)) (by decide) (by decide) (fun K hK => ?_) (fun K hK => ?_)
     ·refine aps k100 100 (by rfl) rfl (.tmp 48) (.tmp 50) 32 (.agg #[.int .i64 (0), .int .i64 (0), .int .i64 (0)]) 24 rfl Try.underlying32 info100 rfl (by decide) (by omega) rfl rfl RL48 (cb HRS B) (fun x cs h => by rw [k100_open h]; exact k100_mkM _ _ _ x) (by first | omega | (simp only [List.length_append, List.length_nil, List.length_cons]; omega)) B (fun z51 hz51 AL51 kL51 w20 hg B RL51 hat => ?_)
      replace F1 := bga F1 hg RL48 (by decide)
      replace F2 := bga F2 hg RL48 (by decide)
      replace F3 := bga F3 hg RL48 (by decide)
      replace F6 := bga F6 hg RL48 (by decide)
      replace F8 := bga F8 hg RL48 (by decide)
      replace RIs37 := rga RIs37 rfl hg (dty RL48 RIs37 (by decide))
      have DL41_L51 := dap hat (Aside0.mk DL41_L48.out) RL41
      replace RL41 := rga RL41 rfl hg (fun k p q => DL41_L48.out k q p)
      replace RIs47 := rga RIs47 rfl hg (dty RL48 RIs47 (by decide))
      clear hg hat
      refine hK.out _ _ ⟨F6.out, F1.out⟩ (fun hHeld => ?_)
      clear hK K
      refine norm_ (a' := ?_) ?_ ?_
      rotate_left
      ·show Act.put _ (some 51) _ = _
       simp only [Act.put, za, zb, zc, i64_w, i32_w]
       rfl
      refine pv 9 (some 52) (v := ?_) (bits 12 1023) HT_ (by kernel_rfl) rfl rfl (fun _ _ _ h => h) (by kernel_rfl) ?_ ?_; rotate_left; (intro w'; go_simp; with_reducible rfl)
      refine norm_ (a' := ?_) ?_ ?_
      rotate_left
      ·simp only [Act.put, za, zb, zc, i64_w, i32_w]
       rfl
      refine one_ (i := 10) (N := some 9) (bits 12 2047) rfl rfl (one_of HT_.out (by kernel_rfl)) (by decide) (fun K hK => ?_)
      refine bxs (cs := #[.string (⟨#[]⟩ : ByteArray), .string (⟨#[]⟩ : ByteArray), .slice none 0 0, .slice none 0 0, .bool false, .string (⟨#[]⟩ : ByteArray)]) (t := 34) (by rfl) rfl ?hr B (fun g9 w21 hb B F9 L9 E9 => ?_)
      (case hr => go_simp; first | done | rfl)
      have N1_9 := ne1 E9 F1
      have N2_9 := ne1 E9 F2
      have N3_9 := ne1 E9 F3
      have N6_9 := ne1 E9 F6
      have N8_9 := ne1 E9 F8
      replace F1 := bn F1 hb
      replace F2 := bn F2 hb
      replace F3 := bn F3 hb
      replace F6 := bn F6 hb
      replace F8 := bn F8 hb
      replace RIs37 := rn RIs37 hb
      replace RL41 := rn RL41 hb
      replace RIs47 := rn RIs47 hb
      replace RL51 := rn RL51 hb
      clear hb E9
      refine hK.out _ _ ⟨F6.out, F1.out⟩ (fun hHeld => ?_)
      clear hK K
      refine norm_ (a' := ?_) ?_ ?_
      rotate_left
      ·show Act.put _ (some 9) _ = _
       simp only [Act.put, za, zb, zc, i64_w, i32_w]
       rfl
      refine norm_ (a' := _) ?_ (J ⟨AIs47, kIs47, AL48, kL48, AL51, kL51, z51, g9⟩ _ ⟨B, F1, F2, F3, F6, F8, F9, L9, N1_9, N2_9, N3_9, N6_9, N8_9, RIs37, RL41, RIs47, RL51, DIs37_Is47, DL41_Is47, DL41_L51, (by rw [← hz51]; rfl)⟩)
      simp only [putAll, Act.put, za, zb, zc]
      try rfl
     ·refine bxs (cs := #[.string (⟨#[]⟩ : ByteArray), .string (⟨#[]⟩ : ByteArray), .slice none 0 0, .slice none 0 0, .bool false, .string (⟨#[]⟩ : ByteArray)]) (t := 34) (by rfl) rfl ?hr B (fun g9 w20 hb B F9 L9 E9 => ?_)
      (case hr => go_simp; first | done | rfl)
      have N1_9 := ne1 E9 F1
      have N2_9 := ne1 E9 F2
      have N3_9 := ne1 E9 F3
      have N6_9 := ne1 E9 F6
      have N8_9 := ne1 E9 F8
      replace F1 := bn F1 hb
      replace F2 := bn F2 hb
      replace F3 := bn F3 hb
      replace F6 := bn F6 hb
      replace F8 := bn F8 hb
      replace RIs37 := rn RIs37 hb
      replace RL41 := rn RL41 hb
      replace RIs47 := rn RIs47 hb
      replace RL48 := rn RL48 hb
      clear hb E9
      refine hK.out _ _ ⟨F6.out, F1.out⟩ (fun hHeld => ?_)
      clear hK K
      refine norm_ (a' := ?_) ?_ ?_
      rotate_left
      ·show Act.put _ (some 9) _ = _
       simp only [Act.put, za, zb, zc, i64_w, i32_w]
       rfl
      refine one_ (i := 8) (N := some 51) (bits 12 1535) rfl rfl (one_of HT_.out (by kernel_rfl)) (by decide) (fun K hK => ?_)
      refine aps k100 100 (by rfl) rfl (.tmp 48) (.tmp 50) 32 (.agg #[.int .i64 (0), .int .i64 (0), .int .i64 (0)]) 24 rfl Try.underlying32 info100 rfl (by decide) (by omega) rfl rfl RL48 (cb HRS B) (fun x cs h => by rw [k100_open h]; exact k100_mkM _ _ _ x) (by first | omega | (simp only [List.length_append, List.length_nil, List.length_cons]; omega)) B (fun z51 hz51 AL51 kL51 w21 hg B RL51 hat => ?_)
      replace F1 := bga F1 hg RL48 (by decide)
      replace F2 := bga F2 hg RL48 (by decide)
      replace F3 := bga F3 hg RL48 (by decide)
      replace F6 := bga F6 hg RL48 (by decide)
      replace F8 := bga F8 hg RL48 (by decide)
      replace F9 := bga F9 hg RL48 (by decide)
      replace RIs37 := rga RIs37 rfl hg (dty RL48 RIs37 (by decide))
      have DL41_L51 := dap hat (Aside0.mk DL41_L48.out) RL41
      replace RL41 := rga RL41 rfl hg (fun k p q => DL41_L48.out k q p)
      replace RIs47 := rga RIs47 rfl hg (dty RL48 RIs47 (by decide))
      clear hg hat
      refine hK.out _ _ ⟨F6.out, F1.out⟩ (fun hHeld => ?_)
      clear hK K
      refine norm_ (a' := ?_) ?_ ?_
      rotate_left
      ·show Act.put _ (some 51) _ = _
       simp only [Act.put, za, zb, zc, i64_w, i32_w]
       rfl
      refine pv 9 (some 52) (v := ?_) (bits 12 2047) HT_ (by kernel_rfl) rfl rfl (fun _ _ _ h => h) (by kernel_rfl) ?_ ?_; rotate_left; (intro w'; go_simp; with_reducible rfl)
      refine norm_ (a' := ?_) ?_ ?_
      rotate_left
      ·simp only [Act.put, za, zb, zc, i64_w, i32_w]
       rfl
      refine norm_ (a' := _) ?_ (J ⟨AIs47, kIs47, AL48, kL48, AL51, kL51, z51, g9⟩ _ ⟨B, F1, F2, F3, F6, F8, F9, L9, N1_9, N2_9, N3_9, N6_9, N8_9, RIs37, RL41, RIs47, RL51, DIs37_Is47, DL41_Is47, DL41_L51, (by rw [← hz51]; rfl)⟩)
      simp only [putAll, Act.put, za, zb, zc]
      try rfl
    ·refine bxs (cs := #[.string (⟨#[]⟩ : ByteArray), .string (⟨#[]⟩ : ByteArray), .slice none 0 0, .slice none 0 0, .bool false, .string (⟨#[]⟩ : ByteArray)]) (t := 34) (by rfl) rfl ?hr B (fun g9 w19 hb B F9 L9 E9 => ?_)
     (case hr => go_simp; first | done | rfl)
     have N1_9 := ne1 E9 F1
     have N2_9 := ne1 E9 F2
     have N3_9 := ne1 E9 F3
     have N6_9 := ne1 E9 F6
     have N8_9 := ne1 E9 F8
     replace F1 := bn F1 hb
     replace F2 := bn F2 hb
     replace F3 := bn F3 hb
     replace F6 := bn F6 hb
     replace F8 := bn F8 hb
     replace RIs37 := rn RIs37 hb
     replace RL41 := rn RL41 hb
     replace RIs47 := rn RIs47 hb
     clear hb E9
     refine hK.out _ _ ⟨F6.out, F1.out⟩ (fun hHeld => ?_)
     clear hK K
     refine norm_ (a' := ?_) ?_ ?_
     rotate_left
     ·show Act.put _ (some 9) _ = _
      simp only [Act.put, za, zb, zc, i64_w, i32_w]
      rfl
     refine one_ (i := 5) (N := some 48) (bits 12 1279) rfl rfl (one_of HT_.out (by kernel_rfl)) (by decide) (fun K hK => ?_)
     refine lts k100 100 (by rfl) rfl ([] : List S100) [] ?hr (Reps.none _ _) (by simp) B (fun z48 hz48 AL48 kL48 w20 hb B RL48 QL48 => ?_)
     (case hr => go_simp; first | done | rfl)
     have DIs37_L48 := fr QL48 RIs37
     have DL41_L48 := fr QL48 RL41
     have DIs47_L48 := fr QL48 RIs47
     replace F1 := bn F1 hb
     replace F2 := bn F2 hb
     replace F3 := bn F3 hb
     replace F6 := bn F6 hb
     replace F8 := bn F8 hb
     replace F9 := bn F9 hb
     replace RIs37 := rn RIs37 hb
     replace RL41 := rn RL41 hb
     replace RIs47 := rn RIs47 hb
     clear hb QL48
     subst hz48
     refine hK.out _ _ ⟨F6.out, F1.out⟩ (fun hHeld => ?_)
     clear hK K
     refine norm_ (a' := ?_) ?_ ?_
     rotate_left
     ·show Act.put _ (some 48) _ = _
      simp only [Act.put, za, zb, zc, i64_w, i32_w]
      rfl
     refine one_ (i := 8) (N := some 51) (bits 12 1535) rfl rfl (one_of HT_.out (by kernel_rfl)) (by decide) (fun K hK => ?_)
     refine aps k100 100 (by rfl) rfl (.tmp 48) (.tmp 50) 32 (.agg #[.int .i64 (0), .int .i64 (0), .int .i64 (0)]) 24 rfl Try.underlying32 info100 rfl (by decide) (by omega) rfl rfl RL48 (cb HRS B) (fun x cs h => by rw [k100_open h]; exact k100_mkM _ _ _ x) (by first | omega | (simp only [List.length_append, List.length_nil, List.length_cons]; omega)) B (fun z51 hz51 AL51 kL51 w21 hg B RL51 hat => ?_)
     replace F1 := bga F1 hg RL48 (by decide)
     replace F2 := bga F2 hg RL48 (by decide)
     replace F3 := bga F3 hg RL48 (by decide)
     replace F6 := bga F6 hg RL48 (by decide)
     replace F8 := bga F8 hg RL48 (by decide)
     replace F9 := bga F9 hg RL48 (by decide)
     replace RIs37 := rga RIs37 rfl hg (dty RL48 RIs37 (by decide))
     have DL41_L51 := dap hat (Aside0.mk DL41_L48.out) RL41
     replace RL41 := rga RL41 rfl hg (fun k p q => DL41_L48.out k q p)
     replace RIs47 := rga RIs47 rfl hg (dty RL48 RIs47 (by decide))
     clear hg hat
     refine hK.out _ _ ⟨F6.out, F1.out⟩ (fun hHeld => ?_)
     clear hK K
     refine norm_ (a' := ?_) ?_ ?_
     rotate_left
     ·show Act.put _ (some 51) _ = _
      simp only [Act.put, za, zb, zc, i64_w, i32_w]
      rfl
     refine pv 9 (some 52) (v := ?_) (bits 12 2047) HT_ (by kernel_rfl) rfl rfl (fun _ _ _ h => h) (by kernel_rfl) ?_ ?_; rotate_left; (intro w'; go_simp; with_reducible rfl)
     refine norm_ (a' := ?_) ?_ ?_
     rotate_left
     ·simp only [Act.put, za, zb, zc, i64_w, i32_w]
      rfl
     refine norm_ (a' := _) ?_ (J ⟨AIs47, kIs47, AL48, kL48, AL51, kL51, z51, g9⟩ _ ⟨B, F1, F2, F3, F6, F8, F9, L9, N1_9, N2_9, N3_9, N6_9, N8_9, RIs37, RL41, RIs47, RL51, DIs37_Is47, DL41_Is47, DL41_L51, (by rw [← hz51]; rfl)⟩)
     simp only [putAll, Act.put, za, zb, zc]
     try rfl
   ·refine lts k100 100 (by rfl) rfl ([] : List S100) [] ?hr (Reps.none _ _) (by simp) B (fun z48 hz48 AL48 kL48 w18 hb B RL48 QL48 => ?_)
    (case hr => go_simp; first | done | rfl)
    have DIs37_L48 := fr QL48 RIs37
    have DL41_L48 := fr QL48 RL41
    replace F1 := bn F1 hb
    replace F2 := bn F2 hb
    replace F3 := bn F3 hb
    replace F6 := bn F6 hb
    replace F8 := bn F8 hb
    replace RIs37 := rn RIs37 hb
    replace RL41 := rn RL41 hb
    clear hb QL48
    subst hz48
    refine hK.out _ _ ⟨F6.out, F1.out⟩ (fun hHeld => ?_)
    clear hK K
    refine norm_ (a' := ?_) ?_ ?_
    rotate_left
    ·show Act.put _ (some 48) _ = _
     simp only [Act.put, za, zb, zc, i64_w, i32_w]
     rfl
    refine two_ (i := 4) (j := 10) (Ni := some 47) (Nj := some 9) (bits 12 255) (bits 12 1263) rfl rfl rfl rfl (two_of HT_.out (by kernel_rfl)) (by decide) (by decide) (fun K hK => ?_) (fun K hK => ?_)
    ·refine goes_ Try.func74 (by kernel_rfl) rfl #[.slice AP ps.length cP, .agg #[.string c, .string b]] (by rfl) rfl rfl (by (try simp only [List.map_toArray, List.map_cons, List.map_nil]); rfl) ?_
     with_reducible refine cr (spec_PairsIn.M _ _ ps c b _ (cb HRP B) HCP.out) B fun AIs47 kIs47 w19 hb B RIs47 QIs47 => ?_
     have DIs37_Is47 := fr QIs47 RIs37
     have DL41_Is47 := fr QIs47 RL41
     have DL48_Is47 := fr QIs47 RL48
     replace F1 := bn F1 hb
     replace F2 := bn F2 hb
     replace F3 := bn F3 hb
     replace F6 := bn F6 hb
     replace F8 := bn F8 hb
     replace RIs37 := rn RIs37 hb
     replace RL41 := rn RL41 hb
     replace RL48 := rn RL48 hb
     clear hb
     refine ⟨_, rfl, ?_⟩
     refine hK.out _ _ ⟨F6.out, F1.out⟩ (fun hHeld => ?_)
     clear hK K
     refine norm_ (a' := ?_) ?_ ?_
     rotate_left
     ·show Act.put _ (some 47) _ = _
      simp only [Act.put, za, zb, zc, i64_w, i32_w]
      rfl
     clear QIs47
     refine two_ (i := 8) (j := 10) (Ni := some 51) (Nj := some 9) (bits 12 511) (bits 12 1279) rfl rfl rfl rfl (two_of HT_.out (by kernel_rfl)) (by decide) (by decide) (fun K hK => ?_) (fun K hK => ?_)
     ·refine aps k100 100 (by rfl) rfl (.tmp 48) (.tmp 50) 32 (.agg #[.int .i64 (0), .int .i64 (0), .int .i64 (0)]) 24 rfl Try.underlying32 info100 rfl (by decide) (by omega) rfl rfl RL48 (cb HRS B) (fun x cs h => by rw [k100_open h]; exact k100_mkM _ _ _ x) (by first | omega | (simp only [List.length_append, List.length_nil, List.length_cons]; omega)) B (fun z51 hz51 AL51 kL51 w20 hg B RL51 hat => ?_)
      replace F1 := bga F1 hg RL48 (by decide)
      replace F2 := bga F2 hg RL48 (by decide)
      replace F3 := bga F3 hg RL48 (by decide)
      replace F6 := bga F6 hg RL48 (by decide)
      replace F8 := bga F8 hg RL48 (by decide)
      replace RIs37 := rga RIs37 rfl hg (dty RL48 RIs37 (by decide))
      have DL41_L51 := dap hat (Aside0.mk DL41_L48.out) RL41
      replace RL41 := rga RL41 rfl hg (fun k p q => DL41_L48.out k q p)
      replace RIs47 := rga RIs47 rfl hg (dty RL48 RIs47 (by decide))
      clear hg hat
      refine hK.out _ _ ⟨F6.out, F1.out⟩ (fun hHeld => ?_)
      clear hK K
      refine norm_ (a' := ?_) ?_ ?_
      rotate_left
      ·show Act.put _ (some 51) _ = _
       simp only [Act.put, za, zb, zc, i64_w, i32_w]
       rfl
      refine pv 9 (some 52) (v := ?_) (bits 12 1023) HT_ (by kernel_rfl) rfl rfl (fun _ _ _ h => h) (by kernel_rfl) ?_ ?_; rotate_left; (intro w'; go_simp; with_reducible rfl)
      refine norm_ (a' := ?_) ?_ ?_
      rotate_left
      ·simp only [Act.put, za, zb, zc, i64_w, i32_w]
       rfl
      refine one_ (i := 10) (N := some 9) (bits 12 2047) rfl rfl (one_of HT_.out (by kernel_rfl)) (by decide) (fun K hK => ?_)
      refine bxs (cs := #[.string (⟨#[]⟩ : ByteArray), .string (⟨#[]⟩ : ByteArray), .slice none 0 0, .slice none 0 0, .bool false, .string (⟨#[]⟩ : ByteArray)]) (t := 34) (by rfl) rfl ?hr B (fun g9 w21 hb B F9 L9 E9 => ?_)
      (case hr => go_simp; first | done | rfl)
      have N1_9 := ne1 E9 F1
      have N2_9 := ne1 E9 F2
      have N3_9 := ne1 E9 F3
      have N6_9 := ne1 E9 F6
      have N8_9 := ne1 E9 F8
      replace F1 := bn F1 hb
      replace F2 := bn F2 hb
      replace F3 := bn F3 hb
      replace F6 := bn F6 hb
      replace F8 := bn F8 hb
      replace RIs37 := rn RIs37 hb
      replace RL41 := rn RL41 hb
      replace RIs47 := rn RIs47 hb
      replace RL51 := rn RL51 hb
      clear hb E9
      refine hK.out _ _ ⟨F6.out, F1.out⟩ (fun hHeld => ?_)
      clear hK K
      refine norm_ (a' := ?_) ?_ ?_
      rotate_left
      ·show Act.put _ (some 9) _ = _
       simp only [Act.put, za, zb, zc, i64_w, i32_w]
       rfl
      refine norm_ (a' := _) ?_ (J ⟨AIs47, kIs47, AL48, kL48, AL51, kL51, z51, g9⟩ _ ⟨B, F1, F2, F3, F6, F8, F9, L9, N1_9, N2_9, N3_9, N6_9, N8_9, RIs37, RL41, RIs47, RL51, DIs37_Is47, DL41_Is47, DL41_L51, (by rw [← hz51]; rfl)⟩)
      simp only [putAll, Act.put, za, zb, zc]
      try rfl
     ·refine bxs (cs := #[.string (⟨#[]⟩ : ByteArray), .string (⟨#[]⟩ : ByteArray), .slice none 0 0, .slice none 0 0, .bool false, .string (⟨#[]⟩ : ByteArray)]) (t := 34) (by rfl) rfl ?hr B (fun g9 w20 hb B F9 L9 E9 => ?_)
      (case hr => go_simp; first | done | rfl)
      have N1_9 := ne1 E9 F1
      have N2_9 := ne1 E9 F2
      have N3_9 := ne1 E9 F3
      have N6_9 := ne1 E9 F6
      have N8_9 := ne1 E9 F8
      replace F1 := bn F1 hb
      replace F2 := bn F2 hb
      replace F3 := bn F3 hb
      replace F6 := bn F6 hb
      replace F8 := bn F8 hb
      replace RIs37 := rn RIs37 hb
      replace RL41 := rn RL41 hb
      replace RL48 := rn RL48 hb
      replace RIs47 := rn RIs47 hb
      clear hb E9
      refine hK.out _ _ ⟨F6.out, F1.out⟩ (fun hHeld => ?_)
      clear hK K
      refine norm_ (a' := ?_) ?_ ?_
      rotate_left
      ·show Act.put _ (some 9) _ = _
       simp only [Act.put, za, zb, zc, i64_w, i32_w]
       rfl
      refine one_ (i := 8) (N := some 51) (bits 12 1535) rfl rfl (one_of HT_.out (by kernel_rfl)) (by decide) (fun K hK => ?_)
      refine aps k100 100 (by rfl) rfl (.tmp 48) (.tmp 50) 32 (.agg #[.int .i64 (0), .int .i64 (0), .int .i64 (0)]) 24 rfl Try.underlying32 info100 rfl (by decide) (by omega) rfl rfl RL48 (cb HRS B) (fun x cs h => by rw [k100_open h]; exact k100_mkM _ _ _ x) (by first | omega | (simp only [List.length_append, List.length_nil, List.length_cons]; omega)) B (fun z51 hz51 AL51 kL51 w21 hg B RL51 hat => ?_)
      replace F1 := bga F1 hg RL48 (by decide)
      replace F2 := bga F2 hg RL48 (by decide)
      replace F3 := bga F3 hg RL48 (by decide)
      replace F6 := bga F6 hg RL48 (by decide)
      replace F8 := bga F8 hg RL48 (by decide)
      replace F9 := bga F9 hg RL48 (by decide)
      replace RIs37 := rga RIs37 rfl hg (dty RL48 RIs37 (by decide))
      have DL41_L51 := dap hat (Aside0.mk DL41_L48.out) RL41
      replace RL41 := rga RL41 rfl hg (fun k p q => DL41_L48.out k q p)
      replace RIs47 := rga RIs47 rfl hg (dty RL48 RIs47 (by decide))
      clear hg hat
      refine hK.out _ _ ⟨F6.out, F1.out⟩ (fun hHeld => ?_)
      clear hK K
      refine norm_ (a' := ?_) ?_ ?_
      rotate_left
      ·show Act.put _ (some 51) _ = _
       simp only [Act.put, za, zb, zc, i64_w, i32_w]
       rfl
      refine pv 9 (some 52) (v := ?_) (bits 12 2047) HT_ (by kernel_rfl) rfl rfl (fun _ _ _ h => h) (by kernel_rfl) ?_ ?_; rotate_left; (intro w'; go_simp; with_reducible rfl)
      refine norm_ (a' := ?_) ?_ ?_
      rotate_left
      ·simp only [Act.put, za, zb, zc, i64_w, i32_w]
       rfl
      refine norm_ (a' := _) ?_ (J ⟨AIs47, kIs47, AL48, kL48, AL51, kL51, z51, g9⟩ _ ⟨B, F1, F2, F3, F6, F8, F9, L9, N1_9, N2_9, N3_9, N6_9, N8_9, RIs37, RL41, RIs47, RL51, DIs37_Is47, DL41_Is47, DL41_L51, (by rw [← hz51]; rfl)⟩)
      simp only [putAll, Act.put, za, zb, zc]
      try rfl
    ·refine bxs (cs := #[.string (⟨#[]⟩ : ByteArray), .string (⟨#[]⟩ : ByteArray), .slice none 0 0, .slice none 0 0, .bool false, .string (⟨#[]⟩ : ByteArray)]) (t := 34) (by rfl) rfl ?hr B (fun g9 w19 hb B F9 L9 E9 => ?_)
     (case hr => go_simp; first | done | rfl)
     have N1_9 := ne1 E9 F1
     have N2_9 := ne1 E9 F2
     have N3_9 := ne1 E9 F3
     have N6_9 := ne1 E9 F6
     have N8_9 := ne1 E9 F8
     replace F1 := bn F1 hb
     replace F2 := bn F2 hb
     replace F3 := bn F3 hb
     replace F6 := bn F6 hb
     replace F8 := bn F8 hb
     replace RIs37 := rn RIs37 hb
     replace RL41 := rn RL41 hb
     replace RL48 := rn RL48 hb
     clear hb E9
     refine hK.out _ _ ⟨F6.out, F1.out⟩ (fun hHeld => ?_)
     clear hK K
     refine norm_ (a' := ?_) ?_ ?_
     rotate_left
     ·show Act.put _ (some 9) _ = _
      simp only [Act.put, za, zb, zc, i64_w, i32_w]
      rfl
     refine one_ (i := 4) (N := some 47) (bits 12 1279) rfl rfl (one_of HT_.out (by kernel_rfl)) (by decide) (fun K hK => ?_)
     refine goes_ Try.func74 (by kernel_rfl) rfl #[.slice AP ps.length cP, .agg #[.string c, .string b]] (by rfl) rfl rfl (by (try simp only [List.map_toArray, List.map_cons, List.map_nil]); rfl) ?_
     with_reducible refine cr (spec_PairsIn.M _ _ ps c b _ (cb HRP B) HCP.out) B fun AIs47 kIs47 w20 hb B RIs47 QIs47 => ?_
     have DIs37_Is47 := fr QIs47 RIs37
     have DL41_Is47 := fr QIs47 RL41
     have DL48_Is47 := fr QIs47 RL48
     replace F1 := bn F1 hb
     replace F2 := bn F2 hb
     replace F3 := bn F3 hb
     replace F6 := bn F6 hb
     replace F8 := bn F8 hb
     replace F9 := bn F9 hb
     replace RIs37 := rn RIs37 hb
     replace RL41 := rn RL41 hb
     replace RL48 := rn RL48 hb
     clear hb
     refine ⟨_, rfl, ?_⟩
     refine hK.out _ _ ⟨F6.out, F1.out⟩ (fun hHeld => ?_)
     clear hK K
     refine norm_ (a' := ?_) ?_ ?_
     rotate_left
     ·show Act.put _ (some 47) _ = _
      simp only [Act.put, za, zb, zc, i64_w, i32_w]
      rfl
     clear QIs47
     refine one_ (i := 8) (N := some 51) (bits 12 1535) rfl rfl (one_of HT_.out (by kernel_rfl)) (by decide) (fun K hK => ?_)
     refine aps k100 100 (by rfl) rfl (.tmp 48) (.tmp 50) 32 (.agg #[.int .i64 (0), .int .i64 (0), .int .i64 (0)]) 24 rfl Try.underlying32 info100 rfl (by decide) (by omega) rfl rfl RL48 (cb HRS B) (fun x cs h => by rw [k100_open h]; exact k100_mkM _ _ _ x) (by first | omega | (simp only [List.length_append, List.length_nil, List.length_cons]; omega)) B (fun z51 hz51 AL51 kL51 w21 hg B RL51 hat => ?_)
     replace F1 := bga F1 hg RL48 (by decide)
     replace F2 := bga F2 hg RL48 (by decide)
     replace F3 := bga F3 hg RL48 (by decide)
     replace F6 := bga F6 hg RL48 (by decide)
     replace F8 := bga F8 hg RL48 (by decide)
     replace F9 := bga F9 hg RL48 (by decide)
     replace RIs37 := rga RIs37 rfl hg (dty RL48 RIs37 (by decide))
     have DL41_L51 := dap hat (Aside0.mk DL41_L48.out) RL41
     replace RL41 := rga RL41 rfl hg (fun k p q => DL41_L48.out k q p)
     replace RIs47 := rga RIs47 rfl hg (dty RL48 RIs47 (by decide))
     clear hg hat
     refine hK.out _ _ ⟨F6.out, F1.out⟩ (fun hHeld => ?_)
     clear hK K
     refine norm_ (a' := ?_) ?_ ?_
     rotate_left
     ·show Act.put _ (some 51) _ = _
      simp only [Act.put, za, zb, zc, i64_w, i32_w]
      rfl
     refine pv 9 (some 52) (v := ?_) (bits 12 2047) HT_ (by kernel_rfl) rfl rfl (fun _ _ _ h => h) (by kernel_rfl) ?_ ?_; rotate_left; (intro w'; go_simp; with_reducible rfl)
     refine norm_ (a' := ?_) ?_ ?_
     rotate_left
     ·simp only [Act.put, za, zb, zc, i64_w, i32_w]
      rfl
     refine norm_ (a' := _) ?_ (J ⟨AIs47, kIs47, AL48, kL48, AL51, kL51, z51, g9⟩ _ ⟨B, F1, F2, F3, F6, F8, F9, L9, N1_9, N2_9, N3_9, N6_9, N8_9, RIs37, RL41, RIs47, RL51, DIs37_Is47, DL41_Is47, DL41_L51, (by rw [← hz51]; rfl)⟩)
     simp only [putAll, Act.put, za, zb, zc]
     try rfl
   ·refine bxs (cs := #[.string (⟨#[]⟩ : ByteArray), .string (⟨#[]⟩ : ByteArray), .slice none 0 0, .slice none 0 0, .bool false, .string (⟨#[]⟩ : ByteArray)]) (t := 34) (by rfl) rfl ?hr B (fun g9 w18 hb B F9 L9 E9 => ?_)
    (case hr => go_simp; first | done | rfl)
    have N1_9 := ne1 E9 F1
    have N2_9 := ne1 E9 F2
    have N3_9 := ne1 E9 F3
    have N6_9 := ne1 E9 F6
    have N8_9 := ne1 E9 F8
    replace F1 := bn F1 hb
    replace F2 := bn F2 hb
    replace F3 := bn F3 hb
    replace F6 := bn F6 hb
    replace F8 := bn F8 hb
    replace RIs37 := rn RIs37 hb
    replace RL41 := rn RL41 hb
    clear hb E9
    refine hK.out _ _ ⟨F6.out, F1.out⟩ (fun hHeld => ?_)
    clear hK K
    refine norm_ (a' := ?_) ?_ ?_
    rotate_left
    ·show Act.put _ (some 9) _ = _
     simp only [Act.put, za, zb, zc, i64_w, i32_w]
     rfl
    refine two_ (i := 4) (j := 5) (Ni := some 47) (Nj := some 48) (bits 12 1247) (bits 12 1263) rfl rfl rfl rfl (two_of HT_.out (by kernel_rfl)) (by decide) (by decide) (fun K hK => ?_) (fun K hK => ?_)
    ·refine goes_ Try.func74 (by kernel_rfl) rfl #[.slice AP ps.length cP, .agg #[.string c, .string b]] (by rfl) rfl rfl (by (try simp only [List.map_toArray, List.map_cons, List.map_nil]); rfl) ?_
     with_reducible refine cr (spec_PairsIn.M _ _ ps c b _ (cb HRP B) HCP.out) B fun AIs47 kIs47 w19 hb B RIs47 QIs47 => ?_
     have DIs37_Is47 := fr QIs47 RIs37
     have DL41_Is47 := fr QIs47 RL41
     replace F1 := bn F1 hb
     replace F2 := bn F2 hb
     replace F3 := bn F3 hb
     replace F6 := bn F6 hb
     replace F8 := bn F8 hb
     replace F9 := bn F9 hb
     replace RIs37 := rn RIs37 hb
     replace RL41 := rn RL41 hb
     clear hb
     refine ⟨_, rfl, ?_⟩
     refine hK.out _ _ ⟨F6.out, F1.out⟩ (fun hHeld => ?_)
     clear hK K
     refine norm_ (a' := ?_) ?_ ?_
     rotate_left
     ·show Act.put _ (some 47) _ = _
      simp only [Act.put, za, zb, zc, i64_w, i32_w]
      rfl
     clear QIs47
     refine one_ (i := 5) (N := some 48) (bits 12 1279) rfl rfl (one_of HT_.out (by kernel_rfl)) (by decide) (fun K hK => ?_)
     refine lts k100 100 (by rfl) rfl ([] : List S100) [] ?hr (Reps.none _ _) (by simp) B (fun z48 hz48 AL48 kL48 w20 hb B RL48 QL48 => ?_)
     (case hr => go_simp; first | done | rfl)
     have DIs37_L48 := fr QL48 RIs37
     have DL41_L48 := fr QL48 RL41
     have DIs47_L48 := fr QL48 RIs47
     replace F1 := bn F1 hb
     replace F2 := bn F2 hb
     replace F3 := bn F3 hb
     replace F6 := bn F6 hb
     replace F8 := bn F8 hb
     replace F9 := bn F9 hb
     replace RIs37 := rn RIs37 hb
     replace RL41 := rn RL41 hb
     replace RIs47 := rn RIs47 hb
     clear hb QL48
     subst hz48
     refine hK.out _ _ ⟨F6.out, F1.out⟩ (fun hHeld => ?_)
     clear hK K
     refine norm_ (a' := ?_) ?_ ?_
     rotate_left
     ·show Act.put _ (some 48) _ = _
      simp only [Act.put, za, zb, zc, i64_w, i32_w]
      rfl
     refine one_ (i := 8) (N := some 51) (bits 12 1535) rfl rfl (one_of HT_.out (by kernel_rfl)) (by decide) (fun K hK => ?_)
     refine aps k100 100 (by rfl) rfl (.tmp 48) (.tmp 50) 32 (.agg #[.int .i64 (0), .int .i64 (0), .int .i64 (0)]) 24 rfl Try.underlying32 info100 rfl (by decide) (by omega) rfl rfl RL48 (cb HRS B) (fun x cs h => by rw [k100_open h]; exact k100_mkM _ _ _ x) (by first | omega | (simp only [List.length_append, List.length_nil, List.length_cons]; omega)) B (fun z51 hz51 AL51 kL51 w21 hg B RL51 hat => ?_)
     replace F1 := bga F1 hg RL48 (by decide)
     replace F2 := bga F2 hg RL48 (by decide)
     replace F3 := bga F3 hg RL48 (by decide)
     replace F6 := bga F6 hg RL48 (by decide)
     replace F8 := bga F8 hg RL48 (by decide)
     replace F9 := bga F9 hg RL48 (by decide)
     replace RIs37 := rga RIs37 rfl hg (dty RL48 RIs37 (by decide))
     have DL41_L51 := dap hat (Aside0.mk DL41_L48.out) RL41
     replace RL41 := rga RL41 rfl hg (fun k p q => DL41_L48.out k q p)
     replace RIs47 := rga RIs47 rfl hg (dty RL48 RIs47 (by decide))
     clear hg hat
     refine hK.out _ _ ⟨F6.out, F1.out⟩ (fun hHeld => ?_)
     clear hK K
     refine norm_ (a' := ?_) ?_ ?_
     rotate_left
     ·show Act.put _ (some 51) _ = _
      simp only [Act.put, za, zb, zc, i64_w, i32_w]
      rfl
     refine pv 9 (some 52) (v := ?_) (bits 12 2047) HT_ (by kernel_rfl) rfl rfl (fun _ _ _ h => h) (by kernel_rfl) ?_ ?_; rotate_left; (intro w'; go_simp; with_reducible rfl)
     refine norm_ (a' := ?_) ?_ ?_
     rotate_left
     ·simp only [Act.put, za, zb, zc, i64_w, i32_w]
      rfl
     refine norm_ (a' := _) ?_ (J ⟨AIs47, kIs47, AL48, kL48, AL51, kL51, z51, g9⟩ _ ⟨B, F1, F2, F3, F6, F8, F9, L9, N1_9, N2_9, N3_9, N6_9, N8_9, RIs37, RL41, RIs47, RL51, DIs37_Is47, DL41_Is47, DL41_L51, (by rw [← hz51]; rfl)⟩)
     simp only [putAll, Act.put, za, zb, zc]
     try rfl
    ·refine lts k100 100 (by rfl) rfl ([] : List S100) [] ?hr (Reps.none _ _) (by simp) B (fun z48 hz48 AL48 kL48 w19 hb B RL48 QL48 => ?_)
     (case hr => go_simp; first | done | rfl)
     have DIs37_L48 := fr QL48 RIs37
     have DL41_L48 := fr QL48 RL41
     replace F1 := bn F1 hb
     replace F2 := bn F2 hb
     replace F3 := bn F3 hb
     replace F6 := bn F6 hb
     replace F8 := bn F8 hb
     replace F9 := bn F9 hb
     replace RIs37 := rn RIs37 hb
     replace RL41 := rn RL41 hb
     clear hb QL48
     subst hz48
     refine hK.out _ _ ⟨F6.out, F1.out⟩ (fun hHeld => ?_)
     clear hK K
     refine norm_ (a' := ?_) ?_ ?_
     rotate_left
     ·show Act.put _ (some 48) _ = _
      simp only [Act.put, za, zb, zc, i64_w, i32_w]
      rfl
     refine one_ (i := 4) (N := some 47) (bits 12 1279) rfl rfl (one_of HT_.out (by kernel_rfl)) (by decide) (fun K hK => ?_)
     refine goes_ Try.func74 (by kernel_rfl) rfl #[.slice AP ps.length cP, .agg #[.string c, .string b]] (by rfl) rfl rfl (by (try simp only [List.map_toArray, List.map_cons, List.map_nil]); rfl) ?_
     with_reducible refine cr (spec_PairsIn.M _ _ ps c b _ (cb HRP B) HCP.out) B fun AIs47 kIs47 w20 hb B RIs47 QIs47 => ?_
     have DIs37_Is47 := fr QIs47 RIs37
     have DL41_Is47 := fr QIs47 RL41
     have DL48_Is47 := fr QIs47 RL48
     replace F1 := bn F1 hb
     replace F2 := bn F2 hb
     replace F3 := bn F3 hb
     replace F6 := bn F6 hb
     replace F8 := bn F8 hb
     replace F9 := bn F9 hb
     replace RIs37 := rn RIs37 hb
     replace RL41 := rn RL41 hb
     replace RL48 := rn RL48 hb
     clear hb
     refine ⟨_, rfl, ?_⟩
     refine hK.out _ _ ⟨F6.out, F1.out⟩ (fun hHeld => ?_)
     clear hK K
     refine norm_ (a' := ?_) ?_ ?_
     rotate_left
     ·show Act.put _ (some 47) _ = _
      simp only [Act.put, za, zb, zc, i64_w, i32_w]
      rfl
     clear QIs47
     refine one_ (i := 8) (N := some 51) (bits 12 1535) rfl rfl (one_of HT_.out (by kernel_rfl)) (by decide) (fun K hK => ?_)
     refine aps k100 100 (by rfl) rfl (.tmp 48) (.tmp 50) 32 (.agg #[.int .i64 (0), .int .i64 (0), .int .i64 (0)]) 24 rfl Try.underlying32 info100 rfl (by decide) (by omega) rfl rfl RL48 (cb HRS B) (fun x cs h => by rw [k100_open h]; exact k100_mkM _ _ _ x) (by first | omega | (simp only [List.length_append, List.length_nil, List.length_cons]; omega)) B (fun z51 hz51 AL51 kL51 w21 hg B RL51 hat => ?_)
     replace F1 := bga F1 hg RL48 (by decide)
     replace F2 := bga F2 hg RL48 (by decide)
     replace F3 := bga F3 hg RL48 (by decide)
     replace F6 := bga F6 hg RL48 (by decide)
     replace F8 := bga F8 hg RL48 (by decide)
     replace F9 := bga F9 hg RL48 (by decide)
     replace RIs37 := rga RIs37 rfl hg (dty RL48 RIs37 (by decide))
     have DL41_L51 := dap hat (Aside0.mk DL41_L48.out) RL41
     replace RL41 := rga RL41 rfl hg (fun k p q => DL41_L48.out k q p)
     replace RIs47 := rga RIs47 rfl hg (dty RL48 RIs47 (by decide))
     clear hg hat
     refine hK.out _ _ ⟨F6.out, F1.out⟩ (fun hHeld => ?_)
     clear hK K
     refine norm_ (a' := ?_) ?_ ?_
     rotate_left
     ·show Act.put _ (some 51) _ = _
      simp only [Act.put, za, zb, zc, i64_w, i32_w]
      rfl
     refine pv 9 (some 52) (v := ?_) (bits 12 2047) HT_ (by kernel_rfl) rfl rfl (fun _ _ _ h => h) (by kernel_rfl) ?_ ?_; rotate_left; (intro w'; go_simp; with_reducible rfl)
     refine norm_ (a' := ?_) ?_ ?_
     rotate_left
     ·simp only [Act.put, za, zb, zc, i64_w, i32_w]
      rfl
     refine norm_ (a' := _) ?_ (J ⟨AIs47, kIs47, AL48, kL48, AL51, kL51, z51, g9⟩ _ ⟨B, F1, F2, F3, F6, F8, F9, L9, N1_9, N2_9, N3_9, N6_9, N8_9, RIs37, RL41, RIs47, RL51, DIs37_Is47, DL41_Is47, DL41_L51, (by rw [← hz51]; rfl)⟩)
     simp only [putAll, Act.put, za, zb, zc]
     try rfl
  rintro ⟨AIs47, kIs47, AL48, kL48, AL51, kL51, z51, g9⟩ w22 ⟨B, F1, F2, F3, F6, F8, F9, L9, N1_9, N2_9, N3_9, N6_9, N8_9, RIs37, RL41, RIs47, RL51, DIs37_Is47, DL41_Is47, DL41_L51, rfl⟩
  refine norm_ (a' := ?_) ?_ ?_
  rotate_left
  ·simp only [putAll, Act.put, za, zb, zc]
   rfl
  refine one_ (i := 11) (N := none) (bits 12 4095) rfl rfl (one_of HT_.out (by kernel_rfl)) (by decide) (fun K hK => ?_)
  obtain ⟨y0, y1, y2, y3, y4, y5, z0, z1, z2, z3, z4, z5⟩ := cz6 F9
  refine sxs (g := g9) 0 [.string c, .string b, .slice AIs47 (inM ps c b).length kIs47, .slice AL51 ss.length kL51, .bool false, .string (⟨#[]⟩ : ByteArray)] [.string c, .string b, .slice AIs47 (inM ps c b).length kIs47, .slice AL51 ss.length kL51, .bool false, .string (⟨#[]⟩ : ByteArray)] (by rfl) rfl ?hr B F9 L9 rfl (Nat.le_of_ble_eq_true rfl) (fun w23 hk B G => ?_)
  (case hr => go_simp; first | done | rfl)
  replace F1 := bk F1 hk N1_9.out
  replace F2 := bk F2 hk N2_9.out
  replace F3 := bk F3 hk N3_9.out
  replace F6 := bk F6 hk N6_9.out
  replace F8 := bk F8 hk N8_9.out
  replace RIs37 := rk RIs37 F9 (by decide) hk
  replace RL41 := rk RL41 F9 (by decide) hk
  replace RIs47 := rk RIs47 F9 (by decide) hk
  replace RL51 := rk RL51 F9 (by decide) hk
  replace F9 := G
  clear hk y0 z0 y1 z1 y2 z2 y3 z3 y4 z4 y5 z5
  refine hK.out _ _ ⟨F6.out, F1.out⟩ (fun hHeld => ?_)
  clear hK K
  refine done_ (done_of HT_.out (by kernel_rfl)) ?_
  clear c8_0 c8_1 c8_2 c8_3 c8_4 c8_5
  obtain ⟨c8_0, c8_1, c8_2, c8_3, c8_4, c8_5⟩ := cs6 F8
  obtain ⟨c9_0, c9_1, c9_2, c9_3, c9_4, c9_5⟩ := cs6 F9)
 all_goals try go_wp2
 all_goals (
  refine rg (n := 5) (S := fun W => W.heap[g8]? = some (.cells #[.string a, .string c, .slice AIs37 (inM ps a c).length kIs37, .slice AL41 ss.length kL41, .bool false, .string (⟨#[]⟩ : ByteArray)] 34 (0, 0)) ∧ W.heap[g9]? = some (.cells #[.string c, .string b, .slice AIs47 (inM ps c b).length kIs47, .slice AL51 ss.length kL51, .bool false, .string (⟨#[]⟩ : ByteArray)] 34 (0, 0))) (ds := []) #[false, false, false, false, false] (by kernel_rfl) rfl rfl ⟨F8.out, F9.out⟩ id B (fun w24 hb B hHeld => ?_)
  refine with_tabW spec_StateCut.tab6 spec_StateCut.bits6 (fun HT_ HW_ => ?_)
  replace F2 := bn F2 hb
  replace F3 := bn F3 hb
  replace F8 := bn F8 hb
  replace F9 := bn F9 hb
  replace RIs37 := rn RIs37 hb
  replace RL41 := rn RL41 hb
  replace RIs47 := rn RIs47 hb
  replace RL51 := rn RL51 hb
  clear hb
  refine tv 0 (some 53) (v := ?_) (bits 5 1) HT_ HW_ (by kernel_rfl) rfl rfl (fun _ _ _ h => h) (by kernel_rfl) hHeld ?_ ?_; rotate_left; (intro w' hS; obtain ⟨s0, s1⟩ := hS; obtain ⟨q0, q1, q2, q3, q4, q5⟩ := cs6 (Aside0.mk s0); go_simp; with_reducible rfl)
  refine tv 1 (some 54) (v := ?_) (bits 5 3) HT_ HW_ (by kernel_rfl) rfl rfl (fun _ _ _ h => h) (by kernel_rfl) hHeld ?_ ?_; rotate_left; (intro w' hS; obtain ⟨s0, s1⟩ := hS; obtain ⟨q0, q1, q2, q3, q4, q5⟩ := cs6 (Aside0.mk s1); go_simp; with_reducible rfl)
  refine norm_ (a' := ?_) ?_ ?_
  rotate_left
  ·simp only [Act.put, za, zb, zc, i64_w, i32_w]
   rfl
  refine one_ (i := 2) (N := none) (bits 5 7) rfl rfl (one_of HT_.out (by kernel_rfl)) (by decide) (fun K hK => ?_)
  obtain ⟨y0, y1, y2, y3, y4, y5, z0, z1, z2, z3, z4, z5⟩ := cz6 F2
  refine sxs (g := g2) 0 [.string a, .string c, .slice AIs37 (inM ps a c).length kIs37, .slice AL41 ss.length kL41, .bool false, .string (⟨#[]⟩ : ByteArray)] [.string a, .string c, .slice AIs37 (inM ps a c).length kIs37, .slice AL41 ss.length kL41, .bool false, .string (⟨#[]⟩ : ByteArray)] (by rfl) rfl ?hr B F2 L2 rfl (Nat.le_of_ble_eq_true rfl) (fun w25 hk B G => ?_)
  (case hr => go_simp; first | done | rfl)
  replace F3 := bk F3 hk N2_3.out.symm
  replace F8 := bk F8 hk N2_8.out.symm
  replace F9 := bk F9 hk N2_9.out.symm
  replace RIs37 := rk RIs37 F2 (by decide) hk
  replace RL41 := rk RL41 F2 (by decide) hk
  replace RIs47 := rk RIs47 F2 (by decide) hk
  replace RL51 := rk RL51 F2 (by decide) hk
  replace F2 := G
  clear hk y0 z0 y1 z1 y2 z2 y3 z3 y4 z4 y5 z5
  refine hK.out _ _ ⟨F8.out, F9.out⟩ (fun hHeld => ?_)
  clear hK K
  refine one_ (i := 3) (N := none) (bits 5 15) rfl rfl (one_of HT_.out (by kernel_rfl)) (by decide) (fun K hK => ?_)
  obtain ⟨y0, y1, y2, y3, y4, y5, z0, z1, z2, z3, z4, z5⟩ := cz6 F3
  refine sxs (g := g3) 0 [.string c, .string b, .slice AIs47 (inM ps c b).length kIs47, .slice AL51 ss.length kL51, .bool false, .string (⟨#[]⟩ : ByteArray)] [.string c, .string b, .slice AIs47 (inM ps c b).length kIs47, .slice AL51 ss.length kL51, .bool false, .string (⟨#[]⟩ : ByteArray)] (by rfl) rfl ?hr B F3 L3 rfl (Nat.le_of_ble_eq_true rfl) (fun w26 hk B G => ?_)
  (case hr => go_simp; first | done | rfl)
  replace F2 := bk F2 hk N2_3.out
  replace F8 := bk F8 hk N3_8.out.symm
  replace F9 := bk F9 hk N3_9.out.symm
  replace RIs37 := rk RIs37 F3 (by decide) hk
  replace RL41 := rk RL41 F3 (by decide) hk
  replace RIs47 := rk RIs47 F3 (by decide) hk
  replace RL51 := rk RL51 F3 (by decide) hk
  replace F3 := G
  clear hk y0 z0 y1 z1 y2 z2 y3 z3 y4 z4 y5 z5
  refine hK.out _ _ ⟨F8.out, F9.out⟩ (fun hHeld => ?_)
  clear hK K
  refine pv 4 (some 4) (v := ?_) (bits 5 31) HT_ (by kernel_rfl) rfl rfl (fun _ _ _ h => h) (by kernel_rfl) ?_ ?_; rotate_left; (intro w'; go_simp; with_reducible rfl)
  refine norm_ (a' := ?_) ?_ ?_
  rotate_left
  ·simp only [Act.put, za, zb, zc, i64_w, i32_w]
   rfl
  refine done_ (done_of HT_.out (by kernel_rfl)) ?_)
 all_goals try go_wp2
 refine bodyPost_ret (results_list (rs := [.cell 2 34, .cell 3 34, .tmp 4]) rfl (by simp) (.cell g2 34 _ (0, 0) _ rfl F2.out hu rfl (by kernel_rfl) (.cell g3 34 _ (0, 0) _ rfl F3.out hu rfl (by kernel_rfl) (.tmp .nil)))) rfl ?_
 exact ⟨_, _, _, _, rfl, RIs37.out, RL41.out, RIs47.out, RL51.out, DIs37_Is47.out, DL41_L51.out, B.out⟩
theorem spec_StateCut.M (a b : ByteArray) (AP : Option Addr) (cP : Nat) (ps : List S61) (AS : Option Addr) (cS : Nat) (ss : List S100) (t : Bool) (c : ByteArray) (w : World) (hrp : Kd.C k61 w AP ps.length ps) (hrs : Kd.C k100 w AS ss.length ss) (hcp : ps.length ≤ cP) (hcs : ss.length ≤ cS) : Calls Try.prog 30 #[.agg #[.string a, .string b, .slice AP ps.length cP, .slice AS ss.length cS, .bool t, .string c]] w fun e w' => ∃ v2 v3 v4 v5, e = .returned (.tuple #[.agg #[.string (csM ⟨a, b, ps, ss, t, c⟩).1.a, .string (csM ⟨a, b, ps, ss, t, c⟩).1.b, v2, v3, .bool (csM ⟨a, b, ps, ss, t, c⟩).1.t, .string (csM ⟨a, b, ps, ss, t, c⟩).1.c], .agg #[.string (csM ⟨a, b, ps, ss, t, c⟩).2.1.a, .string (csM ⟨a, b, ps, ss, t, c⟩).2.1.b, v4, v5, .bool (csM ⟨a, b, ps, ss, t, c⟩).2.1.t, .string (csM ⟨a, b, ps, ss, t, c⟩).2.1.c], .bool (csM ⟨a, b, ps, ss, t, c⟩).2.2]) ∧ Kd.R k61 61 w' w.heap.size (fun _ => True) v2 (csM ⟨a, b, ps, ss, t, c⟩).1.ps ∧ Kd.R k100 100 w' w.heap.size (fun _ => True) v3 (csM ⟨a, b, ps, ss, t, c⟩).1.ss ∧ Kd.R k61 61 w' w.heap.size (fun _ => True) v4 (csM ⟨a, b, ps, ss, t, c⟩).2.1.ps ∧ Kd.R k100 100 w' w.heap.size (fun _ => True) v5 (csM ⟨a, b, ps, ss, t, c⟩).2.1.ss ∧ (∀ k_, v4.ownBlock = some k_ → v2.ownBlock = some k_ → False) ∧ (∀ k_, v5.ownBlock = some k_ → v3.ownBlock = some k_ → False) ∧ Below w.heap.size w w' := by
 have B := Aside0.mk (Below.refl w.heap.size w)
 cases hs : stB a b ps ss t c with
 | false =>
  rw [cs_bad (show cutOk ⟨a, b, ps, ss, t, c⟩ = false by unfold cutOk SM.ok; rw [hs]; rfl)]
  have hu := Try.underlying34
  have hu2 := Try.underlying30
  have HRP := Aside0.mk hrp
  have HRS := Aside0.mk hrs
  have HCP := Aside0.mk hcp
  have HCS := Aside0.mk hcs
  clear hrp hrs hcp hcs
  go_enter Try.func30, Try.ntmps30
  go_wp2_with (first
   | ((with_reducible refine gate_dst (N := 1) rfl ?_); refine bx ?hg (N := 1) ?hd (cs := #[.string a, .string b, .slice AP ps.length cP, .slice AS ss.length cS, .bool t, .string c]) (t := 34) ?hr B ?_; (case hd | hg => rfl); (case hr => go_simp; first | done | rfl); intro g1 w1001 hb B F1 L1 E1; obtain ⟨c1_0, c1_1, c1_2, c1_3, c1_4, c1_5⟩ := cs6 F1; clear hb E1)
   | ((with_reducible refine gate_dst (N := 2) rfl ?_); refine bx ?hg (N := 2) ?hd (cs := #[.string (⟨#[]⟩ : ByteArray), .string (⟨#[]⟩ : ByteArray), .slice none 0 0, .slice none 0 0, .bool false, .string (⟨#[]⟩ : ByteArray)]) (t := 34) ?hr B ?_; (case hd | hg => rfl); (case hr => go_simp; first | done | rfl); intro g2 w1002 hb B F2 L2 E2; have N1_2 := ne1 E2 F1; replace F1 := bn F1 hb; clear c1_0 c1_1 c1_2 c1_3 c1_4 c1_5; obtain ⟨c1_0, c1_1, c1_2, c1_3, c1_4, c1_5⟩ := cs6 F1; clear hb E2)
   | ((with_reducible refine gate_dst (N := 3) rfl ?_); refine bx ?hg (N := 3) ?hd (cs := #[.string (⟨#[]⟩ : ByteArray), .string (⟨#[]⟩ : ByteArray), .slice none 0 0, .slice none 0 0, .bool false, .string (⟨#[]⟩ : ByteArray)]) (t := 34) ?hr B ?_; (case hd | hg => rfl); (case hr => go_simp; first | done | rfl); intro g3 w1003 hb B F3 L3 E3; have N1_3 := ne1 E3 F1; have N2_3 := ne1 E3 F2; replace F1 := bn F1 hb; replace F2 := bn F2 hb; clear c1_0 c1_1 c1_2 c1_3 c1_4 c1_5; obtain ⟨c1_0, c1_1, c1_2, c1_3, c1_4, c1_5⟩ := cs6 F1; clear hb E3)
   | (go_at_call 51; with_reducible refine cl (spec_IntervalCut.M a b c _) B fun w1004 hb B => ?_; replace F1 := bn F1 hb; replace F2 := bn F2 hb; replace F3 := bn F3 hb; clear c1_0 c1_1 c1_2 c1_3 c1_4 c1_5; obtain ⟨c1_0, c1_1, c1_2, c1_3, c1_4, c1_5⟩ := cs6 F1; clear hb)
   | ((with_reducible refine gate_dst (N := 5) rfl ?_); refine bx ?hg (N := 5) ?hd (cs := #[.string (⟨#[]⟩ : ByteArray), .string (⟨#[]⟩ : ByteArray)]) (t := 30) ?hr B ?_; (case hd | hg => rfl); (case hr => go_simp; first | done | rfl); intro g5 w1005 hb B F5 L5 E5; have N1_5 := ne1 E5 F1; have N2_5 := ne1 E5 F2; have N3_5 := ne1 E5 F3; replace F1 := bn F1 hb; replace F2 := bn F2 hb; replace F3 := bn F3 hb; clear c1_0 c1_1 c1_2 c1_3 c1_4 c1_5; obtain ⟨c1_0, c1_1, c1_2, c1_3, c1_4, c1_5⟩ := cs6 F1; clear hb E5)
   | ((with_reducible refine gate_dst (N := 6) rfl ?_); refine bx ?hg (N := 6) ?hd (cs := #[.string (⟨#[]⟩ : ByteArray), .string (⟨#[]⟩ : ByteArray)]) (t := 30) ?hr B ?_; (case hd | hg => rfl); (case hr => go_simp; first | done | rfl); intro g6 w1006 hb B F6 L6 E6; have N1_6 := ne1 E6 F1; have N2_6 := ne1 E6 F2; have N3_6 := ne1 E6 F3; have N5_6 := ne1 E6 F5; replace F1 := bn F1 hb; replace F2 := bn F2 hb; replace F3 := bn F3 hb; replace F5 := bn F5 hb; clear c1_0 c1_1 c1_2 c1_3 c1_4 c1_5; obtain ⟨c1_0, c1_1, c1_2, c1_3, c1_4, c1_5⟩ := cs6 F1; clear hb E6)
   | ((with_reducible refine gate_store (t := 30) (p := 5) rfl ?_); obtain ⟨y0, y1, z0, z1⟩ := cz2 F5; refine sx (t := 30) (t' := 30) (p := 5) (v := ?vo1007) ?hg ?ho ?hn 0 [.string (cutV a b c).1, .string (cutV a b c).2.1] [.string (cutV a b c).1, .string (cutV a b c).2.1] ?hr B F5 L5 rfl (Nat.le_of_ble_eq_true rfl) ?_; (case ho | hg | hn => rfl); (case hr => go_simp; first | done | rfl); intro w1007 hk B G; replace F1 := bk F1 hk N1_5.out; replace F2 := bk F2 hk N2_5.out; replace F3 := bk F3 hk N3_5.out; replace F6 := bk F6 hk N5_6.out.symm; replace F5 := G; clear c1_0 c1_1 c1_2 c1_3 c1_4 c1_5; obtain ⟨c1_0, c1_1, c1_2, c1_3, c1_4, c1_5⟩ := cs6 F1; clear hk y0 z0 y1 z1)
   | ((with_reducible refine gate_store (t := 30) (p := 6) rfl ?_); obtain ⟨y0, y1, z0, z1⟩ := cz2 F6; refine sx (t := 30) (t' := 30) (p := 6) (v := ?vo1008) ?hg ?ho ?hn 0 [.string (cutV a b c).2.2.1, .string (cutV a b c).2.2.2.1] [.string (cutV a b c).2.2.1, .string (cutV a b c).2.2.2.1] ?hr B F6 L6 rfl (Nat.le_of_ble_eq_true rfl) ?_; (case ho | hg | hn => rfl); (case hr => go_simp; first | done | rfl); intro w1008 hk B G; replace F1 := bk F1 hk N1_6.out; replace F2 := bk F2 hk N2_6.out; replace F3 := bk F3 hk N3_6.out; replace F6 := G; clear c1_0 c1_1 c1_2 c1_3 c1_4 c1_5; obtain ⟨c1_0, c1_1, c1_2, c1_3, c1_4, c1_5⟩ := cs6 F1; clear hk y0 z0 y1 z1)
   | (go_at_call 12; with_reducible refine cl (spec_StateValid.M a b _ _ ps _ _ ss t c _ (cb HRP B) (cb HRS B)) B fun w1009 hb B => ?_; replace F1 := bn F1 hb; replace F2 := bn F2 hb; replace F3 := bn F3 hb; clear c1_0 c1_1 c1_2 c1_3 c1_4 c1_5; obtain ⟨c1_0, c1_1, c1_2, c1_3, c1_4, c1_5⟩ := cs6 F1; clear hb)
   | ((with_reducible refine gate_store (t := 34) (p := 2) rfl ?_); obtain ⟨y0, y1, y2, y3, y4, y5, z0, z1, z2, z3, z4, z5⟩ := cz6 F2; refine sx (t := 34) (t' := 34) (p := 2) (v := ?vo1010) ?hg ?ho ?hn 0 [.string (⟨#[]⟩ : ByteArray), .string (⟨#[]⟩ : ByteArray), .slice none 0 0, .slice none 0 0, .bool false, .string (⟨#[]⟩ : ByteArray)] [.string (⟨#[]⟩ : ByteArray), .string (⟨#[]⟩ : ByteArray), .slice none 0 0, .slice none 0 0, .bool false, .string (⟨#[]⟩ : ByteArray)] ?hr B F2 L2 rfl (Nat.le_of_ble_eq_true rfl) ?_; (case ho | hg | hn => rfl); (case hr => go_simp; first | done | rfl); intro w1010 hk B G; replace F1 := bk F1 hk N1_2.out; replace F3 := bk F3 hk N2_3.out.symm; replace F2 := G; clear hk y0 z0 y1 z1 y2 z2 y3 z3 y4 z4 y5 z5)
   | ((with_reducible refine gate_store (t := 34) (p := 3) rfl ?_); obtain ⟨y0, y1, y2, y3, y4, y5, z0, z1, z2, z3, z4, z5⟩ := cz6 F3; refine sx (t := 34) (t' := 34) (p := 3) (v := ?vo1011) ?hg ?ho ?hn 0 [.string (⟨#[]⟩ : ByteArray), .string (⟨#[]⟩ : ByteArray), .slice none 0 0, .slice none 0 0, .bool false, .string (⟨#[]⟩ : ByteArray)] [.string (⟨#[]⟩ : ByteArray), .string (⟨#[]⟩ : ByteArray), .slice none 0 0, .slice none 0 0, .bool false, .string (⟨#[]⟩ : ByteArray)] ?hr B F3 L3 rfl (Nat.le_of_ble_eq_true rfl) ?_; (case ho | hg | hn => rfl); (case hr => go_simp; first | done | rfl); intro w1011 hk B G; replace F1 := bk F1 hk N1_3.out; replace F2 := bk F2 hk N2_3.out; replace F3 := G; clear hk y0 z0 y1 z1 y2 z2 y3 z3 y4 z4 y5 z5))
  all_goals (refine bodyPost_ret (results_list (rs := [.cell 2 34, .cell 3 34, .tmp 4]) rfl (by simp) (.cell g2 34 _ (0, 0) _ rfl F2.out hu rfl (by kernel_rfl) (.cell g3 34 _ (0, 0) _ rfl F3.out hu rfl (by kernel_rfl) (.tmp .nil)))) rfl ?_; exact ⟨_, _, _, _, rfl, Kd.R_nil _ _ _ _ _, Kd.R_nil _ _ _ _ _, Kd.R_nil _ _ _ _ _, Kd.R_nil _ _ _ _ _, (fun _ h => nomatch h), (fun _ h => nomatch h), B.out⟩)
 | true =>
  cases t with
  | false =>
   rw [cs_bad (show cutOk ⟨a, b, ps, ss, false, c⟩ = false by unfold cutOk SM.ok; rw [hs]; rfl)]
   have hu := Try.underlying34
   have hu2 := Try.underlying30
   have HRP := Aside0.mk hrp
   have HRS := Aside0.mk hrs
   have HCP := Aside0.mk hcp
   have HCS := Aside0.mk hcs
   clear hrp hrs hcp hcs
   go_enter Try.func30, Try.ntmps30
   go_wp2_with (first
    | ((with_reducible refine gate_dst (N := 1) rfl ?_); refine bx ?hg (N := 1) ?hd (cs := #[.string a, .string b, .slice AP ps.length cP, .slice AS ss.length cS, .bool false, .string c]) (t := 34) ?hr B ?_; (case hd | hg => rfl); (case hr => go_simp; first | done | rfl); intro g1 w2001 hb B F1 L1 E1; obtain ⟨c1_0, c1_1, c1_2, c1_3, c1_4, c1_5⟩ := cs6 F1; clear hb E1)
    | ((with_reducible refine gate_dst (N := 2) rfl ?_); refine bx ?hg (N := 2) ?hd (cs := #[.string (⟨#[]⟩ : ByteArray), .string (⟨#[]⟩ : ByteArray), .slice none 0 0, .slice none 0 0, .bool false, .string (⟨#[]⟩ : ByteArray)]) (t := 34) ?hr B ?_; (case hd | hg => rfl); (case hr => go_simp; first | done | rfl); intro g2 w2002 hb B F2 L2 E2; have N1_2 := ne1 E2 F1; replace F1 := bn F1 hb; clear c1_0 c1_1 c1_2 c1_3 c1_4 c1_5; obtain ⟨c1_0, c1_1, c1_2, c1_3, c1_4, c1_5⟩ := cs6 F1; clear hb E2)
    | ((with_reducible refine gate_dst (N := 3) rfl ?_); refine bx ?hg (N := 3) ?hd (cs := #[.string (⟨#[]⟩ : ByteArray), .string (⟨#[]⟩ : ByteArray), .slice none 0 0, .slice none 0 0, .bool false, .string (⟨#[]⟩ : ByteArray)]) (t := 34) ?hr B ?_; (case hd | hg => rfl); (case hr => go_simp; first | done | rfl); intro g3 w2003 hb B F3 L3 E3; have N1_3 := ne1 E3 F1; have N2_3 := ne1 E3 F2; replace F1 := bn F1 hb; replace F2 := bn F2 hb; clear c1_0 c1_1 c1_2 c1_3 c1_4 c1_5; obtain ⟨c1_0, c1_1, c1_2, c1_3, c1_4, c1_5⟩ := cs6 F1; clear hb E3)
    | (go_at_call 51; with_reducible refine cl (spec_IntervalCut.M a b c _) B fun w2004 hb B => ?_; replace F1 := bn F1 hb; replace F2 := bn F2 hb; replace F3 := bn F3 hb; clear c1_0 c1_1 c1_2 c1_3 c1_4 c1_5; obtain ⟨c1_0, c1_1, c1_2, c1_3, c1_4, c1_5⟩ := cs6 F1; clear hb)
    | ((with_reducible refine gate_dst (N := 5) rfl ?_); refine bx ?hg (N := 5) ?hd (cs := #[.string (⟨#[]⟩ : ByteArray), .string (⟨#[]⟩ : ByteArray)]) (t := 30) ?hr B ?_; (case hd | hg => rfl); (case hr => go_simp; first | done | rfl); intro g5 w2005 hb B F5 L5 E5; have N1_5 := ne1 E5 F1; have N2_5 := ne1 E5 F2; have N3_5 := ne1 E5 F3; replace F1 := bn F1 hb; replace F2 := bn F2 hb; replace F3 := bn F3 hb; clear c1_0 c1_1 c1_2 c1_3 c1_4 c1_5; obtain ⟨c1_0, c1_1, c1_2, c1_3, c1_4, c1_5⟩ := cs6 F1; clear hb E5)
    | ((with_reducible refine gate_dst (N := 6) rfl ?_); refine bx ?hg (N := 6) ?hd (cs := #[.string (⟨#[]⟩ : ByteArray), .string (⟨#[]⟩ : ByteArray)]) (t := 30) ?hr B ?_; (case hd | hg => rfl); (case hr => go_simp; first | done | rfl); intro g6 w2006 hb B F6 L6 E6; have N1_6 := ne1 E6 F1; have N2_6 := ne1 E6 F2; have N3_6 := ne1 E6 F3; have N5_6 := ne1 E6 F5; replace F1 := bn F1 hb; replace F2 := bn F2 hb; replace F3 := bn F3 hb; replace F5 := bn F5 hb; clear c1_0 c1_1 c1_2 c1_3 c1_4 c1_5; obtain ⟨c1_0, c1_1, c1_2, c1_3, c1_4, c1_5⟩ := cs6 F1; clear hb E6)
    | ((with_reducible refine gate_store (t := 30) (p := 5) rfl ?_); obtain ⟨y0, y1, z0, z1⟩ := cz2 F5; refine sx (t := 30) (t' := 30) (p := 5) (v := ?vo2007) ?hg ?ho ?hn 0 [.string (cutV a b c).1, .string (cutV a b c).2.1] [.string (cutV a b c).1, .string (cutV a b c).2.1] ?hr B F5 L5 rfl (Nat.le_of_ble_eq_true rfl) ?_; (case ho | hg | hn => rfl); (case hr => go_simp; first | done | rfl); intro w2007 hk B G; replace F1 := bk F1 hk N1_5.out; replace F2 := bk F2 hk N2_5.out; replace F3 := bk F3 hk N3_5.out; replace F6 := bk F6 hk N5_6.out.symm; replace F5 := G; clear c1_0 c1_1 c1_2 c1_3 c1_4 c1_5; obtain ⟨c1_0, c1_1, c1_2, c1_3, c1_4, c1_5⟩ := cs6 F1; clear hk y0 z0 y1 z1)
    | ((with_reducible refine gate_store (t := 30) (p := 6) rfl ?_); obtain ⟨y0, y1, z0, z1⟩ := cz2 F6; refine sx (t := 30) (t' := 30) (p := 6) (v := ?vo2008) ?hg ?ho ?hn 0 [.string (cutV a b c).2.2.1, .string (cutV a b c).2.2.2.1] [.string (cutV a b c).2.2.1, .string (cutV a b c).2.2.2.1] ?hr B F6 L6 rfl (Nat.le_of_ble_eq_true rfl) ?_; (case ho | hg | hn => rfl); (case hr => go_simp; first | done | rfl); intro w2008 hk B G; replace F1 := bk F1 hk N1_6.out; replace F2 := bk F2 hk N2_6.out; replace F3 := bk F3 hk N3_6.out; replace F6 := G; clear c1_0 c1_1 c1_2 c1_3 c1_4 c1_5; obtain ⟨c1_0, c1_1, c1_2, c1_3, c1_4, c1_5⟩ := cs6 F1; clear hk y0 z0 y1 z1)
    | (go_at_call 12; with_reducible refine cl (spec_StateValid.M a b _ _ ps _ _ ss false c _ (cb HRP B) (cb HRS B)) B fun w2009 hb B => ?_; replace F1 := bn F1 hb; replace F2 := bn F2 hb; replace F3 := bn F3 hb; clear c1_0 c1_1 c1_2 c1_3 c1_4 c1_5; obtain ⟨c1_0, c1_1, c1_2, c1_3, c1_4, c1_5⟩ := cs6 F1; clear hb)
    | ((with_reducible refine gate_store (t := 34) (p := 2) rfl ?_); obtain ⟨y0, y1, y2, y3, y4, y5, z0, z1, z2, z3, z4, z5⟩ := cz6 F2; refine sx (t := 34) (t' := 34) (p := 2) (v := ?vo2010) ?hg ?ho ?hn 0 [.string (⟨#[]⟩ : ByteArray), .string (⟨#[]⟩ : ByteArray), .slice none 0 0, .slice none 0 0, .bool false, .string (⟨#[]⟩ : ByteArray)] [.string (⟨#[]⟩ : ByteArray), .string (⟨#[]⟩ : ByteArray), .slice none 0 0, .slice none 0 0, .bool false, .string (⟨#[]⟩ : ByteArray)] ?hr B F2 L2 rfl (Nat.le_of_ble_eq_true rfl) ?_; (case ho | hg | hn => rfl); (case hr => go_simp; first | done | rfl); intro w2010 hk B G; replace F1 := bk F1 hk N1_2.out; replace F3 := bk F3 hk N2_3.out.symm; replace F2 := G; clear hk y0 z0 y1 z1 y2 z2 y3 z3 y4 z4 y5 z5)
    | ((with_reducible refine gate_store (t := 34) (p := 3) rfl ?_); obtain ⟨y0, y1, y2, y3, y4, y5, z0, z1, z2, z3, z4, z5⟩ := cz6 F3; refine sx (t := 34) (t' := 34) (p := 3) (v := ?vo2011) ?hg ?ho ?hn 0 [.string (⟨#[]⟩ : ByteArray), .string (⟨#[]⟩ : ByteArray), .slice none 0 0, .slice none 0 0, .bool false, .string (⟨#[]⟩ : ByteArray)] [.string (⟨#[]⟩ : ByteArray), .string (⟨#[]⟩ : ByteArray), .slice none 0 0, .slice none 0 0, .bool false, .string (⟨#[]⟩ : ByteArray)] ?hr B F3 L3 rfl (Nat.le_of_ble_eq_true rfl) ?_; (case ho | hg | hn => rfl); (case hr => go_simp; first | done | rfl); intro w2011 hk B G; replace F1 := bk F1 hk N1_3.out; replace F2 := bk F2 hk N2_3.out; replace F3 := G; clear hk y0 z0 y1 z1 y2 z2 y3 z3 y4 z4 y5 z5))
   all_goals (refine bodyPost_ret (results_list (rs := [.cell 2 34, .cell 3 34, .tmp 4]) rfl (by simp) (.cell g2 34 _ (0, 0) _ rfl F2.out hu rfl (by kernel_rfl) (.cell g3 34 _ (0, 0) _ rfl F3.out hu rfl (by kernel_rfl) (.tmp .nil)))) rfl ?_; exact ⟨_, _, _, _, rfl, Kd.R_nil _ _ _ _ _, Kd.R_nil _ _ _ _ _, Kd.R_nil _ _ _ _ _, Kd.R_nil _ _ _ _ _, (fun _ h => nomatch h), (fun _ h => nomatch h), B.out⟩)
  | true =>
   cases hcut : cutB a b c with
   | true => exact spec_StateCut.Mt a b AP cP ps AS cS ss c w hrp hrs hcp hcs hs hcut
   | false =>
    rw [cs_bad (show cutOk ⟨a, b, ps, ss, true, c⟩ = false by unfold cutOk SM.ok; rw [hs, hcut]; rfl)]
    have hu := Try.underlying34
    have hu2 := Try.underlying30
    have HRP := Aside0.mk hrp
    have HRS := Aside0.mk hrs
    have HCP := Aside0.mk hcp
    have HCS := Aside0.mk hcs
    clear hrp hrs hcp hcs
    go_enter Try.func30, Try.ntmps30
    go_wp2_with (first
     | ((with_reducible refine gate_dst (N := 1) rfl ?_); refine bx ?hg (N := 1) ?hd (cs := #[.string a, .string b, .slice AP ps.length cP, .slice AS ss.length cS, .bool true, .string c]) (t := 34) ?hr B ?_; (case hd | hg => rfl); (case hr => go_simp; first | done | rfl); intro g1 w3001 hb B F1 L1 E1; obtain ⟨c1_0, c1_1, c1_2, c1_3, c1_4, c1_5⟩ := cs6 F1; clear hb E1)
     | ((with_reducible refine gate_dst (N := 2) rfl ?_); refine bx ?hg (N := 2) ?hd (cs := #[.string (⟨#[]⟩ : ByteArray), .string (⟨#[]⟩ : ByteArray), .slice none 0 0, .slice none 0 0, .bool false, .string (⟨#[]⟩ : ByteArray)]) (t := 34) ?hr B ?_; (case hd | hg => rfl); (case hr => go_simp; first | done | rfl); intro g2 w3002 hb B F2 L2 E2; have N1_2 := ne1 E2 F1; replace F1 := bn F1 hb; clear c1_0 c1_1 c1_2 c1_3 c1_4 c1_5; obtain ⟨c1_0, c1_1, c1_2, c1_3, c1_4, c1_5⟩ := cs6 F1; clear hb E2)
     | ((with_reducible refine gate_dst (N := 3) rfl ?_); refine bx ?hg (N := 3) ?hd (cs := #[.string (⟨#[]⟩ : ByteArray), .string (⟨#[]⟩ : ByteArray), .slice none 0 0, .slice none 0 0, .bool false, .string (⟨#[]⟩ : ByteArray)]) (t := 34) ?hr B ?_; (case hd | hg => rfl); (case hr => go_simp; first | done | rfl); intro g3 w3003 hb B F3 L3 E3; have N1_3 := ne1 E3 F1; have N2_3 := ne1 E3 F2; replace F1 := bn F1 hb; replace F2 := bn F2 hb; clear c1_0 c1_1 c1_2 c1_3 c1_4 c1_5; obtain ⟨c1_0, c1_1, c1_2, c1_3, c1_4, c1_5⟩ := cs6 F1; clear hb E3)
     | (go_at_call 51; with_reducible refine cl (spec_IntervalCut.Mf a b c hcut _) B fun w3004 hb B => ?_; replace F1 := bn F1 hb; replace F2 := bn F2 hb; replace F3 := bn F3 hb; clear c1_0 c1_1 c1_2 c1_3 c1_4 c1_5; obtain ⟨c1_0, c1_1, c1_2, c1_3, c1_4, c1_5⟩ := cs6 F1; clear hb)
     | ((with_reducible refine gate_dst (N := 5) rfl ?_); refine bx ?hg (N := 5) ?hd (cs := #[.string (⟨#[]⟩ : ByteArray), .string (⟨#[]⟩ : ByteArray)]) (t := 30) ?hr B ?_; (case hd | hg => rfl); (case hr => go_simp; first | done | rfl); intro g5 w3005 hb B F5 L5 E5; have N1_5 := ne1 E5 F1; have N2_5 := ne1 E5 F2; have N3_5 := ne1 E5 F3; replace F1 := bn F1 hb; replace F2 := bn F2 hb; replace F3 := bn F3 hb; clear c1_0 c1_1 c1_2 c1_3 c1_4 c1_5; obtain ⟨c1_0, c1_1, c1_2, c1_3, c1_4, c1_5⟩ := cs6 F1; clear hb E5)
     | ((with_reducible refine gate_dst (N := 6) rfl ?_); refine bx ?hg (N := 6) ?hd (cs := #[.string (⟨#[]⟩ : ByteArray), .string (⟨#[]⟩ : ByteArray)]) (t := 30) ?hr B ?_; (case hd | hg => rfl); (case hr => go_simp; first | done | rfl); intro g6 w3006 hb B F6 L6 E6; have N1_6 := ne1 E6 F1; have N2_6 := ne1 E6 F2; have N3_6 := ne1 E6 F3; have N5_6 := ne1 E6 F5; replace F1 := bn F1 hb; replace F2 := bn F2 hb; replace F3 := bn F3 hb; replace F5 := bn F5 hb; clear c1_0 c1_1 c1_2 c1_3 c1_4 c1_5; obtain ⟨c1_0, c1_1, c1_2, c1_3, c1_4, c1_5⟩ := cs6 F1; clear hb E6)
     | ((with_reducible refine gate_store (t := 30) (p := 5) rfl ?_); obtain ⟨y0, y1, z0, z1⟩ := cz2 F5; refine sx (t := 30) (t' := 30) (p := 5) (v := ?vo3007) ?hg ?ho ?hn 0 [.string (⟨#[]⟩ : ByteArray), .string (⟨#[]⟩ : ByteArray)] [.string (⟨#[]⟩ : ByteArray), .string (⟨#[]⟩ : ByteArray)] ?hr B F5 L5 rfl (Nat.le_of_ble_eq_true rfl) ?_; (case ho | hg | hn => rfl); (case hr => go_simp; first | done | rfl); intro w3007 hk B G; replace F1 := bk F1 hk N1_5.out; replace F2 := bk F2 hk N2_5.out; replace F3 := bk F3 hk N3_5.out; replace F6 := bk F6 hk N5_6.out.symm; replace F5 := G; clear c1_0 c1_1 c1_2 c1_3 c1_4 c1_5; obtain ⟨c1_0, c1_1, c1_2, c1_3, c1_4, c1_5⟩ := cs6 F1; clear hk y0 z0 y1 z1)
     | ((with_reducible refine gate_store (t := 30) (p := 6) rfl ?_); obtain ⟨y0, y1, z0, z1⟩ := cz2 F6; refine sx (t := 30) (t' := 30) (p := 6) (v := ?vo3008) ?hg ?ho ?hn 0 [.string (⟨#[]⟩ : ByteArray), .string (⟨#[]⟩ : ByteArray)] [.string (⟨#[]⟩ : ByteArray), .string (⟨#[]⟩ : ByteArray)] ?hr B F6 L6 rfl (Nat.le_of_ble_eq_true rfl) ?_; (case ho | hg | hn => rfl); (case hr => go_simp; first | done | rfl); intro w3008 hk B G; replace F1 := bk F1 hk N1_6.out; replace F2 := bk F2 hk N2_6.out; replace F3 := bk F3 hk N3_6.out; replace F6 := G; clear c1_0 c1_1 c1_2 c1_3 c1_4 c1_5; obtain ⟨c1_0, c1_1, c1_2, c1_3, c1_4, c1_5⟩ := cs6 F1; clear hk y0 z0 y1 z1)
     | (go_at_call 12; with_reducible refine cl (spec_StateValid.M a b _ _ ps _ _ ss true c _ (cb HRP B) (cb HRS B)) B fun w3009 hb B => ?_; replace F1 := bn F1 hb; replace F2 := bn F2 hb; replace F3 := bn F3 hb; clear c1_0 c1_1 c1_2 c1_3 c1_4 c1_5; obtain ⟨c1_0, c1_1, c1_2, c1_3, c1_4, c1_5⟩ := cs6 F1; clear hb)
     | ((with_reducible refine gate_store (t := 34) (p := 2) rfl ?_); obtain ⟨y0, y1, y2, y3, y4, y5, z0, z1, z2, z3, z4, z5⟩ := cz6 F2; refine sx (t := 34) (t' := 34) (p := 2) (v := ?vo3010) ?hg ?ho ?hn 0 [.string (⟨#[]⟩ : ByteArray), .string (⟨#[]⟩ : ByteArray), .slice none 0 0, .slice none 0 0, .bool false, .string (⟨#[]⟩ : ByteArray)] [.string (⟨#[]⟩ : ByteArray), .string (⟨#[]⟩ : ByteArray), .slice none 0 0, .slice none 0 0, .bool false, .string (⟨#[]⟩ : ByteArray)] ?hr B F2 L2 rfl (Nat.le_of_ble_eq_true rfl) ?_; (case ho | hg | hn => rfl); (case hr => go_simp; first | done | rfl); intro w3010 hk B G; replace F1 := bk F1 hk N1_2.out; replace F3 := bk F3 hk N2_3.out.symm; replace F2 := G; clear hk y0 z0 y1 z1 y2 z2 y3 z3 y4 z4 y5 z5)
     | ((with_reducible refine gate_store (t := 34) (p := 3) rfl ?_); obtain ⟨y0, y1, y2, y3, y4, y5, z0, z1, z2, z3, z4, z5⟩ := cz6 F3; refine sx (t := 34) (t' := 34) (p := 3) (v := ?vo3011) ?hg ?ho ?hn 0 [.string (⟨#[]⟩ : ByteArray), .string (⟨#[]⟩ : ByteArray), .slice none 0 0, .slice none 0 0, .bool false, .string (⟨#[]⟩ : ByteArray)] [.string (⟨#[]⟩ : ByteArray), .string (⟨#[]⟩ : ByteArray), .slice none 0 0, .slice none 0 0, .bool false, .string (⟨#[]⟩ : ByteArray)] ?hr B F3 L3 rfl (Nat.le_of_ble_eq_true rfl) ?_; (case ho | hg | hn => rfl); (case hr => go_simp; first | done | rfl); intro w3011 hk B G; replace F1 := bk F1 hk N1_3.out; replace F2 := bk F2 hk N2_3.out; replace F3 := G; clear hk y0 z0 y1 z1 y2 z2 y3 z3 y4 z4 y5 z5))
    all_goals (refine bodyPost_ret (results_list (rs := [.cell 2 34, .cell 3 34, .tmp 4]) rfl (by simp) (.cell g2 34 _ (0, 0) _ rfl F2.out hu rfl (by kernel_rfl) (.cell g3 34 _ (0, 0) _ rfl F3.out hu rfl (by kernel_rfl) (.tmp .nil)))) rfl ?_; exact ⟨_, _, _, _, rfl, Kd.R_nil _ _ _ _ _, Kd.R_nil _ _ _ _ _, Kd.R_nil _ _ _ _ _, Kd.R_nil _ _ _ _ _, (fun _ h => nomatch h), (fun _ h => nomatch h), B.out⟩)
theorem spec_StateCut.Mr (a b : ByteArray) (AP : Option Addr) (cP : Nat) (ps : List S61) (AS : Option Addr) (cS : Nat) (ss : List S100) (t : Bool) (c : ByteArray) (xa xb : ByteArray) (xp : List S61) (xs : List S100) (xt : Bool) (xc ya yb : ByteArray) (yp : List S61) (ys : List S100) (yt : Bool) (yc : ByteArray) (ok : Bool) (hm : csM ⟨a, b, ps, ss, t, c⟩ = (⟨xa, xb, xp, xs, xt, xc⟩, ⟨ya, yb, yp, ys, yt, yc⟩, ok)) (w : World) (hrp : Kd.C k61 w AP ps.length ps) (hrs : Kd.C k100 w AS ss.length ss) (hcp : ps.length ≤ cP) (hcs : ss.length ≤ cS) : Calls Try.prog 30 #[.agg #[.string a, .string b, .slice AP ps.length cP, .slice AS ss.length cS, .bool t, .string c]] w fun e w' => ∃ v2 v3 v4 v5, e = .returned (.tuple #[.agg #[.string xa, .string xb, v2, v3, .bool xt, .string xc], .agg #[.string ya, .string yb, v4, v5, .bool yt, .string yc], .bool ok]) ∧ Kd.R k61 61 w' w.heap.size (fun _ => True) v2 xp ∧ Kd.R k100 100 w' w.heap.size (fun _ => True) v3 xs ∧ Kd.R k61 61 w' w.heap.size (fun _ => True) v4 yp ∧ Kd.R k100 100 w' w.heap.size (fun _ => True) v5 ys ∧ (∀ k_, v4.ownBlock = some k_ → v2.ownBlock = some k_ → False) ∧ (∀ k_, v5.ownBlock = some k_ → v3.ownBlock = some k_ → False) ∧ Below w.heap.size w w' := by
 have h := spec_StateCut.M a b AP cP ps AS cS ss t c w hrp hrs hcp hcs
 rw [hm] at h
 exact h

theorem impl_valueValid.M (n : Int) (w : World) : Calls Try.prog 94 #[.int .i64 n] w fun e w' => e = .returned (.bool (l1B n 0 999)) ∧ Below w.heap.size w w' := by
  go_enter Try.func94, Try.ntmps94
  go_wp2
  all_goals go_ret
  all_goals (refine ⟨?_, Below.refl _ _⟩; unfold l1B; simp_all; try omega)

def impl_PairsValid.T8 : Bool × List (List Nat × List Nat) := (true, [([], []), ([0], [0]), ([1], [1]), ([2], [2]), ([2], [2]), ([4, 2], [2, 4]), ([3, 5, 2], [2, 3, 5]), ([6, 2], [2, 6]), ([7, 2], [2, 7]), ([2], [2]), ([9, 2], [2, 9]), ([8, 10, 2], [2, 8, 10]), ([2, 11], [2, 11])])
def impl_PairsValid.B8 : List Nat := [0, 1, 3, 7, 7, 23, 63, 127, 255, 7, 519, 2047, 4095]
theorem impl_PairsValid.tab8 : rtab .any (opsOf Try.f56 8) = impl_PairsValid.T8 := by kernel_rfl
theorem impl_PairsValid.bits8 : waitsOk impl_PairsValid.T8.2 impl_PairsValid.B8 = true := by kernel_rfl
theorem impl_PairsValid.M (A0 : Option Addr) (c0 : Nat) (l : List S61) (w : World) (hr0 : Kd.C k61 w A0 l.length l) : Calls Try.prog 56 #[.slice A0 l.length c0] w fun e w' => e = .returned (.bool (prB l)) ∧ Below w.heap.size w w' := by
 have hu := Try.underlying61
 have B := Aside0.mk (Below.refl w.heap.size w)
 have HR0 := Aside0.mk hr0
 clear hr0
 obtain ⟨r, hr⟩ : ∃ r, prB l = r := ⟨_, rfl⟩
 rw [hr]
 unfold prB at hr
 by_cases hl : l.length ≤ 48
 ·have H := Aside0.mk (show prJ l 0 = r by unfold prJ prP; simpa [hl] using hr)
  have cl0 : decide (48 < (l.length : Int)) = false := decide_eq_false (by omega)
  have L48 := Aside0.mk (show l.length ≤ 4611686018427387904 by omega)
  clear hl hr
  go_enter Try.func56, Try.ntmps56
  go_wp2
  go_loopg [10] (l.length + 1) (fun kx v10 wr => ∃ j : Nat, v10 = .int .i64 (j : Int) ∧ j ≤ l.length ∧ l.length < j + kx ∧ Aside0 (Below w.heap.size w wr) ∧ Aside0 (prJ l j = r))
  case atStart => exact ⟨0, rfl, by omega, by omega, B, H⟩
  case round =>
   clear H B
   obtain ⟨j, rfl, hj, hk, B, H⟩ := hrel
   by_cases hlt : j < l.length
   ·have HS := Aside0.mk ((prJ_step hlt).symm.trans H.out)
    clear H
    obtain ⟨d, rfl⟩ : ∃ d, gk = d + 1 := ⟨gk - 1, by omega⟩
    have h48 := L48.out
    have cj : decide ((j : Int) < (l.length : Int)) = true := decide_eq_true (by omega)
    obtain ⟨ad, hA, y0, y1⟩ := at_T61 (cb HR0 B) (j : Int) (by omega) (by omega)
    cases hA
    rw [Int.toNat_natCast] at y0 y1
    have j1 := eq_true (show (j : Int) < (l.length : Int) by omega)
    have j2 := eq_true hlt
    generalize hy : rd_T61 l (j : Int) = y at *
    go_wp2_with (first
     | ((with_reducible refine gate_dst (N := 4) rfl ?_); refine bx ?hg (N := 4) ?hd (cs := #[.string (⟨#[]⟩ : ByteArray), .int .i64 (0)]) (t := 61) ?hr B ?_; (case hd | hg => rfl); (case hr => go_simp; first | done | rfl); intro g4 w1 hb B F4 L4 E4; obtain ⟨c4_0, c4_1⟩ := cs2 F4; clear hb E4)
     | ((with_reducible refine gate_store (t := 61) (p := 4) rfl ?_); obtain ⟨y0, y1, z0, z1⟩ := cz2 F4; refine sx (t := 61) (t' := 61) (p := 4) (v := ?vo2) ?hg ?ho ?hn 0 [.string y.f0, .int .i64 (y.f1)] [.string y.f0, .int .i64 (y.f1)] ?hr B F4 L4 rfl (Nat.le_of_ble_eq_true rfl) ?_; (case ho | hg | hn => rfl); (case hr => go_simp; first | done | rfl); intro w2 hk B G; replace F4 := G; clear c4_0 c4_1; obtain ⟨c4_0, c4_1⟩ := cs2 F4; clear hk y0 z0 y1 z1)
     | (go_at_call 80; with_reducible refine cl (impl_KeyValid.M y.f0 _) B fun w3 hb B => ?_; replace F4 := bn F4 hb; clear c4_0 c4_1; obtain ⟨c4_0, c4_1⟩ := cs2 F4; clear hb)
     | (go_at_call 94; with_reducible refine cl (impl_valueValid.M y.f1 _) B fun w4 hb B => ?_; replace F4 := bn F4 hb; clear c4_0 c4_1; obtain ⟨c4_0, c4_1⟩ := cs2 F4; clear hb))
    all_goals try (go_ret; exact ⟨andF HS.out (by grind [l1B, ltB]), B.out⟩)
    all_goals (
     refine rg (n := 13) (S := fun W => Kd.C k61 W (some ad) l.length l ∧ W.heap[g4]? = some (.cells #[.string y.f0, .int .i64 (y.f1)] 61 (0, 0))) (ds := []) #[false, false, false, false, false, false, false, false, false, false, false, false, false] (by kernel_rfl) rfl rfl ⟨(cb HR0 B), F4.out⟩ id B (fun w5 hb B hHeld => ?_)
     refine with_tabW impl_PairsValid.tab8 impl_PairsValid.bits8 (fun HT_ HW_ => ?_)
     replace F4 := bn F4 hb
     clear hb
     refine pv 0 (some 25) (v := ?_) (bits 13 1) HT_ (by kernel_rfl) rfl rfl (fun _ _ _ h => h) (by kernel_rfl) ?_ ?_; rotate_left; (intro w'; go_simp; with_reducible rfl)
     by_cases hz : j = 0
     ·rw [if_pos hz] at HS
      have dz : decide (0 < (j : Int)) = false := decide_eq_false (by omega)
      have dz2 : decide (0 < j) = false := decide_eq_false (by omega)
      clear hz
      refine pv 1 (some 26) (v := ?_) (bits 13 3) HT_ (by kernel_rfl) rfl rfl (fun _ _ _ h => h) (by kernel_rfl) ?_ ?_; rotate_left; (intro w'; go_simp; with_reducible rfl)
      refine pv 2 (some 27) (v := ?_) (bits 13 7) HT_ (by kernel_rfl) rfl rfl (fun _ _ _ h => h) (by kernel_rfl) ?_ ?_; rotate_left; (intro w'; go_simp; with_reducible rfl)
      refine sv 3 (some 28) (bits 13 15) HT_ (by kernel_rfl) rfl rfl (fun _ _ _ h => h) (by kernel_rfl) ?_
      refine sv 4 (some 29) (bits 13 31) HT_ (by kernel_rfl) rfl rfl (fun _ _ _ h => h) (by kernel_rfl) ?_
      refine sv 5 (some 30) (bits 13 63) HT_ (by kernel_rfl) rfl rfl (fun _ _ _ h => h) (by kernel_rfl) ?_
      refine sv 6 (some 31) (bits 13 127) HT_ (by kernel_rfl) rfl rfl (fun _ _ _ h => h) (by kernel_rfl) ?_
      refine sv 7 (some 32) (bits 13 255) HT_ (by kernel_rfl) rfl rfl (fun _ _ _ h => h) (by kernel_rfl) ?_
      refine sv 8 (some 33) (bits 13 511) HT_ (by kernel_rfl) rfl rfl (fun _ _ _ h => h) (by kernel_rfl) ?_
      refine sv 9 (some 34) (bits 13 1023) HT_ (by kernel_rfl) rfl rfl (fun _ _ _ h => h) (by kernel_rfl) ?_
      refine sv 10 (some 35) (bits 13 2047) HT_ (by kernel_rfl) rfl rfl (fun _ _ _ h => h) (by kernel_rfl) ?_
      refine sv 11 (some 36) (bits 13 4095) HT_ (by kernel_rfl) rfl rfl (fun _ _ _ h => h) (by kernel_rfl) ?_
      refine pv 12 (some 37) (v := ?_) (bits 13 8191) HT_ (by kernel_rfl) rfl rfl (fun _ _ _ h => h) (by kernel_rfl) ?_ ?_; rotate_left; (intro w'; go_simp; with_reducible rfl)
      refine norm_ (a' := ?_) ?_ ?_
      rotate_left
      ·simp only [Act.put, za, zb, zc, i64_w, i32_w]
       rfl
      refine done_ (done_of HT_.out (by kernel_rfl)) ?_
      try go_wp2
      all_goals first
       | (go_roundg d; (case measure => omega); (case rel => exact ⟨j + 1, congrArg (Value.int .i64) (Int.natCast_succ _).symm, by omega, by omega, B, ⟨andT HS.out (by grind [l1B, ltB])⟩⟩))
       | (go_ret; exact ⟨andF HS.out (by grind [l1B, ltB]), B.out⟩)
     ·rw [if_neg hz] at HS
      have dz : decide (0 < (j : Int)) = true := decide_eq_true (by omega)
      have dz2 : decide (0 < j) = true := decide_eq_true (by omega)
      obtain ⟨i, hi⟩ : ∃ i, j - 1 = i := ⟨_, rfl⟩
      rw [hi] at HS
      have WI := Aside0.mk (show (j : Int) - 1 = (i : Int) by omega)
      have hij : i < l.length := by omega
      have IW := Aside0.mk (show wrap64 (i : Int) = (i : Int) by unfold wrap64; omega)
      have i1 := eq_true (show (i : Int) < (l.length : Int) by omega)
      have i2 := eq_true hij
      generalize hx : rd_T61 l (i : Int) = x at HS
      clear hz hi
      refine pv 1 (some 26) (v := ?_) (bits 13 3) HT_ (by kernel_rfl) rfl rfl (fun _ _ _ h => h) (by kernel_rfl) ?_ ?_; rotate_left; (intro w'; go_simp; with_reducible rfl)
      refine pv 2 (some 27) (v := ?_) (bits 13 7) HT_ (by kernel_rfl) rfl rfl (fun _ _ _ h => h) (by kernel_rfl) ?_ ?_; rotate_left; (intro w'; go_simp; with_reducible rfl)
      refine pv 3 (some 28) (v := ?_) (bits 13 15) HT_ (by kernel_rfl) rfl rfl (fun _ _ _ h => h) (by kernel_rfl) ?_ ?_; rotate_left; (intro w'; go_simp; with_reducible rfl)
      refine pv 4 (some 29) (v := ?_) (bits 13 31) HT_ (by kernel_rfl) rfl rfl (fun _ _ _ h => h) (by kernel_rfl) ?_ ?_; rotate_left; (intro w'; go_simp; with_reducible rfl)
      refine pu (i := 5) (N := some 30) (v := .int .i64 ((i : Int))) (bits 13 63) rfl rfl (any_of HT_.out (by kernel_rfl)) (fun _ _ _ h => h) (by kernel_rfl) ?_ ?_; (intro w'; go_simp; rw [WI.out]; exact (i64_w _).trans IW.out)
      refine pv 6 (some 31) (v := ?_) (bits 13 127) HT_ (by kernel_rfl) rfl rfl (fun _ _ _ h => h) (by kernel_rfl) ?_ ?_; rotate_left; (intro w'; go_simp; with_reducible rfl)
      refine pv 7 (some 32) (v := ?_) (bits 13 255) HT_ (by kernel_rfl) rfl rfl (fun _ _ _ h => h) (by kernel_rfl) ?_ ?_; rotate_left; (intro w'; go_simp; with_reducible rfl)
      refine tv 8 (some 33) (v := ?_) (bits 13 511) HT_ HW_ (by kernel_rfl) rfl rfl (fun _ _ _ h => h) (by kernel_rfl) hHeld ?_ ?_; rotate_left; (intro w' hS; obtain ⟨s0, s1⟩ := hS; obtain ⟨_, hA, q0, q1⟩ := at_T61 s0 (i : Int) (by omega) (by omega); cases hA; rw [Int.toNat_natCast] at q0 q1; rw [hx] at q0 q1; go_simp; with_reducible rfl)
      refine pv 9 (some 34) (v := ?_) (bits 13 1023) HT_ (by kernel_rfl) rfl rfl (fun _ _ _ h => h) (by kernel_rfl) ?_ ?_; rotate_left; (intro w'; go_simp; with_reducible rfl)
      refine tv 10 (some 35) (v := ?_) (bits 13 2047) HT_ HW_ (by kernel_rfl) rfl rfl (fun _ _ _ h => h) (by kernel_rfl) hHeld ?_ ?_; rotate_left; (intro w' hS; obtain ⟨s0, s1⟩ := hS; obtain ⟨q0, q1⟩ := cs2 (Aside0.mk s1); go_simp; with_reducible rfl)
      refine pv 11 (some 36) (v := ?_) (bits 13 4095) HT_ (by kernel_rfl) rfl rfl (fun _ _ _ h => h) (by kernel_rfl) ?_ ?_; rotate_left; (intro w'; go_simp; with_reducible rfl)
      refine pv 12 (some 37) (v := ?_) (bits 13 8191) HT_ (by kernel_rfl) rfl rfl (fun _ _ _ h => h) (by kernel_rfl) ?_ ?_; rotate_left; (intro w'; go_simp; with_reducible rfl)
      refine norm_ (a' := ?_) ?_ ?_
      rotate_left
      ·simp only [Act.put, za, zb, zc, i64_w, i32_w]
       rfl
      refine done_ (done_of HT_.out (by kernel_rfl)) ?_
      try go_wp2
      all_goals first
       | (go_roundg d; (case measure => omega); (case rel => exact ⟨j + 1, congrArg (Value.int .i64) (Int.natCast_succ _).symm, by omega, by omega, B, ⟨andT HS.out (by grind [l1B, ltB])⟩⟩))
       | (go_ret; exact ⟨andF HS.out (by grind [l1B, ltB]), B.out⟩))
    all_goals try go_wp2
    all_goals try (go_ret; exact ⟨andF HS.out (by grind [l1B, ltB]), B.out⟩)
   ·have cj : decide ((j : Int) < (l.length : Int)) = false := decide_eq_false (by omega)
    have hr : r = true := by rw [← H.out]; exact prJ_end hlt
    subst hr
    go_wp2
    go_ret
    exact ⟨rfl, B.out⟩
 ·have cl0 : decide (48 < (l.length : Int)) = true := decide_eq_true (by omega)
  have hr : r = false := by rw [← hr, decide_eq_false hl]; rfl
  subst hr
  go_enter Try.func56, Try.ntmps56
  go_wp2
  go_ret
  exact ⟨rfl, B.out⟩

theorem impl_seqValid.M (n : Int) (w : World) : Calls Try.prog 95 #[.int .i64 n] w fun e w' => e = .returned (.bool (l1B n 1 999)) ∧ Below w.heap.size w w' := by
  go_enter Try.func95, Try.ntmps95
  go_wp2
  all_goals go_ret
  all_goals (refine ⟨?_, Below.refl _ _⟩; unfold l1B; simp_all; try omega)

def impl_SessionsValid.T6 : Bool × List (List Nat × List Nat) := (true, [([], []), ([0], [0]), ([1], [1]), ([2], [2]), ([2], [2]), ([4, 2], [2, 4]), ([3, 5, 2], [2, 3, 5]), ([6, 2], [2, 6]), ([7, 2], [2, 7]), ([2], [2]), ([9, 2], [2, 9]), ([8, 10, 2], [2, 8, 10]), ([2, 11], [2, 11])])
def impl_SessionsValid.B6 : List Nat := [0, 1, 3, 7, 7, 23, 63, 127, 255, 7, 519, 2047, 4095]
theorem impl_SessionsValid.tab6 : rtab .any (opsOf Try.f57 6) = impl_SessionsValid.T6 := by kernel_rfl
theorem impl_SessionsValid.bits6 : waitsOk impl_SessionsValid.T6.2 impl_SessionsValid.B6 = true := by kernel_rfl
theorem impl_SessionsValid.M (A0 : Option Addr) (c0 : Nat) (l : List S100) (w : World) (hr0 : Kd.C k100 w A0 l.length l) : Calls Try.prog 57 #[.slice A0 l.length c0] w fun e w' => e = .returned (.bool (sesB l)) ∧ Below w.heap.size w w' := by
 have hu := Try.underlying100
 have B := Aside0.mk (Below.refl w.heap.size w)
 have HR0 := Aside0.mk hr0
 clear hr0
 obtain ⟨r, hr⟩ : ∃ r, sesB l = r := ⟨_, rfl⟩
 rw [hr]
 unfold sesB at hr
 have H := Aside0.mk (show sesJ l 0 = r from hr)
 have L48 := Aside0.mk (show l.length ≤ 9223372036854775807 from HR0.out.2.1)
 clear hr
 go_enter Try.func57, Try.ntmps57
 go_wp2
 go_loopg [7] (l.length + 1) (fun kx v7 wr => ∃ j : Nat, v7 = .int .i64 (j : Int) ∧ j ≤ l.length ∧ l.length < j + kx ∧ Aside0 (Below w.heap.size w wr) ∧ Aside0 (sesJ l j = r))
 case atStart => exact ⟨0, rfl, by omega, by omega, B, H⟩
 case round =>
  clear H B
  obtain ⟨j, rfl, hj, hk, B, H⟩ := hrel
  by_cases hlt : j < l.length
  ·have HS := Aside0.mk ((sesJ_step hlt).symm.trans H.out)
   clear H
   obtain ⟨d, rfl⟩ : ∃ d, gk = d + 1 := ⟨gk - 1, by omega⟩
   have h48 := L48.out
   have cj : decide ((j : Int) < (l.length : Int)) = true := decide_eq_true (by omega)
   obtain ⟨ad, hA, y0, y1, y2⟩ := at_T100 (cb HR0 B) (j : Int) (by omega) (by omega)
   cases hA
   rw [Int.toNat_natCast] at y0 y1 y2
   have j1 := eq_true (show (j : Int) < (l.length : Int) by omega)
   have j2 := eq_true hlt
   generalize hy : rd_T100 l (j : Int) = y at *
   go_wp2_with (first
    | ((with_reducible refine gate_dst (N := 4) rfl ?_); refine bx ?hg (N := 4) ?hd (cs := #[.int .i64 (0), .int .i64 (0), .int .i64 (0)]) (t := 100) ?hr B ?_; (case hd | hg => rfl); (case hr => go_simp; first | done | rfl); intro g4 w1 hb B F4 L4 E4; obtain ⟨c4_0, c4_1, c4_2⟩ := cs3 F4; clear hb E4)
    | ((with_reducible refine gate_store (t := 100) (p := 4) rfl ?_); obtain ⟨y0, y1, y2, z0, z1, z2⟩ := cz3 F4; refine sx (t := 100) (t' := 100) (p := 4) (v := ?vo2) ?hg ?ho ?hn 0 [.int .i64 (y.f0), .int .i64 (y.f1), .int .i64 (y.f2)] [.int .i64 (y.f0), .int .i64 (y.f1), .int .i64 (y.f2)] ?hr B F4 L4 rfl (Nat.le_of_ble_eq_true rfl) ?_; (case ho | hg | hn => rfl); (case hr => go_simp; first | done | rfl); intro w2 hk B G; replace F4 := G; clear c4_0 c4_1 c4_2; obtain ⟨c4_0, c4_1, c4_2⟩ := cs3 F4; clear hk y0 z0 y1 z1 y2 z2)
    | (go_at_call 95; with_reducible refine cl (impl_seqValid.M y.f1 _) B fun w3 hb B => ?_; replace F4 := bn F4 hb; clear c4_0 c4_1 c4_2; obtain ⟨c4_0, c4_1, c4_2⟩ := cs3 F4; clear hb))
   all_goals try (go_ret; exact ⟨andF HS.out (by grind [l1B]), B.out⟩)
   all_goals (
    refine rg (n := 13) (S := fun W => Kd.C k100 W (some ad) l.length l ∧ W.heap[g4]? = some (.cells #[.int .i64 (y.f0), .int .i64 (y.f1), .int .i64 (y.f2)] 100 (0, 0))) (ds := []) #[false, false, false, false, false, false, false, false, false, false, false, false, false] (by kernel_rfl) rfl rfl ⟨(cb HR0 B), F4.out⟩ id B (fun w4 hb B hHeld => ?_)
    refine with_tabW impl_SessionsValid.tab6 impl_SessionsValid.bits6 (fun HT_ HW_ => ?_)
    replace F4 := bn F4 hb
    clear hb
    refine pv 0 (some 36) (v := ?_) (bits 13 1) HT_ (by kernel_rfl) rfl rfl (fun _ _ _ h => h) (by kernel_rfl) ?_ ?_; rotate_left; (intro w'; go_simp; with_reducible rfl)
    by_cases hz : j = 0
    ·rw [if_pos hz] at HS
     have dz : decide (0 < (j : Int)) = false := decide_eq_false (by omega)
     have dz2 : decide (0 < j) = false := decide_eq_false (by omega)
     clear hz
     refine pv 1 (some 37) (v := ?_) (bits 13 3) HT_ (by kernel_rfl) rfl rfl (fun _ _ _ h => h) (by kernel_rfl) ?_ ?_; rotate_left; (intro w'; go_simp; with_reducible rfl)
     refine pv 2 (some 38) (v := ?_) (bits 13 7) HT_ (by kernel_rfl) rfl rfl (fun _ _ _ h => h) (by kernel_rfl) ?_ ?_; rotate_left; (intro w'; go_simp; with_reducible rfl)
     refine sv 3 (some 39) (bits 13 15) HT_ (by kernel_rfl) rfl rfl (fun _ _ _ h => h) (by kernel_rfl) ?_
     refine sv 4 (some 40) (bits 13 31) HT_ (by kernel_rfl) rfl rfl (fun _ _ _ h => h) (by kernel_rfl) ?_
     refine sv 5 (some 41) (bits 13 63) HT_ (by kernel_rfl) rfl rfl (fun _ _ _ h => h) (by kernel_rfl) ?_
     refine sv 6 (some 42) (bits 13 127) HT_ (by kernel_rfl) rfl rfl (fun _ _ _ h => h) (by kernel_rfl) ?_
     refine sv 7 (some 43) (bits 13 255) HT_ (by kernel_rfl) rfl rfl (fun _ _ _ h => h) (by kernel_rfl) ?_
     refine sv 8 (some 44) (bits 13 511) HT_ (by kernel_rfl) rfl rfl (fun _ _ _ h => h) (by kernel_rfl) ?_
     refine sv 9 (some 45) (bits 13 1023) HT_ (by kernel_rfl) rfl rfl (fun _ _ _ h => h) (by kernel_rfl) ?_
     refine sv 10 (some 46) (bits 13 2047) HT_ (by kernel_rfl) rfl rfl (fun _ _ _ h => h) (by kernel_rfl) ?_
     refine sv 11 (some 47) (bits 13 4095) HT_ (by kernel_rfl) rfl rfl (fun _ _ _ h => h) (by kernel_rfl) ?_
     refine pv 12 (some 48) (v := ?_) (bits 13 8191) HT_ (by kernel_rfl) rfl rfl (fun _ _ _ h => h) (by kernel_rfl) ?_ ?_; rotate_left; (intro w'; go_simp; with_reducible rfl)
     refine norm_ (a' := ?_) ?_ ?_
     rotate_left
     ·simp only [Act.put, za, zb, zc, i64_w, i32_w]
      rfl
     refine done_ (done_of HT_.out (by kernel_rfl)) ?_
     try go_wp2
     all_goals first
      | (go_roundg d; (case measure => omega); (case rel => exact ⟨j + 1, congrArg (Value.int .i64) (Int.natCast_succ _).symm, by omega, by omega, B, ⟨andT HS.out (by grind [l1B])⟩⟩))
      | (go_ret; exact ⟨andF HS.out (by grind [l1B]), B.out⟩)
    ·rw [if_neg hz] at HS
     have dz : decide (0 < (j : Int)) = true := decide_eq_true (by omega)
     have dz2 : decide (0 < j) = true := decide_eq_true (by omega)
     obtain ⟨i, hi⟩ : ∃ i, j - 1 = i := ⟨_, rfl⟩
     rw [hi] at HS
     have WI := Aside0.mk (show (j : Int) - 1 = (i : Int) by omega)
     have hij : i < l.length := by omega
     have IW := Aside0.mk (show wrap64 (i : Int) = (i : Int) by unfold wrap64; omega)
     have i1 := eq_true (show (i : Int) < (l.length : Int) by omega)
     have i2 := eq_true hij
     generalize hx : rd_T100 l (i : Int) = x at HS
     clear hz hi
     refine pv 1 (some 37) (v := ?_) (bits 13 3) HT_ (by kernel_rfl) rfl rfl (fun _ _ _ h => h) (by kernel_rfl) ?_ ?_; rotate_left; (intro w'; go_simp; with_reducible rfl)
     refine pv 2 (some 38) (v := ?_) (bits 13 7) HT_ (by kernel_rfl) rfl rfl (fun _ _ _ h => h) (by kernel_rfl) ?_ ?_; rotate_left; (intro w'; go_simp; with_reducible rfl)
     refine pv 3 (some 39) (v := ?_) (bits 13 15) HT_ (by kernel_rfl) rfl rfl (fun _ _ _ h => h) (by kernel_rfl) ?_ ?_; rotate_left; (intro w'; go_simp; with_reducible rfl)
     refine pv 4 (some 40) (v := ?_) (bits 13 31) HT_ (by kernel_rfl) rfl rfl (fun _ _ _ h => h) (by kernel_rfl) ?_ ?_; rotate_left; (intro w'; go_simp; with_reducible rfl)
     refine pu (i := 5) (N := some 41) (v := .int .i64 ((i : Int))) (bits 13 63) rfl rfl (any_of HT_.out (by kernel_rfl)) (fun _ _ _ h => h) (by kernel_rfl) ?_ ?_; (intro w'; go_simp; rw [WI.out]; exact (i64_w _).trans IW.out)
     refine pv 6 (some 42) (v := ?_) (bits 13 127) HT_ (by kernel_rfl) rfl rfl (fun _ _ _ h => h) (by kernel_rfl) ?_ ?_; rotate_left; (intro w'; go_simp; with_reducible rfl)
     refine pv 7 (some 43) (v := ?_) (bits 13 255) HT_ (by kernel_rfl) rfl rfl (fun _ _ _ h => h) (by kernel_rfl) ?_ ?_; rotate_left; (intro w'; go_simp; with_reducible rfl)
     refine tv 8 (some 44) (v := ?_) (bits 13 511) HT_ HW_ (by kernel_rfl) rfl rfl (fun _ _ _ h => h) (by kernel_rfl) hHeld ?_ ?_; rotate_left; (intro w' hS; obtain ⟨s0, s1⟩ := hS; obtain ⟨_, hA, q0, q1, q2⟩ := at_T100 s0 (i : Int) (by omega) (by omega); cases hA; rw [Int.toNat_natCast] at q0 q1 q2; rw [hx] at q0 q1 q2; go_simp; with_reducible rfl)
     refine pv 9 (some 45) (v := ?_) (bits 13 1023) HT_ (by kernel_rfl) rfl rfl (fun _ _ _ h => h) (by kernel_rfl) ?_ ?_; rotate_left; (intro w'; go_simp; with_reducible rfl)
     refine tv 10 (some 46) (v := ?_) (bits 13 2047) HT_ HW_ (by kernel_rfl) rfl rfl (fun _ _ _ h => h) (by kernel_rfl) hHeld ?_ ?_; rotate_left; (intro w' hS; obtain ⟨s0, s1⟩ := hS; obtain ⟨q0, q1, q2⟩ := cs3 (Aside0.mk s1); go_simp; with_reducible rfl)
     refine pv 11 (some 47) (v := ?_) (bits 13 4095) HT_ (by kernel_rfl) rfl rfl (fun _ _ _ h => h) (by kernel_rfl) ?_ ?_; rotate_left; (intro w'; go_simp; with_reducible rfl)
     refine pv 12 (some 48) (v := ?_) (bits 13 8191) HT_ (by kernel_rfl) rfl rfl (fun _ _ _ h => h) (by kernel_rfl) ?_ ?_; rotate_left; (intro w'; go_simp; with_reducible rfl)
     refine norm_ (a' := ?_) ?_ ?_
     rotate_left
     ·simp only [Act.put, za, zb, zc, i64_w, i32_w]
      rfl
     refine done_ (done_of HT_.out (by kernel_rfl)) ?_
     try go_wp2
     all_goals first
      | (go_roundg d; (case measure => omega); (case rel => exact ⟨j + 1, congrArg (Value.int .i64) (Int.natCast_succ _).symm, by omega, by omega, B, ⟨andT HS.out (by grind [l1B])⟩⟩))
      | (go_ret; exact ⟨andF HS.out (by grind [l1B]), B.out⟩))
   all_goals try go_wp2
   all_goals try (go_ret; exact ⟨andF HS.out (by grind [l1B]), B.out⟩)
  ·have cj : decide ((j : Int) < (l.length : Int)) = false := decide_eq_false (by omega)
   have hr : r = true := by rw [← H.out]; exact sesJ_end hlt
   subst hr
   go_wp2
   go_ret
   exact ⟨rfl, B.out⟩

theorem impl_StateValid.M (a b : ByteArray) (AP : Option Addr) (cP : Nat) (ps : List S61) (AS : Option Addr) (cS : Nat) (ss : List S100) (t : Bool) (c : ByteArray) (w : World) (hrp : Kd.C k61 w AP ps.length ps) (hrs : Kd.C k100 w AS ss.length ss) : Calls Try.prog 14 #[.agg #[.string a, .string b, .slice AP ps.length cP, .slice AS ss.length cS, .bool t, .string c]] w fun e w' => e = .returned (.bool (stB a b ps ss t c)) ∧ Below w.heap.size w w' := by
 have B := Aside0.mk (Below.refl w.heap.size w)
 have hu := Try.underlying34
 have hu2 := Try.underlying30
 have HRP := Aside0.mk hrp
 have HRS := Aside0.mk hrs
 clear hrp hrs
 go_enter Try.func14, Try.ntmps14
 go_wp2_with (first
  | ((with_reducible refine gate_dst (N := 1) rfl ?_); refine bx ?hg (N := 1) ?hd (cs := #[.string a, .string b, .slice AP ps.length cP, .slice AS ss.length cS, .bool t, .string c]) (t := 34) ?hr B ?_; (case hd | hg => rfl); (case hr => go_simp; first | done | rfl); intro g1 w1 hb B F1 L1 E1; obtain ⟨c1_0, c1_1, c1_2, c1_3, c1_4, c1_5⟩ := cs6 F1; clear hb E1)
  | (go_at_call 55; with_reducible refine cl (impl_IntervalValid.M a b _) B fun w2 hb B => ?_; replace F1 := bn F1 hb; clear c1_0 c1_1 c1_2 c1_3 c1_4 c1_5; obtain ⟨c1_0, c1_1, c1_2, c1_3, c1_4, c1_5⟩ := cs6 F1; clear hb)
  | (go_at_call 56; with_reducible refine cl (impl_PairsValid.M _ _ ps _ (cb HRP B)) B fun w3 hb B => ?_; replace F1 := bn F1 hb; clear c1_0 c1_1 c1_2 c1_3 c1_4 c1_5; obtain ⟨c1_0, c1_1, c1_2, c1_3, c1_4, c1_5⟩ := cs6 F1; clear hb)
  | (go_at_call 57; with_reducible refine cl (impl_SessionsValid.M _ _ ss _ (cb HRS B)) B fun w4 hb B => ?_; replace F1 := bn F1 hb; clear c1_0 c1_1 c1_2 c1_3 c1_4 c1_5; obtain ⟨c1_0, c1_1, c1_2, c1_3, c1_4, c1_5⟩ := cs6 F1; clear hb))
 all_goals try (go_ret; exact ⟨congrArg (fun b => Ending.returned (Value.bool b)) (by grind [stB]), B.out⟩)
 have hv : ivB a b = true ∧ prB ps = true ∧ sesB ss = true := by grind
 have hst : stB a b ps ss t c = ((ps.all fun p => insB a b p.f0) && tailB a b t c) := by
  unfold stB
  rw [hv.1, hv.2.1, hv.2.2]
  rfl
 (try simp only [hv.1, hv.2.1, hv.2.2, Bool.not_true])
 obtain ⟨q, hq⟩ : ∃ q, (ps.all fun p => insB a b p.f0) = q := ⟨_, rfl⟩
 rw [hq] at hst
 have H := Aside0.mk (show ((ps.drop 0).all fun p => insB a b p.f0) = q from hq)
 have L48 := Aside0.mk (prB_len hv.2.1)
 clear hq hv c1_0 c1_1 c1_2 c1_3 c1_4 c1_5
 have HST := Aside0.mk hst
 clear hst
 go_loopg [27] (ps.length + 1) (fun kx v27 wr => ∃ j : Nat, v27 = .int .i64 (j : Int) ∧ j ≤ ps.length ∧ ps.length < j + kx ∧ Aside0 (Below w.heap.size w wr) ∧ Aside0 (wr.heap[g1]? = some (.cells #[.string a, .string b, .slice AP ps.length cP, .slice AS ss.length cS, .bool t, .string c] 34 (0, 0))) ∧ Aside0 (((ps.drop j).all fun p => insB a b p.f0) = q))
 case atStart => exact ⟨0, rfl, by omega, by omega, B, F1, H⟩
 case round =>
  clear H B F1
  obtain ⟨j, rfl, hj, hk, B, F1, H⟩ := hrel
  have hst := HST.out
  obtain ⟨c1_0, c1_1, c1_2, c1_3, c1_4, c1_5⟩ := cs6 F1
  by_cases hlt : j < ps.length
  ·have HS := H.out
   rw [pr_drop hlt, List.all_cons] at HS
   clear H
   obtain ⟨d, rfl⟩ : ∃ d, gk = d + 1 := ⟨gk - 1, by omega⟩
   have h48 := L48.out
   have cj : decide ((j : Int) < (ps.length : Int)) = true := decide_eq_true (by omega)
   obtain ⟨ad, hA, y0, y1⟩ := at_T61 (cb HRP B) (j : Int) (by omega) (by omega)
   cases hA
   rw [Int.toNat_natCast] at y0 y1
   have j1 := eq_true (show (j : Int) < (ps.length : Int) by omega)
   have j2 := eq_true hlt
   generalize hy : rd_T61 ps (j : Int) = y at *
   go_wp2_with (first
    | ((with_reducible refine gate_dst (N := 4) rfl ?_); refine bx ?hg (N := 4) ?hd (cs := #[.string (⟨#[]⟩ : ByteArray), .int .i64 (0)]) (t := 61) ?hr B ?_; (case hd | hg => rfl); (case hr => go_simp; first | done | rfl); intro g4 w5 hb B F4 L4 E4; have N1_4 := ne1 E4 F1; replace F1 := bn F1 hb; clear c1_0 c1_1 c1_2 c1_3 c1_4 c1_5; obtain ⟨c1_0, c1_1, c1_2, c1_3, c1_4, c1_5⟩ := cs6 F1; obtain ⟨c4_0, c4_1⟩ := cs2 F4; clear hb E4)
    | ((with_reducible refine gate_store (t := 61) (p := 4) rfl ?_); obtain ⟨y0, y1, z0, z1⟩ := cz2 F4; refine sx (t := 61) (t' := 61) (p := 4) (v := ?vo6) ?hg ?ho ?hn 0 [.string y.f0, .int .i64 (y.f1)] [.string y.f0, .int .i64 (y.f1)] ?hr B F4 L4 rfl (Nat.le_of_ble_eq_true rfl) ?_; (case ho | hg | hn => rfl); (case hr => go_simp; first | done | rfl); intro w6 hk B G; replace F1 := bk F1 hk N1_4.out; replace F4 := G; clear c1_0 c1_1 c1_2 c1_3 c1_4 c1_5; obtain ⟨c1_0, c1_1, c1_2, c1_3, c1_4, c1_5⟩ := cs6 F1; clear c4_0 c4_1; obtain ⟨c4_0, c4_1⟩ := cs2 F4; clear hk y0 z0 y1 z1)
    | (go_at_call 58; with_reducible refine cl (impl_inside.M a b y.f0 _) B fun w7 hb B => ?_; replace F1 := bn F1 hb; clear hb))
   all_goals first
    | (go_roundg d; (case measure => omega); (case rel => exact ⟨j + 1, congrArg (Value.int .i64) (Int.natCast_succ _).symm, by omega, by omega, B, F1, ⟨andT HS (by grind)⟩⟩))
    | (go_ret; exact ⟨congrArg (fun b => Ending.returned (Value.bool b)) (by grind), B.out⟩)
  ·have cj : decide ((j : Int) < (ps.length : Int)) = false := decide_eq_false (by omega)
   have hr : q = true := by rw [← H.out, List.drop_of_length_le (by omega)]; rfl
   clear H
   go_wp2_with (first
    | (go_at_call 59; with_reducible refine cl (impl_IntervalCut.M a b c _) B fun w1 hb B => ?_; replace F1 := bn F1 hb; clear c1_0 c1_1 c1_2 c1_3 c1_4 c1_5; obtain ⟨c1_0, c1_1, c1_2, c1_3, c1_4, c1_5⟩ := cs6 F1; clear hb)
    | ((with_reducible refine gate_dst (N := 5) rfl ?_); refine bx ?hg (N := 5) ?hd (cs := #[.string (⟨#[]⟩ : ByteArray), .string (⟨#[]⟩ : ByteArray)]) (t := 30) ?hr B ?_; (case hd | hg => rfl); (case hr => go_simp; first | done | rfl); intro g5 w2 hb B F5 L5 E5; have N1_5 := ne1 E5 F1; replace F1 := bn F1 hb; clear c1_0 c1_1 c1_2 c1_3 c1_4 c1_5; obtain ⟨c1_0, c1_1, c1_2, c1_3, c1_4, c1_5⟩ := cs6 F1; clear hb E5)
    | ((with_reducible refine gate_dst (N := 6) rfl ?_); refine bx ?hg (N := 6) ?hd (cs := #[.string (⟨#[]⟩ : ByteArray), .string (⟨#[]⟩ : ByteArray)]) (t := 30) ?hr B ?_; (case hd | hg => rfl); (case hr => go_simp; first | done | rfl); intro g6 w3 hb B F6 L6 E6; have N1_6 := ne1 E6 F1; have N5_6 := ne1 E6 F5; replace F1 := bn F1 hb; replace F5 := bn F5 hb; clear c1_0 c1_1 c1_2 c1_3 c1_4 c1_5; obtain ⟨c1_0, c1_1, c1_2, c1_3, c1_4, c1_5⟩ := cs6 F1; clear hb E6)
    | ((with_reducible refine gate_store (t := 30) (p := 5) rfl ?_); obtain ⟨y0, y1, z0, z1⟩ := cz2 F5; refine sx (t := 30) (t' := 30) (p := 5) (v := ?vo4) ?hg ?ho ?hn 0 [.string (cutV a b c).1, .string (cutV a b c).2.1] [.string (cutV a b c).1, .string (cutV a b c).2.1] ?hr B F5 L5 rfl (Nat.le_of_ble_eq_true rfl) ?_; (case ho | hg | hn => rfl); (case hr => go_simp; first | done | rfl); intro w4 hk B G; replace F1 := bk F1 hk N1_5.out; replace F6 := bk F6 hk N5_6.out.symm; replace F5 := G; clear c1_0 c1_1 c1_2 c1_3 c1_4 c1_5; obtain ⟨c1_0, c1_1, c1_2, c1_3, c1_4, c1_5⟩ := cs6 F1; clear hk y0 z0 y1 z1)
    | ((with_reducible refine gate_store (t := 30) (p := 6) rfl ?_); obtain ⟨y0, y1, z0, z1⟩ := cz2 F6; refine sx (t := 30) (t' := 30) (p := 6) (v := ?vo5) ?hg ?ho ?hn 0 [.string (cutV a b c).2.2.1, .string (cutV a b c).2.2.2.1] [.string (cutV a b c).2.2.1, .string (cutV a b c).2.2.2.1] ?hr B F6 L6 rfl (Nat.le_of_ble_eq_true rfl) ?_; (case ho | hg | hn => rfl); (case hr => go_simp; first | done | rfl); intro w5 hk B G; replace F1 := bk F1 hk N1_6.out; replace F6 := G; clear c1_0 c1_1 c1_2 c1_3 c1_4 c1_5; obtain ⟨c1_0, c1_1, c1_2, c1_3, c1_4, c1_5⟩ := cs6 F1; clear hk y0 z0 y1 z1))
   all_goals go_ret
   all_goals
    refine ⟨congrArg (fun b => Ending.returned (Value.bool b)) ?_, B.out⟩
    rw [hst, hr, Bool.true_and]
    unfold tailB
    grind [cutV_ok]

def cmpS (x y : ByteArray) : Int := if ltB x y = true then -1 else if ltB y x = true then 1 else 0
theorem cmp_isNaNs.calls (x : ByteArray) (w : World) : Calls Try.prog 119 #[.string x] w fun e w' => e = .returned (.bool false) ∧ Below w.heap.size w w' := by
  go_enter Try.func119, Try.ntmps119
  go_wp2
  go_ret
  exact ⟨by simp, Below.refl _ _⟩
theorem cmp_Compares.calls (x y : ByteArray) (w : World) : Calls Try.prog 105 #[.string x, .string y] w fun e w' => e = .returned (.int .i64 (cmpS x y)) ∧ Below w.heap.size w w' := by
  unfold cmpS ltB
  cases h1 : Op.bytesLess x.toList y.toList with
  | true =>
    rw [if_pos rfl]
    go_enter Try.func105, Try.ntmps105
    go_wp2_with (first
      | (go_at_call 119; (with_reducible refine (cmp_isNaNs.calls x w).mono ?_); rintro e w1 ⟨rfl, hb⟩; have B1 := Aside0.mk hb; clear hb)
      | (go_at_call 119; (with_reducible refine (cmp_isNaNs.calls y w1).mono ?_); rintro e w2 ⟨rfl, hb⟩; have B2 := Aside0.mk (below_step B1.out hb); clear hb))
    go_ret
    exact ⟨rfl, B2.out⟩
  | false =>
    rw [if_neg (by simp)]
    cases h2 : Op.bytesLess y.toList x.toList with
    | true =>
      rw [if_pos rfl]
      go_enter Try.func105, Try.ntmps105
      go_wp2_with (first
        | (go_at_call 119; (with_reducible refine (cmp_isNaNs.calls x w).mono ?_); rintro e w1 ⟨rfl, hb⟩; have B1 := Aside0.mk hb; clear hb)
        | (go_at_call 119; (with_reducible refine (cmp_isNaNs.calls y w1).mono ?_); rintro e w2 ⟨rfl, hb⟩; have B2 := Aside0.mk (below_step B1.out hb); clear hb))
      go_ret
      exact ⟨rfl, B2.out⟩
    | false =>
      rw [if_neg (by simp)]
      go_enter Try.func105, Try.ntmps105
      go_wp2_with (first
        | (go_at_call 119; (with_reducible refine (cmp_isNaNs.calls x w).mono ?_); rintro e w1 ⟨rfl, hb⟩; have B1 := Aside0.mk hb; clear hb)
        | (go_at_call 119; (with_reducible refine (cmp_isNaNs.calls y w1).mono ?_); rintro e w2 ⟨rfl, hb⟩; have B2 := Aside0.mk (below_step B1.out hb); clear hb))
      go_ret
      exact ⟨rfl, B2.out⟩

theorem impl_pairPlace1.calls (s : S61) (c : ByteArray) (w : World) : Calls Try.prog 104 #[.agg #[.string s.f0, .int .i64 s.f1], .string c] w fun e w' => e = .returned (.int .i64 (cmpS s.f0 c)) ∧ Below w.heap.size w w' := by
  have hu := Try.underlying61
  go_enter Try.func104, Try.ntmps104
  go_wp2_with (first
    | ((with_reducible refine gate_dst (N := 2) rfl ?_); refine box_event ?hg (N := 2) ?hd (cs := #[.string s.f0, .int .i64 s.f1]) (t := 61) ?hr ?_; (case hd => rfl); (case hg => rfl); (case hr => first | (go_simp; done) | (go_simp; rfl)); intro g hg w1 hc hb; have B1 := Aside0.mk hb; have c0 : w1.cell? ⟨g, 0, none⟩ = some (.string s.f0) := (blk_cell hc 0).trans rfl; clear hc hb hg)
    | (go_at_call 105; (with_reducible refine (cmp_Compares.calls s.f0 c w1).mono ?_); rintro e w2 ⟨rfl, hb⟩; have B2 := Aside0.mk (below_step B1.out hb); clear hb))
  go_ret
  exact ⟨rfl, B2.out⟩

theorem cmpS_neg (x c : ByteArray) : decide (cmpS x c < 0) = ltB x c := by
  unfold cmpS
  cases h : ltB x c with
  | true => rfl
  | false => cases ltB c x <;> rfl
theorem cmpS_zero (x c : ByteArray) : (cmpS x c == 0) = decide (x = c) := by
  have ht := less_total x.toList c.toList
  unfold cmpS ltB
  by_cases e : x = c
  · subst e
    have hs : Op.bytesLess x.toList x.toList = false := by simpa using ht
    rw [hs, decide_eq_true rfl]
    rfl
  · rw [decide_eq_false e]
    have hne : (x.toList == c.toList) = false := beq_eq_false_iff_ne.mpr fun q => e (ByteArray.ext (Array.toList_inj.mp (by rw [← Lib.toList_data, ← Lib.toList_data]; exact q)))
    rw [hne, Bool.or_false] at ht
    rw [ht]
    cases Op.bytesLess c.toList x.toList <;> rfl
def hitP (l : List S61) (c : ByteArray) : Bool := decide (placeP l c l.length 0 l.length < l.length) && decide ((rd_T61 l ((placeP l c l.length 0 l.length : Nat) : Int)).f0 = c)

theorem slices_BinarySearchP.calls (A0 : Option Addr) (c0 : Nat) (l : List S61) (c : ByteArray) (w : World) (hr0 : Kd.C k61 w A0 l.length l) (hc0 : l.length ≤ c0) (hsz : l.length < 4611686018427387904) :
    Calls Try.prog 103 #[.slice A0 l.length c0, .string c, .func (.func 104) #[] #[]] w fun e w' =>
      e = .returned (.tuple #[.int .i64 ((placeP l c l.length 0 l.length : Nat) : Int), .bool (hitP l c)]) ∧ Below w.heap.size w w' := by
  have HR0 := Aside0.mk hr0
  clear hr0
  have hu := Try.underlying61
  generalize hR : placeP l c l.length 0 l.length = R
  have HT := Aside0.mk (show hitP l c = (decide (R < l.length) && decide ((rd_T61 l ((R : Nat) : Int)).f0 = c)) by unfold hitP; rw [hR])
  have PR := Aside0.mk hR
  clear hR
  go_enter Try.func103, Try.ntmps103
  go_wp2
  go_loopg [9, 10] l.length (fun kx s9 s10 wr => ∃ lo hi : Nat, s9 = .int .i64 lo ∧ s10 = .int .i64 hi ∧ lo ≤ hi ∧ hi ≤ l.length ∧ hi - lo ≤ kx ∧ Aside0 (Below w.heap.size w wr) ∧ Aside0 (placeP l c kx lo hi = R))
  case atStart => exact ⟨0, l.length, rfl, rfl, Nat.zero_le _, Nat.le_refl _, by omega, ⟨Below.refl _ _⟩, PR⟩
  case round =>
    clear PR
    obtain ⟨lo, hi, rfl, rfl, hlh, hin, hg, BW, PW⟩ := hrel
    by_cases hlt : lo < hi
    · obtain ⟨d, rfl⟩ : ∃ d, gk = d + 1 := ⟨gk - 1, by omega⟩
      have hp := PW.out
      simp only [placeP] at hp
      rw [if_pos hlt] at hp
      obtain ⟨ad, hA, x0, x1⟩ := at_T61 (Kd.C_below HR0.out BW.out) (((lo + hi) / 2 : Nat) : Int) (by omega) (by omega)
      subst hA
      generalize hy : rd_T61 l (((lo + hi) / 2 : Nat) : Int) = y at x0 x1 hp
      rw [Int.toNat_natCast] at x0 x1
      clear hy
      by_cases hyx : ltB y.f0 c = true
      · rw [if_pos hyx] at hp
        have P2 := Aside0.mk hp
        have dc : decide (cmpS y.f0 c < 0) = true := (cmpS_neg _ _).trans hyx
        clear PW hp hyx
        go_wp2_with (go_at_call 104; (with_reducible refine (impl_pairPlace1.calls y c wr).mono ?_); rintro e w1 ⟨rfl, hb⟩; have B1 := Aside0.mk (below_step BW.out hb); clear hb)
        go_roundg d
        case measure => omega
        case rel => exact ⟨(lo + hi) / 2 + 1, hi, by rw [show ((lo : Int) + (hi : Int)) / 2 + 1 = (((lo + hi) / 2 + 1 : Nat) : Int) by omega], rfl, by omega, hin, by omega, B1, P2⟩
      · rw [if_neg hyx] at hp
        have P2 := Aside0.mk hp
        have dc : decide (cmpS y.f0 c < 0) = false := (cmpS_neg _ _).trans (Bool.eq_false_iff.mpr hyx)
        clear PW hp hyx
        go_wp2_with (go_at_call 104; (with_reducible refine (impl_pairPlace1.calls y c wr).mono ?_); rintro e w1 ⟨rfl, hb⟩; have B1 := Aside0.mk (below_step BW.out hb); clear hb)
        go_roundg d
        case measure => omega
        case rel => exact ⟨lo, (lo + hi) / 2, rfl, by rw [show ((lo : Int) + (hi : Int)) / 2 = (((lo + hi) / 2 : Nat) : Int) by omega], by omega, by omega, by omega, B1, P2⟩
    · obtain rfl : R = lo := by
        rw [← PW.out]
        cases gk with
        | zero => rfl
        | succ d => simp only [placeP]; rw [if_neg hlt]
      by_cases hn : R < l.length
      · obtain ⟨ad, hA, x0, x1⟩ := at_T61 (Kd.C_below HR0.out BW.out) (R : Int) (by omega) (by omega)
        subst hA
        generalize hy : rd_T61 l (R : Int) = y at x0 x1 HT
        rw [Int.toNat_natCast] at x0 x1
        clear hy PW
        go_wp2_with (go_at_call 104; (with_reducible refine (impl_pairPlace1.calls y c wr).mono ?_); rintro e w1 ⟨rfl, hb⟩; have B1 := Aside0.mk (below_step BW.out hb); clear hb)
        go_ret2
        refine ⟨?_, B1.out⟩
        rw [HT.out, decide_eq_true hn, ← cmpS_zero]
        rfl
      · clear PW
        go_wp2
        go_ret2
        refine ⟨?_, BW.out⟩
        rw [HT.out, decide_eq_false hn]
        rfl

theorem impl_pairPlace.calls0 (A0 : Option Addr) (c0 : Nat) (l : List S61) (c : ByteArray) (w : World) (hr0 : Kd.C k61 w A0 l.length l) (hc0 : l.length ≤ c0) (hsz : l.length < 4611686018427387904) :
    Calls Try.prog 72 #[.slice A0 l.length c0, .string c] w fun e w' => e = .returned (.tuple #[.int .i64 ((placeP l c l.length 0 l.length : Nat) : Int), .bool (hitP l c)]) ∧ Below w.heap.size w w' := by
  have h := slices_BinarySearchP.calls A0 c0 l c w hr0 hc0 hsz
  go_enter Try.func72, Try.ntmps72
  go_wp2_with (go_at_call 103; (with_reducible refine h.mono ?_); rintro e w1 ⟨rfl, hb⟩; have B1 := Aside0.mk hb; clear hb)
  go_ret2
  exact ⟨rfl, B1.out⟩
theorem impl_pairPlace.M (A0 : Option Addr) (c0 : Nat) (l : List S61) (c : ByteArray) (w : World) (hr0 : Kd.C k61 w A0 l.length l) (hc0 : l.length ≤ c0) (hv : prB l = true) :
    Calls Try.prog 72 #[.slice A0 l.length c0, .string c] w fun e w' => e = .returned (.tuple #[.int .i64 ((atP l c : Nat) : Int), .bool (hitM l c)]) ∧ Below w.heap.size w w' := by
  have h := impl_pairPlace.calls0 A0 c0 l c w hr0 hc0 (by have := prB_len hv; omega)
  unfold hitP at h
  rw [placeP_at hv] at h
  exact h

/-- make([]T, 0, n) -/
theorem make_cap {α : Type} {P : Program} {ops : Array Oper} {Q : Exit → Act → World → Prop} {rest : List Oper} {o : Oper} {a : Act} (d : Kd α) {w0 W : World} (base e : Nat) (hgd : o.guard = none) {N : Tmp} (hd : o.dst = some N) (t : TypeId) (x y : Operand) (ho : o.op = .makeSlice t x y) (n : Nat)
  (hx : a.eval x = .int .i64 0) (hy : a.eval y = .int .i64 (n : Int)) (ht : P.underlying t = some (.slice e)) (z : Value) (bytes : Nat) (hinfo : (P.info? e).map (fun i => (i.zero, i.size, i.bytes)) = some (some z, d.sz, bytes)) (hb0 : 0 < bytes)
  (hl : n * bytes ≤ 281474976710656) (HB : Below base w0 W) (hbase : base ≤ W.heap.size)
  (h : ∀ v1 w1, d.R e w1 base (fun _ => True) v1 [] → Below base w0 w1 → wpList P ops Q rest (a.put o.dst v1) w1) : wpList P ops Q (o :: rest) a W := by
 obtain ⟨i0, hi, hzz⟩ := Option.map_eq_some_iff.1 hinfo
 simp only [Prod.mk.injEq] at hzz
 obtain ⟨hz0, hz1, hz2⟩ := hzz
 have hm : n ≤ 281474976710656 := Nat.le_trans (Nat.le_mul_of_pos_right _ hb0) hl
 have hr := run_make (P := P) W t e i0 z ht hi hz0 .i64 .i64 0 (n : Int) (Int.le_refl _) (by omega)
  (by
   have h3 : ((i0.bytes * n : Nat) : Int) ≤ 281474976710656 := by rw [hz2, Nat.mul_comm]; omega
   rwa [Int.natCast_mul] at h3) (by omega)
 simp only [Int.toNat_zero, Int.toNat_natCast] at hr
 have hown := World.ownsRow_made (base := base) (e := e) (size := i0.size) W (madeCells z.cells (n * i0.size)) n hbase (by unfold maxLen; omega) (size_madeCells _ _)
 rw [hz1] at hown hr
 refine Kd.event_run hgd ?_ (h _ _ ⟨fun _ _ => trivial, [], hown, Reps.none _ _⟩ (HB.alloc hbase _))
 simp [execOp, ho, hx, hy, hr]


/-- sessions as cells of a row that is read are sessions as cells of a row of one's own -/
theorem own_Pair (W : World) (base : Nat) (x : S61) (cs : List Value) (h : k61.K W x cs) : k61.M W base (fun _ => False) x cs := by
 obtain rfl := k61_open h
 exact k61_mkM _ _ _ x

theorem impl_copyOfPair.M (A0 : Option Addr) (c0 : Nat) (l : List S61) (w : World) (hr0 : Kd.C k61 w A0 l.length l) (hc0 : l.length ≤ c0) (hs : l.length ≤ 1000000) :
  Calls Try.prog 73 #[.slice A0 l.length c0] w fun e w' => ∃ v0_ : Value, e = .returned v0_ ∧ Kd.R k61 61 w' w.heap.size (fun _ => True) v0_ l ∧ Below w.heap.size w w' := by
 have HR0 := Aside0.mk hr0
 clear hr0
 go_enter Try.func73, Try.ntmps73
 go_wp2_with ((with_reducible refine gate_builtin (b := .append) (xs := #[.const (.slice none 0 0), .tmp 3]) rfl ?_); at_builtin; refine Kd.R_append_rows k61 (w0 := w) w.heap.size rfl (.const (.slice none 0 0)) (.tmp 3) 31 61 (.agg #[.string (⟨#[]⟩ : ByteArray), .int .i64 0]) 24 rfl Try.underlying31 info61 rfl (by decide) (by omega) (.slice none 0 0) [] l _ _ _ (fun _ => True) (fun _ => False) rfl rfl (Kd.R_nil _ _ _ _ _) HR0.out (fun x cs h => own_Pair _ _ x cs h) (fun _ h => h.elim) (fun _ _ => trivial) (Below.refl _ _) (Nat.le_refl _) (by simp only [List.length_nil]; omega) ?_; intro v1 w1 ho hb hg hat; rw [List.nil_append] at ho; have O := Aside0.mk ho; have B := Aside0.mk hb; clear ho hb hg hat)
 go_ret
 exact ⟨_, rfl, O.out, B.out⟩


theorem impl_PairsIn.M (A0 : Option Addr) (c0 : Nat) (l : List S61) (a b : ByteArray) (w : World) (hr0 : Kd.C k61 w A0 l.length l) (hc0 : l.length ≤ c0) : Calls Try.prog 29 #[.slice A0 l.length c0, .agg #[.string a, .string b]] w fun e w' => ∃ v0, e = .returned v0 ∧ Kd.R k61 61 w' w.heap.size (fun _ => True) v0 (inM l a b) ∧ Below w.heap.size w w' := by
 have B := Aside0.mk (Below.refl w.heap.size w)
 have hu := Try.underlying30
 have HR0 := Aside0.mk hr0
 have HC0 := Aside0.mk hc0
 have L63 := Aside0.mk hr0.2.1
 clear hr0
 obtain ⟨i0, hif, _, hsz0, _⟩ := info_parts info61
 by_cases hvv : (prB l && ivB a b) = true
 ·rw [Bool.and_eq_true] at hvv
  obtain ⟨hv, hi⟩ := hvv
  have h48 := prB_len hv
  have hin := in_slice hv hi
  have hle := at_hi (l := l) hi
  have hhl := hiP_le l b
  have hal := atP_le l a
  have hlen : (inM l a b).length = hiP l b - atP l a := by rw [← hin, List.length_drop, List.length_take, Nat.min_eq_left hhl]
  have hin48 : (inM l a b).length ≤ 1000000 := by omega
  have hcc : (inM l a b).length ≤ c0 - atP l a := by omega
  by_cases hb : b.toList = ([] : List UInt8)
  ·have hh : hiP l b = l.length := if_pos hb
   have hbb : (b.toList == ([] : List UInt8)) = true := by simp [hb]
   have hcut := cut_mid (P := Try.prog) 31 61 .i64 .i64 Try.underlying31 hif 2 hsz0 A0 l.length c0 ((atP l a : Nat) : Int) ((l.length : Int)) (by omega) (by omega) (by omega) hc0
   rw [Int.toNat_natCast, show ((l.length : Int)).toNat - atP l a = (inM l a b).length by omega] at hcut
   generalize hA2 : (if c0 = atP l a then A0 else A0.map (·.add (atP l a * 2))) = A2 at hcut
   have C2 := Aside0.mk (fun {W : World} (h : Kd.C k61 W A0 l.length l) => show Kd.C k61 W A2 (inM l a b).length (inM l a b) from by
    have h1 := Kd.C_take h (m := hiP l b) (by omega)
    have h2 := Kd.C_drop h1 (m := atP l a) (c := c0) (by rw [List.length_take]; omega) (by rw [List.length_take]; omega)
    rw [hin] at h2
    rw [← hA2]
    exact h2)
   clear hA2 hif hsz0 hc0 hin hlen hh

   go_enter Try.func29, Try.ntmps29
   go_wp2_with (first
    | ((with_reducible refine gate_dst (N := 3) rfl ?_); refine bx ?hg (N := 3) ?hd (cs := #[.string a, .string b]) (t := 30) ?hr B ?_; (case hd | hg => rfl); (case hr => go_simp; first | done | rfl); intro g3 w1 hb B F3 L3 E3; obtain ⟨c3_0, c3_1⟩ := cs2 F3; clear hb E3)
    | (go_at_call 56; with_reducible refine cl (impl_PairsValid.M _ _ l _ (cb HR0 B)) B fun w2 hb B => ?_; replace F3 := bn F3 hb; clear c3_0 c3_1; obtain ⟨c3_0, c3_1⟩ := cs2 F3; clear hb)
    | (go_at_call 55; with_reducible refine cl (impl_IntervalValid.M a b _) B fun w3 hb B => ?_; replace F3 := bn F3 hb; clear c3_0 c3_1; obtain ⟨c3_0, c3_1⟩ := cs2 F3; clear hb)
    | (go_at_call 72; with_reducible refine cl (impl_pairPlace.M _ _ l a _ (cb HR0 B) HC0.out hv) B fun w4 hb B => ?_; replace F3 := bn F3 hb; clear c3_0 c3_1; obtain ⟨c3_0, c3_1⟩ := cs2 F3; clear hb)
    | (go_at_call 73; with_reducible refine cr (impl_copyOfPair.M _ _ (inM l a b) _ (C2.out (cb HR0 B)) hcc hin48) B fun AC5 kC5 w5 hb B RC5 QC5 => ?_; replace F3 := bn F3 hb; clear QC5; clear hb))
   go_ret
   exact ⟨_, rfl, RC5.out, B.out⟩
  ·have hh : hiP l b = atP l b := if_neg hb
   have hbb : (b.toList == ([] : List UInt8)) = false := by simp [hb]
   have hcut := cut_mid (P := Try.prog) 31 61 .i64 .i64 Try.underlying31 hif 2 hsz0 A0 l.length c0 ((atP l a : Nat) : Int) (((atP l b : Nat) : Int)) (by omega) (by omega) (by omega) hc0
   rw [Int.toNat_natCast, show (((atP l b : Nat) : Int)).toNat - atP l a = (inM l a b).length by omega] at hcut
   generalize hA2 : (if c0 = atP l a then A0 else A0.map (·.add (atP l a * 2))) = A2 at hcut
   have C2 := Aside0.mk (fun {W : World} (h : Kd.C k61 W A0 l.length l) => show Kd.C k61 W A2 (inM l a b).length (inM l a b) from by
    have h1 := Kd.C_take h (m := hiP l b) (by omega)
    have h2 := Kd.C_drop h1 (m := atP l a) (c := c0) (by rw [List.length_take]; omega) (by rw [List.length_take]; omega)
    rw [hin] at h2
    rw [← hA2]
    exact h2)
   clear hA2 hif hsz0 hc0 hin hlen hh

   go_enter Try.func29, Try.ntmps29
   go_wp2_with (first
    | ((with_reducible refine gate_dst (N := 3) rfl ?_); refine bx ?hg (N := 3) ?hd (cs := #[.string a, .string b]) (t := 30) ?hr B ?_; (case hd | hg => rfl); (case hr => go_simp; first | done | rfl); intro g3 w1 hb B F3 L3 E3; obtain ⟨c3_0, c3_1⟩ := cs2 F3; clear hb E3)
    | (go_at_call 56; with_reducible refine cl (impl_PairsValid.M _ _ l _ (cb HR0 B)) B fun w2 hb B => ?_; replace F3 := bn F3 hb; clear c3_0 c3_1; obtain ⟨c3_0, c3_1⟩ := cs2 F3; clear hb)
    | (go_at_call 55; with_reducible refine cl (impl_IntervalValid.M a b _) B fun w3 hb B => ?_; replace F3 := bn F3 hb; clear c3_0 c3_1; obtain ⟨c3_0, c3_1⟩ := cs2 F3; clear hb)
    | (go_at_call 72; with_reducible refine cl (impl_pairPlace.M _ _ l a _ (cb HR0 B) HC0.out hv) B fun w4 hb B => ?_; replace F3 := bn F3 hb; clear c3_0 c3_1; obtain ⟨c3_0, c3_1⟩ := cs2 F3; clear hb)
    | (go_at_call 72; with_reducible refine cl (impl_pairPlace.M _ _ l b _ (cb HR0 B) HC0.out hv) B fun w5 hb B => ?_; replace F3 := bn F3 hb; clear hb)
    | (go_at_call 73; with_reducible refine cr (impl_copyOfPair.M _ _ (inM l a b) _ (C2.out (cb HR0 B)) hcc hin48) B fun AC6 kC6 w6 hb B RC6 QC6 => ?_; replace F3 := bn F3 hb; clear QC6; clear hb))
   go_ret
   exact ⟨_, rfl, RC6.out, B.out⟩
 ·have hM : inM l a b = [] := if_neg hvv
  rw [hM]
  have hvn : prB l = false ∨ ivB a b = false := by grind
  clear hif hsz0 hc0
  go_enter Try.func29, Try.ntmps29
  go_wp2_with (first
   | ((with_reducible refine gate_dst (N := 3) rfl ?_); refine bx ?hg (N := 3) ?hd (cs := #[.string a, .string b]) (t := 30) ?hr B ?_; (case hd | hg => rfl); (case hr => go_simp; first | done | rfl); intro g3 w1 hb B F3 L3 E3; obtain ⟨c3_0, c3_1⟩ := cs2 F3; clear hb E3)
   | (go_at_call 56; with_reducible refine cl (impl_PairsValid.M _ _ l _ (cb HR0 B)) B fun w2 hb B => ?_; replace F3 := bn F3 hb; clear c3_0 c3_1; obtain ⟨c3_0, c3_1⟩ := cs2 F3; clear hb)
   | (go_at_call 55; with_reducible refine cl (impl_IntervalValid.M a b _) B fun w3 hb B => ?_; replace F3 := bn F3 hb; clear hb))
  all_goals first
   | (go_ret; exact ⟨_, rfl, Kd.R_nil _ _ _ _ _, B.out⟩)
   | (exfalso; grind)

/-- sessions as cells of a row that is read are sessions as cells of a row of one's own -/
theorem own_Session (W : World) (base : Nat) (x : S100) (cs : List Value) (h : k100.K W x cs) : k100.M W base (fun _ => False) x cs := by
 obtain rfl := k100_open h
 exact k100_mkM _ _ _ x

theorem impl_copyOfSession.M (A0 : Option Addr) (c0 : Nat) (l : List S100) (w : World) (hr0 : Kd.C k100 w A0 l.length l) (hc0 : l.length ≤ c0) (hs : l.length ≤ 1000000) :
  Calls Try.prog 107 #[.slice A0 l.length c0] w fun e w' => ∃ v0_ : Value, e = .returned v0_ ∧ Kd.R k100 100 w' w.heap.size (fun _ => True) v0_ l ∧ Below w.heap.size w w' := by
 have HR0 := Aside0.mk hr0
 clear hr0
 go_enter Try.func107, Try.ntmps107
 go_wp2_with ((with_reducible refine gate_builtin (b := .append) (xs := #[.const (.slice none 0 0), .tmp 3]) rfl ?_); at_builtin; refine Kd.R_append_rows k100 (w0 := w) w.heap.size rfl (.const (.slice none 0 0)) (.tmp 3) 32 100 (.agg #[.int .i64 0, .int .i64 0, .int .i64 0]) 24 rfl Try.underlying32 info100 rfl (by decide) (by omega) (.slice none 0 0) [] l _ _ _ (fun _ => True) (fun _ => False) rfl rfl (Kd.R_nil _ _ _ _ _) HR0.out (fun x cs h => own_Session _ _ x cs h) (fun _ h => h.elim) (fun _ _ => trivial) (Below.refl _ _) (Nat.le_refl _) (by simp only [List.length_nil]; omega) ?_; intro v1 w1 ho hb hg hat; rw [List.nil_append] at ho; have O := Aside0.mk ho; have B := Aside0.mk hb; clear ho hb hg hat)
 go_ret
 exact ⟨_, rfl, O.out, B.out⟩


def impl_statePart.T1 : Bool × List (List Nat × List Nat) := (true, [([], []), ([], []), ([1], [1]), ([], []), ([2, 3], [2, 3]), ([], []), ([5], [5]), ([6, 4], [6]), ([0, 4, 7], [0, 4, 7]), ([8, 7, 0, 1, 2, 3, 4, 5, 6, 7, 8], [8])])
def impl_statePart.B1 : List Nat := [0, 0, 2, 0, 14, 0, 32, 126, 255, 511]
theorem impl_statePart.tab1 : rtab .any (opsOf Try.f75 1) = impl_statePart.T1 := by kernel_rfl
theorem impl_statePart.bits1 : waitsOk impl_statePart.T1.2 impl_statePart.B1 = true := by kernel_rfl
theorem impl_statePart.M (a b : ByteArray) (AP : Option Addr) (cP : Nat) (ps : List S61) (AS : Option Addr) (cS : Nat) (ss : List S100) (t : Bool) (c : ByteArray) (d f : ByteArray) (w : World) (hrp : Kd.C k61 w AP ps.length ps) (hrs : Kd.C k100 w AS ss.length ss) (hcp : ps.length ≤ cP) (hcs : ss.length ≤ cS) (hsl : ss.length ≤ 1000000) : Calls Try.prog 75 #[.agg #[.string a, .string b, .slice AP ps.length cP, .slice AS ss.length cS, .bool t, .string c], .agg #[.string d, .string f]] w fun e w' => ∃ v2 v3, e = .returned (.agg #[.string d, .string f, v2, v3, .bool false, .string (⟨#[]⟩ : ByteArray)]) ∧ Kd.R k61 61 w' w.heap.size (fun _ => True) v2 (inM ps d f) ∧ Kd.R k100 100 w' w.heap.size (fun _ => True) v3 ss ∧ Below w.heap.size w w' := by
 have B := Aside0.mk (Below.refl w.heap.size w)
 have hu := Try.underlying34
 have hu2 := Try.underlying30
 have HRP := Aside0.mk hrp
 have HRS := Aside0.mk hrs
 have HCP := Aside0.mk hcp
 have HCS := Aside0.mk hcs
 clear hrp hrs hcp hcs
 go_enter Try.func75, Try.ntmps75
 go_wp2_with (first
  | ((with_reducible refine gate_dst (N := 2) rfl ?_); refine bx ?hg (N := 2) ?hd (cs := #[.string a, .string b, .slice AP ps.length cP, .slice AS ss.length cS, .bool t, .string c]) (t := 34) ?hr B ?_; (case hd | hg => rfl); (case hr => go_simp; first | done | rfl); intro g2 w1 hb B F2 L2 E2; obtain ⟨c2_0, c2_1, c2_2, c2_3, c2_4, c2_5⟩ := cs6 F2; clear hb E2)
  | ((with_reducible refine gate_dst (N := 3) rfl ?_); refine bx ?hg (N := 3) ?hd (cs := #[.string d, .string f]) (t := 30) ?hr B ?_; (case hd | hg => rfl); (case hr => go_simp; first | done | rfl); intro g3 w2 hb B F3 L3 E3; replace F2 := bn F2 hb; clear c2_0 c2_1 c2_2 c2_3 c2_4 c2_5; obtain ⟨c2_0, c2_1, c2_2, c2_3, c2_4, c2_5⟩ := cs6 F2; obtain ⟨c3_0, c3_1⟩ := cs2 F3; clear hb E3)
  | ((with_reducible refine gate_dst (N := 4) rfl ?_); refine bx ?hg (N := 4) ?hd (cs := #[.string (⟨#[]⟩ : ByteArray), .string (⟨#[]⟩ : ByteArray), .slice none 0 0, .slice none 0 0, .bool false, .string (⟨#[]⟩ : ByteArray)]) (t := 34) ?hr B ?_; (case hd | hg => rfl); (case hr => go_simp; first | done | rfl); intro g4 w3 hb B F4 L4 E4; have N2_4 := ne1 E4 F2; have N3_4 := ne1 E4 F3; replace F2 := bn F2 hb; replace F3 := bn F3 hb; clear c2_0 c2_1 c2_2 c2_3 c2_4 c2_5; obtain ⟨c2_0, c2_1, c2_2, c2_3, c2_4, c2_5⟩ := cs6 F2; clear c3_0 c3_1; obtain ⟨c3_0, c3_1⟩ := cs2 F3; clear hb E4))
 all_goals (
  refine rg (n := 10) (S := fun W => W.heap[g3]? = some (.cells #[.string d, .string f] 30 (0, 0)) ∧ W.heap[g2]? = some (.cells #[.string a, .string b, .slice AP ps.length cP, .slice AS ss.length cS, .bool t, .string c] 34 (0, 0))) (ds := []) #[false, false, false, false, false, false, false, false, false, false] (by kernel_rfl) rfl rfl ⟨F3.out, F2.out⟩ id B (fun w4 hb B hHeld => ?_)
  refine with_tabW impl_statePart.tab1 impl_statePart.bits1 (fun HT_ HW_ => ?_)
  replace F2 := bn F2 hb
  replace F3 := bn F3 hb
  replace F4 := bn F4 hb
  clear hb
  refine tv 0 (some 5) (v := ?_) (bits 10 1) HT_ HW_ (by kernel_rfl) rfl rfl (fun _ _ _ h => h) (by kernel_rfl) hHeld ?_ ?_; rotate_left; (intro w' hS; obtain ⟨s0, s1⟩ := hS; obtain ⟨q0, q1⟩ := cs2 (Aside0.mk s0); go_simp; with_reducible rfl)
  refine pv 1 (some 6) (v := ?_) (bits 10 3) HT_ (by kernel_rfl) rfl rfl (fun _ _ _ h => h) (by kernel_rfl) ?_ ?_; rotate_left; (intro w'; go_simp; with_reducible rfl)
  refine tv 2 (some 7) (v := ?_) (bits 10 7) HT_ HW_ (by kernel_rfl) rfl rfl (fun _ _ _ h => h) (by kernel_rfl) hHeld ?_ ?_; rotate_left; (intro w' hS; obtain ⟨s0, s1⟩ := hS; obtain ⟨q0, q1, q2, q3, q4, q5⟩ := cs6 (Aside0.mk s1); go_simp; with_reducible rfl)
  refine tv 3 (some 8) (v := ?_) (bits 10 15) HT_ HW_ (by kernel_rfl) rfl rfl (fun _ _ _ h => h) (by kernel_rfl) hHeld ?_ ?_; rotate_left; (intro w' hS; obtain ⟨s0, s1⟩ := hS; obtain ⟨q0, q1⟩ := cs2 (Aside0.mk s0); go_simp; with_reducible rfl)
  refine pv 5 (some 10) (v := ?_) (bits 10 47) HT_ (by kernel_rfl) rfl rfl (fun _ _ _ h => h) (by kernel_rfl) ?_ ?_; rotate_left; (intro w'; go_simp; with_reducible rfl)
  refine tv 6 (some 11) (v := ?_) (bits 10 111) HT_ HW_ (by kernel_rfl) rfl rfl (fun _ _ _ h => h) (by kernel_rfl) hHeld ?_ ?_; rotate_left; (intro w' hS; obtain ⟨s0, s1⟩ := hS; obtain ⟨q0, q1, q2, q3, q4, q5⟩ := cs6 (Aside0.mk s1); go_simp; with_reducible rfl)
  refine norm_ (a' := ?_) ?_ ?_
  rotate_left
  ·simp only [Act.put, za, zb, zc, i64_w, i32_w]
   rfl
  refine one_ (i := 4) (N := some 9) (bits 10 127) rfl rfl (one_of HT_.out (by kernel_rfl)) (by decide) (fun K hK => ?_)
  refine goes_ Try.func29 (by kernel_rfl) rfl #[.slice AP ps.length cP, .agg #[.string d, .string f]] (by rfl) rfl rfl (by (try simp only [List.map_toArray, List.map_cons, List.map_nil]); rfl) ?_
  with_reducible refine cr (impl_PairsIn.M _ _ ps d f _ (cb HRP B) HCP.out) B fun AI5 kI5 w5 hb B RI5 QI5 => ?_
  replace F2 := bn F2 hb
  replace F3 := bn F3 hb
  replace F4 := bn F4 hb
  clear hb
  refine ⟨_, rfl, ?_⟩
  refine hK.out _ _ ⟨F3.out, F2.out⟩ (fun hHeld => ?_)
  clear hK K
  refine norm_ (a' := ?_) ?_ ?_
  rotate_left
  ·show Act.put _ (some 9) _ = _
   simp only [Act.put, za, zb, zc, i64_w, i32_w]
   rfl
  clear QI5
  refine one_ (i := 7) (N := some 12) (bits 10 255) rfl rfl (one_of HT_.out (by kernel_rfl)) (by decide) (fun K hK => ?_)
  refine goes_ Try.func107 (by kernel_rfl) rfl #[.slice AS ss.length cS] (by rfl) rfl rfl (by (try simp only [List.map_toArray, List.map_cons, List.map_nil]); rfl) ?_
  with_reducible refine cr (impl_copyOfSession.M _ _ ss _ (cb HRS B) HCS.out (by omega)) B fun AC6 kC6 w6 hb B RC6 QC6 => ?_
  replace F2 := bn F2 hb
  replace F3 := bn F3 hb
  replace F4 := bn F4 hb
  replace RI5 := rn RI5 hb
  clear hb
  refine ⟨_, rfl, ?_⟩
  refine hK.out _ _ ⟨F3.out, F2.out⟩ (fun hHeld => ?_)
  clear hK K
  refine norm_ (a' := ?_) ?_ ?_
  rotate_left
  ·show Act.put _ (some 12) _ = _
   simp only [Act.put, za, zb, zc, i64_w, i32_w]
   rfl
  clear QC6
  refine pv 8 (some 13) (v := ?_) (bits 10 511) HT_ (by kernel_rfl) rfl rfl (fun _ _ _ h => h) (by kernel_rfl) ?_ ?_; rotate_left; (intro w'; go_simp; with_reducible rfl)
  refine norm_ (a' := ?_) ?_ ?_
  rotate_left
  ·simp only [Act.put, za, zb, zc, i64_w, i32_w]
   rfl
  refine one_ (i := 9) (N := none) (bits 10 1023) rfl rfl (one_of HT_.out (by kernel_rfl)) (by decide) (fun K hK => ?_)
  obtain ⟨y0, y1, y2, y3, y4, y5, z0, z1, z2, z3, z4, z5⟩ := cz6 F4
  refine sxs (g := g4) 0 [.string d, .string f, .slice AI5 (inM ps d f).length kI5, .slice AC6 ss.length kC6, .bool false, .string (⟨#[]⟩ : ByteArray)] [.string d, .string f, .slice AI5 (inM ps d f).length kI5, .slice AC6 ss.length kC6, .bool false, .string (⟨#[]⟩ : ByteArray)] (by rfl) rfl ?hr B F4 L4 rfl (Nat.le_of_ble_eq_true rfl) (fun w7 hk B G => ?_)
  (case hr => go_simp; first | done | rfl)
  replace F2 := bk F2 hk N2_4.out
  replace F3 := bk F3 hk N3_4.out
  replace RI5 := rk RI5 F4 (by decide) hk
  replace RC6 := rk RC6 F4 (by decide) hk
  replace F4 := G
  clear hk y0 z0 y1 z1 y2 z2 y3 z3 y4 z4 y5 z5
  refine hK.out _ _ ⟨F3.out, F2.out⟩ (fun hHeld => ?_)
  clear hK K
  refine done_ (done_of HT_.out (by kernel_rfl)) ?_)
 all_goals try go_wp2
 refine bodyPost_ret (results_single rfl (.cell g4 34 _ (0, 0) _ rfl F4.out hu rfl (by kernel_rfl) .nil)) rfl ?_
 exact ⟨_, _, rfl, RI5.out, RC6.out, B.out⟩

/-! Calls that give or write several rows. -/
theorem c2r {P : Program} {F : FuncId} {args : Array Value} {w W : World} {Q : Ending → World → Prop} {α β : Type} {d : Kd α} {d' : Kd β} {e e' : Nat} {xs : List α} {ys : List β} {f : Value → Value → Value} (c : Calls P F args W fun r w' => ∃ v1 v2, r = .returned (f v1 v2) ∧ Kd.R d e w' W.heap.size (fun _ => True) v1 xs ∧ Kd.R d' e' w' W.heap.size (fun _ => True) v2 ys ∧ Below W.heap.size W w') (B : Aside0 (Below w.heap.size w W))
    (h : ∀ A kk A' kk' W', Below W.heap.size W W' → Aside0 (Below w.heap.size w W') → Aside0 (Ow d e W' w.heap.size (.slice A xs.length kk) xs) → Aside0 (Fr W (.slice A xs.length kk)) → Aside0 (Ow d' e' W' w.heap.size (.slice A' ys.length kk') ys) → Aside0 (Fr W (.slice A' ys.length kk')) → Q (.returned (f (.slice A xs.length kk) (.slice A' ys.length kk'))) W') : Calls P F args W Q :=
  c.mono (by
    rintro r W' ⟨v1, v2, rfl, ho, ho', hb⟩
    obtain ⟨A, kk, rfl⟩ := Kd.R_slice ho
    obtain ⟨A', kk', rfl⟩ := Kd.R_slice ho'
    exact h A kk A' kk' W' hb ⟨below_step B.out hb⟩ ⟨Kd.R_lower ho (below_size B.out)⟩ ⟨fun k hk => Kd.R_base ho k hk⟩ ⟨Kd.R_lower ho' (below_size B.out)⟩ ⟨fun k hk => Kd.R_base ho' k hk⟩)
theorem c4r {P : Program} {F : FuncId} {args : Array Value} {w W : World} {Q : Ending → World → Prop} {α β : Type} {d : Kd α} {d' : Kd β} {e e' : Nat} {xs xs2 : List α} {ys ys2 : List β} {f : Value → Value → Value → Value → Value} (c : Calls P F args W fun r w' => ∃ v1 v2 v3 v4, r = .returned (f v1 v2 v3 v4) ∧ Kd.R d e w' W.heap.size (fun _ => True) v1 xs ∧ Kd.R d' e' w' W.heap.size (fun _ => True) v2 ys ∧ Kd.R d e w' W.heap.size (fun _ => True) v3 xs2 ∧ Kd.R d' e' w' W.heap.size (fun _ => True) v4 ys2 ∧ (∀ k_, v3.ownBlock = some k_ → v1.ownBlock = some k_ → False) ∧ (∀ k_, v4.ownBlock = some k_ → v2.ownBlock = some k_ → False) ∧ Below W.heap.size W w') (B : Aside0 (Below w.heap.size w W))
    (h : ∀ A kk A' kk' A2 kk2 A3 kk3 W', Below W.heap.size W W' → Aside0 (Below w.heap.size w W') → Aside0 (Ow d e W' w.heap.size (.slice A xs.length kk) xs) → Aside0 (Fr W (.slice A xs.length kk)) → Aside0 (Ow d' e' W' w.heap.size (.slice A' ys.length kk') ys) → Aside0 (Fr W (.slice A' ys.length kk')) →
      Aside0 (Ow d e W' w.heap.size (.slice A2 xs2.length kk2) xs2) → Aside0 (Fr W (.slice A2 xs2.length kk2)) → Aside0 (Ow d' e' W' w.heap.size (.slice A3 ys2.length kk3) ys2) → Aside0 (Fr W (.slice A3 ys2.length kk3)) →
      Aside0 (∀ k_, (Value.slice A2 xs2.length kk2).ownBlock = some k_ → (Value.slice A xs.length kk).ownBlock = some k_ → False) → Aside0 (∀ k_, (Value.slice A3 ys2.length kk3).ownBlock = some k_ → (Value.slice A' ys.length kk').ownBlock = some k_ → False) →
      Q (.returned (f (.slice A xs.length kk) (.slice A' ys.length kk') (.slice A2 xs2.length kk2) (.slice A3 ys2.length kk3))) W') : Calls P F args W Q :=
  c.mono (by
    rintro r W' ⟨v1, v2, v3, v4, rfl, ho, ho', ho2, ho3, d1, d2, hb⟩
    obtain ⟨A, kk, rfl⟩ := Kd.R_slice ho
    obtain ⟨A', kk', rfl⟩ := Kd.R_slice ho'
    obtain ⟨A2, kk2, rfl⟩ := Kd.R_slice ho2
    obtain ⟨A3, kk3, rfl⟩ := Kd.R_slice ho3
    exact h A kk A' kk' A2 kk2 A3 kk3 W' hb ⟨below_step B.out hb⟩ ⟨Kd.R_lower ho (below_size B.out)⟩ ⟨fun k hk => Kd.R_base ho k hk⟩ ⟨Kd.R_lower ho' (below_size B.out)⟩ ⟨fun k hk => Kd.R_base ho' k hk⟩
      ⟨Kd.R_lower ho2 (below_size B.out)⟩ ⟨fun k hk => Kd.R_base ho2 k hk⟩ ⟨Kd.R_lower ho3 (below_size B.out)⟩ ⟨fun k hk => Kd.R_base ho3 k hk⟩ ⟨d1⟩ ⟨d2⟩)
/-- two rows are written -/
theorem cm2 {P : Program} {F : FuncId} {args : Array Value} {w W : World} {Q : Ending → World → Prop} {α β : Type} {d : Kd α} {d' : Kd β} {t t' : Nat} {xs : List α} {ys : List β} {ok ok' S : Nat → Prop} {v v' u : Value} (c : Calls P F args W fun e w' => e = .returned u ∧ d.R t w' w.heap.size ok v xs ∧ d'.R t' w' w.heap.size ok' v' ys ∧ Below w.heap.size w w' ∧ Kept W w' S)
    (h : ∀ W', Kept W W' S → Aside0 (Below w.heap.size w W') → Aside0 (Ow d t W' w.heap.size v xs) → Aside0 (Ow d' t' W' w.heap.size v' ys) → Q (.returned u) W') : Calls P F args W Q :=
  c.mono (by rintro e W' ⟨rfl, hr, hr', hb, hk⟩; exact h W' hk ⟨hb⟩ ⟨Kd.R_mono hr (fun _ _ => trivial)⟩ ⟨Kd.R_mono hr' (fun _ _ => trivial)⟩)
theorem bkp2 {W W' : World} {α β : Type} {d : Kd α} {d' : Kd β} {e e' b b' g t : Nat} {cs : Array Value} {v v' : Value} {xs : List α} {ys : List β} (F : Aside0 (W.heap[g]? = some (.cells cs t (0, 0)))) (hk : Kept W W' fun k => some k = v.ownBlock ∨ some k = v'.ownBlock) (R : Aside0 (Ow d e W b v xs)) (R' : Aside0 (Ow d' e' W b' v' ys)) (ht : e ≠ t) (ht' : e' ≠ t) : Aside0 (W'.heap[g]? = some (.cells cs t (0, 0))) :=
  ⟨blk_kept F.out hk (fun h => h.elim (Kd.R_ne R.out F.out ht) (Kd.R_ne R'.out F.out ht'))⟩
theorem rkp2 {W W' : World} {β : Type} {d' : Kd β} {e' b' : Nat} {v v' v2 : Value} {ys : List β} (R' : Aside0 (Ow d' e' W b' v' ys)) (hE : d'.E = []) (hk : Kept W W' fun k => some k = v.ownBlock ∨ some k = v2.ownBlock) (ne : ∀ k, v'.ownBlock = some k → v.ownBlock = some k → False) (ne2 : ∀ k, v'.ownBlock = some k → v2.ownBlock = some k → False) : Aside0 (Ow d' e' W' b' v' ys) :=
  ⟨Kd.R_mono (Kd.R_kept (Kd.R_tight hE R'.out) hk (fun k h1 h2 => h2.elim (fun h2 => ne k h1.symm h2.symm) (fun h2 => ne2 k h1.symm h2.symm))) (fun _ _ => trivial)⟩

def impl_StateCut.T6 : Bool × List (List Nat × List Nat) := (true, [([], []), ([], []), ([0, 1], [0, 1]), ([], []), ([], []), ([3, 4, 2], [3, 4]), ([2, 5, 0, 1, 2], [2]), ([5, 6, 0, 1, 2, 3, 4, 5, 6], [5]), ([7, 0, 1, 2, 3, 4, 5, 6, 7], [])])
def impl_StateCut.B6 : List Nat := [0, 0, 3, 0, 0, 31, 63, 127, 255]
theorem impl_StateCut.tab6 : rtab .any (opsOf Try.f31 6) = impl_StateCut.T6 := by kernel_rfl
theorem impl_StateCut.bits6 : waitsOk impl_StateCut.T6.2 impl_StateCut.B6 = true := by kernel_rfl
theorem impl_StateCut.Mt (a b : ByteArray) (AP : Option Addr) (cP : Nat) (ps : List S61) (AS : Option Addr) (cS : Nat) (ss : List S100) (c : ByteArray) (w : World) (hrp : Kd.C k61 w AP ps.length ps) (hrs : Kd.C k100 w AS ss.length ss) (hcp : ps.length ≤ cP) (hcs : ss.length ≤ cS) (hs : stB a b ps ss true c = true) (hcut : cutB a b c = true) : Calls Try.prog 31 #[.agg #[.string a, .string b, .slice AP ps.length cP, .slice AS ss.length cS, .bool true, .string c]] w fun e w' => ∃ v2 v3 v4 v5, e = .returned (.tuple #[.agg #[.string (csM ⟨a, b, ps, ss, true, c⟩).1.a, .string (csM ⟨a, b, ps, ss, true, c⟩).1.b, v2, v3, .bool (csM ⟨a, b, ps, ss, true, c⟩).1.t, .string (csM ⟨a, b, ps, ss, true, c⟩).1.c], .agg #[.string (csM ⟨a, b, ps, ss, true, c⟩).2.1.a, .string (csM ⟨a, b, ps, ss, true, c⟩).2.1.b, v4, v5, .bool (csM ⟨a, b, ps, ss, true, c⟩).2.1.t, .string (csM ⟨a, b, ps, ss, true, c⟩).2.1.c], .bool (csM ⟨a, b, ps, ss, true, c⟩).2.2]) ∧ Kd.R k61 61 w' w.heap.size (fun _ => True) v2 (csM ⟨a, b, ps, ss, true, c⟩).1.ps ∧ Kd.R k100 100 w' w.heap.size (fun _ => True) v3 (csM ⟨a, b, ps, ss, true, c⟩).1.ss ∧ Kd.R k61 61 w' w.heap.size (fun _ => True) v4 (csM ⟨a, b, ps, ss, true, c⟩).2.1.ps ∧ Kd.R k100 100 w' w.heap.size (fun _ => True) v5 (csM ⟨a, b, ps, ss, true, c⟩).2.1.ss ∧ (∀ k_, v4.ownBlock = some k_ → v2.ownBlock = some k_ → False) ∧ (∀ k_, v5.ownBlock = some k_ → v3.ownBlock = some k_ → False) ∧ Below w.heap.size w w' := by
 have B := Aside0.mk (Below.refl w.heap.size w)
 have hu := Try.underlying34
 have hu2 := Try.underlying30
 have HRP := Aside0.mk hrp
 have HRS := Aside0.mk hrs
 have HCP := Aside0.mk hcp
 have HCS := Aside0.mk hcs
 clear hrp hrs hcp hcs
 have hsl : ss.length ≤ 1000000 := by
  have := sesB_len (stB_parts.mp hs).2.2.1
  omega
 have hce : (c.toList == ([] : List UInt8)) = false := by have := keyB_ne (cutB_parts hcut).2.1; simp [this]
 rw [show csM ⟨a, b, ps, ss, true, c⟩ = (⟨a, c, inM ps a c, ss, false, ⟨#[]⟩⟩, ⟨c, b, inM ps c b, ss, false, ⟨#[]⟩⟩, true) from if_pos (by unfold cutOk SM.ok; rw [hs, hcut]; rfl)]
 go_enter Try.func31, Try.ntmps31
 go_wp2_with (first
  | ((with_reducible refine gate_dst (N := 1) rfl ?_); refine bx ?hg (N := 1) ?hd (cs := #[.string a, .string b, .slice AP ps.length cP, .slice AS ss.length cS, .bool true, .string c]) (t := 34) ?hr B ?_; (case hd | hg => rfl); (case hr => go_simp; first | done | rfl); intro g1 w1 hb B F1 L1 E1; obtain ⟨c1_0, c1_1, c1_2, c1_3, c1_4, c1_5⟩ := cs6 F1; clear hb E1)
  | ((with_reducible refine gate_dst (N := 2) rfl ?_); refine bx ?hg (N := 2) ?hd (cs := #[.string (⟨#[]⟩ : ByteArray), .string (⟨#[]⟩ : ByteArray), .slice none 0 0, .slice none 0 0, .bool false, .string (⟨#[]⟩ : ByteArray)]) (t := 34) ?hr B ?_; (case hd | hg => rfl); (case hr => go_simp; first | done | rfl); intro g2 w2 hb B F2 L2 E2; have N1_2 := ne1 E2 F1; replace F1 := bn F1 hb; clear c1_0 c1_1 c1_2 c1_3 c1_4 c1_5; obtain ⟨c1_0, c1_1, c1_2, c1_3, c1_4, c1_5⟩ := cs6 F1; clear hb E2)
  | ((with_reducible refine gate_dst (N := 3) rfl ?_); refine bx ?hg (N := 3) ?hd (cs := #[.string (⟨#[]⟩ : ByteArray), .string (⟨#[]⟩ : ByteArray), .slice none 0 0, .slice none 0 0, .bool false, .string (⟨#[]⟩ : ByteArray)]) (t := 34) ?hr B ?_; (case hd | hg => rfl); (case hr => go_simp; first | done | rfl); intro g3 w3 hb B F3 L3 E3; have N1_3 := ne1 E3 F1; have N2_3 := ne1 E3 F2; replace F1 := bn F1 hb; replace F2 := bn F2 hb; clear c1_0 c1_1 c1_2 c1_3 c1_4 c1_5; obtain ⟨c1_0, c1_1, c1_2, c1_3, c1_4, c1_5⟩ := cs6 F1; clear hb E3)
  | (go_at_call 14; with_reducible refine cl (impl_StateValid.M a b _ _ ps _ _ ss true c _ (cb HRP B) (cb HRS B)) B fun w4 hb B => ?_; replace F1 := bn F1 hb; replace F2 := bn F2 hb; replace F3 := bn F3 hb; clear c1_0 c1_1 c1_2 c1_3 c1_4 c1_5; obtain ⟨c1_0, c1_1, c1_2, c1_3, c1_4, c1_5⟩ := cs6 F1; clear hb)
  | (go_at_call 59; with_reducible refine cl (impl_IntervalCut.Mt a b c hcut _) B fun w5 hb B => ?_; replace F1 := bn F1 hb; replace F2 := bn F2 hb; replace F3 := bn F3 hb; clear c1_0 c1_1 c1_2 c1_3 c1_4 c1_5; obtain ⟨c1_0, c1_1, c1_2, c1_3, c1_4, c1_5⟩ := cs6 F1; clear hb)
  | ((with_reducible refine gate_dst (N := 5) rfl ?_); refine bx ?hg (N := 5) ?hd (cs := #[.string (⟨#[]⟩ : ByteArray), .string (⟨#[]⟩ : ByteArray)]) (t := 30) ?hr B ?_; (case hd | hg => rfl); (case hr => go_simp; first | done | rfl); intro g5 w6 hb B F5 L5 E5; have N1_5 := ne1 E5 F1; have N2_5 := ne1 E5 F2; have N3_5 := ne1 E5 F3; replace F1 := bn F1 hb; replace F2 := bn F2 hb; replace F3 := bn F3 hb; clear c1_0 c1_1 c1_2 c1_3 c1_4 c1_5; obtain ⟨c1_0, c1_1, c1_2, c1_3, c1_4, c1_5⟩ := cs6 F1; obtain ⟨c5_0, c5_1⟩ := cs2 F5; clear hb E5)
  | ((with_reducible refine gate_dst (N := 6) rfl ?_); refine bx ?hg (N := 6) ?hd (cs := #[.string (⟨#[]⟩ : ByteArray), .string (⟨#[]⟩ : ByteArray)]) (t := 30) ?hr B ?_; (case hd | hg => rfl); (case hr => go_simp; first | done | rfl); intro g6 w7 hb B F6 L6 E6; have N1_6 := ne1 E6 F1; have N2_6 := ne1 E6 F2; have N3_6 := ne1 E6 F3; have N5_6 := ne1 E6 F5; replace F1 := bn F1 hb; replace F2 := bn F2 hb; replace F3 := bn F3 hb; replace F5 := bn F5 hb; clear c1_0 c1_1 c1_2 c1_3 c1_4 c1_5; obtain ⟨c1_0, c1_1, c1_2, c1_3, c1_4, c1_5⟩ := cs6 F1; clear c5_0 c5_1; obtain ⟨c5_0, c5_1⟩ := cs2 F5; obtain ⟨c6_0, c6_1⟩ := cs2 F6; clear hb E6)
  | ((with_reducible refine gate_store (t := 30) (p := 5) rfl ?_); obtain ⟨y0, y1, z0, z1⟩ := cz2 F5; refine sx (t := 30) (t' := 30) (p := 5) (v := ?vo8) ?hg ?ho ?hn 0 [.string a, .string c] [.string a, .string c] ?hr B F5 L5 rfl (Nat.le_of_ble_eq_true rfl) ?_; (case ho | hg | hn => rfl); (case hr => go_simp; first | done | rfl); intro w8 hk B G; replace F1 := bk F1 hk N1_5.out; replace F2 := bk F2 hk N2_5.out; replace F3 := bk F3 hk N3_5.out; replace F6 := bk F6 hk N5_6.out.symm; replace F5 := G; clear c1_0 c1_1 c1_2 c1_3 c1_4 c1_5; obtain ⟨c1_0, c1_1, c1_2, c1_3, c1_4, c1_5⟩ := cs6 F1; clear c5_0 c5_1; obtain ⟨c5_0, c5_1⟩ := cs2 F5; clear c6_0 c6_1; obtain ⟨c6_0, c6_1⟩ := cs2 F6; clear hk y0 z0 y1 z1)
  | ((with_reducible refine gate_store (t := 30) (p := 6) rfl ?_); obtain ⟨y0, y1, z0, z1⟩ := cz2 F6; refine sx (t := 30) (t' := 30) (p := 6) (v := ?vo9) ?hg ?ho ?hn 0 [.string c, .string b] [.string c, .string b] ?hr B F6 L6 rfl (Nat.le_of_ble_eq_true rfl) ?_; (case ho | hg | hn => rfl); (case hr => go_simp; first | done | rfl); intro w9 hk B G; replace F1 := bk F1 hk N1_6.out; replace F2 := bk F2 hk N2_6.out; replace F3 := bk F3 hk N3_6.out; replace F5 := bk F5 hk N5_6.out; replace F6 := G; clear c1_0 c1_1 c1_2 c1_3 c1_4 c1_5; obtain ⟨c1_0, c1_1, c1_2, c1_3, c1_4, c1_5⟩ := cs6 F1; clear c5_0 c5_1; obtain ⟨c5_0, c5_1⟩ := cs2 F5; clear c6_0 c6_1; obtain ⟨c6_0, c6_1⟩ := cs2 F6; clear hk y0 z0 y1 z1))
 all_goals (
  refine rg (n := 9) (S := fun W => W.heap[g1]? = some (.cells #[.string a, .string b, .slice AP ps.length cP, .slice AS ss.length cS, .bool true, .string c] 34 (0, 0)) ∧ W.heap[g5]? = some (.cells #[.string a, .string c] 30 (0, 0)) ∧ W.heap[g6]? = some (.cells #[.string c, .string b] 30 (0, 0))) (ds := []) #[false, false, false, false, false, false, false, false, false] (by kernel_rfl) rfl rfl ⟨F1.out, F5.out, F6.out⟩ id B (fun w10 hb B hHeld => ?_)
  refine with_tabW impl_StateCut.tab6 impl_StateCut.bits6 (fun HT_ HW_ => ?_)
  replace F1 := bn F1 hb
  replace F2 := bn F2 hb
  replace F3 := bn F3 hb
  replace F5 := bn F5 hb
  replace F6 := bn F6 hb
  clear hb
  refine tv 0 (some 36) (v := ?_) (bits 9 1) HT_ HW_ (by kernel_rfl) rfl rfl (fun _ _ _ h => h) (by kernel_rfl) hHeld ?_ ?_; rotate_left; (intro w' hS; obtain ⟨s0, s1, s2⟩ := hS; obtain ⟨q0, q1, q2, q3, q4, q5⟩ := cs6 (Aside0.mk s0); go_simp; with_reducible rfl)
  refine tv 1 (some 37) (v := ?_) (bits 9 3) HT_ HW_ (by kernel_rfl) rfl rfl (fun _ _ _ h => h) (by kernel_rfl) hHeld ?_ ?_; rotate_left; (intro w' hS; obtain ⟨s0, s1, s2⟩ := hS; obtain ⟨q0, q1⟩ := cs2 (Aside0.mk s1); go_simp; with_reducible rfl)
  refine tv 3 (some 39) (v := ?_) (bits 9 11) HT_ HW_ (by kernel_rfl) rfl rfl (fun _ _ _ h => h) (by kernel_rfl) hHeld ?_ ?_; rotate_left; (intro w' hS; obtain ⟨s0, s1, s2⟩ := hS; obtain ⟨q0, q1, q2, q3, q4, q5⟩ := cs6 (Aside0.mk s0); go_simp; with_reducible rfl)
  refine tv 4 (some 40) (v := ?_) (bits 9 27) HT_ HW_ (by kernel_rfl) rfl rfl (fun _ _ _ h => h) (by kernel_rfl) hHeld ?_ ?_; rotate_left; (intro w' hS; obtain ⟨s0, s1, s2⟩ := hS; obtain ⟨q0, q1⟩ := cs2 (Aside0.mk s2); go_simp; with_reducible rfl)
  refine norm_ (a' := ?_) ?_ ?_
  rotate_left
  ·simp only [Act.put, za, zb, zc, i64_w, i32_w]
   rfl
  refine one_ (i := 2) (N := some 38) (bits 9 31) rfl rfl (one_of HT_.out (by kernel_rfl)) (by decide) (fun K hK => ?_)
  refine goes_ Try.func75 (by kernel_rfl) rfl #[.agg #[.string a, .string b, .slice AP ps.length cP, .slice AS ss.length cS, .bool true, .string c], .agg #[.string a, .string c]] (by rfl) rfl rfl (by (try simp only [List.map_toArray, List.map_cons, List.map_nil]); rfl) ?_
  with_reducible refine c2r (impl_statePart.M a b _ _ ps _ _ ss true c a c _ (cb HRP B) (cb HRS B) HCP.out HCS.out hsl) B fun AP11 kP11 AS11 kS11 w11 hb B RP11 QP11 RS11 QS11 => ?_
  replace F1 := bn F1 hb
  replace F2 := bn F2 hb
  replace F3 := bn F3 hb
  replace F5 := bn F5 hb
  replace F6 := bn F6 hb
  clear hb
  refine ⟨_, rfl, ?_⟩
  refine hK.out _ _ ⟨F1.out, F5.out, F6.out⟩ (fun hHeld => ?_)
  clear hK K
  refine norm_ (a' := ?_) ?_ ?_
  rotate_left
  ·show Act.put _ (some 38) _ = _
   simp only [Act.put, za, zb, zc, i64_w, i32_w]
   rfl
  clear QP11 QS11
  refine one_ (i := 5) (N := some 41) (bits 9 63) rfl rfl (one_of HT_.out (by kernel_rfl)) (by decide) (fun K hK => ?_)
  refine goes_ Try.func75 (by kernel_rfl) rfl #[.agg #[.string a, .string b, .slice AP ps.length cP, .slice AS ss.length cS, .bool true, .string c], .agg #[.string c, .string b]] (by rfl) rfl rfl (by (try simp only [List.map_toArray, List.map_cons, List.map_nil]); rfl) ?_
  with_reducible refine c2r (impl_statePart.M a b _ _ ps _ _ ss true c c b _ (cb HRP B) (cb HRS B) HCP.out HCS.out hsl) B fun AP12 kP12 AS12 kS12 w12 hb B RP12 QP12 RS12 QS12 => ?_
  have DP11_P12 := fr QP12 RP11
  have DS11_P12 := fr QP12 RS11
  have DP11_S12 := fr QS12 RP11
  have DS11_S12 := fr QS12 RS11
  replace F1 := bn F1 hb
  replace F2 := bn F2 hb
  replace F3 := bn F3 hb
  replace F5 := bn F5 hb
  replace F6 := bn F6 hb
  replace RP11 := rn RP11 hb
  replace RS11 := rn RS11 hb
  clear hb
  refine ⟨_, rfl, ?_⟩
  refine hK.out _ _ ⟨F1.out, F5.out, F6.out⟩ (fun hHeld => ?_)
  clear hK K
  refine norm_ (a' := ?_) ?_ ?_
  rotate_left
  ·show Act.put _ (some 41) _ = _
   simp only [Act.put, za, zb, zc, i64_w, i32_w]
   rfl
  clear QP12 QS12
  refine one_ (i := 6) (N := none) (bits 9 127) rfl rfl (one_of HT_.out (by kernel_rfl)) (by decide) (fun K hK => ?_)
  obtain ⟨y0, y1, y2, y3, y4, y5, z0, z1, z2, z3, z4, z5⟩ := cz6 F2
  refine sxs (g := g2) 0 [.string a, .string c, .slice AP11 (inM ps a c).length kP11, .slice AS11 ss.length kS11, .bool false, .string (⟨#[]⟩ : ByteArray)] [.string a, .string c, .slice AP11 (inM ps a c).length kP11, .slice AS11 ss.length kS11, .bool false, .string (⟨#[]⟩ : ByteArray)] (by rfl) rfl ?hr B F2 L2 rfl (Nat.le_of_ble_eq_true rfl) (fun w13 hk B G => ?_)
  (case hr => go_simp; first | done | rfl)
  replace F1 := bk F1 hk N1_2.out
  replace F3 := bk F3 hk N2_3.out.symm
  replace F5 := bk F5 hk N2_5.out.symm
  replace F6 := bk F6 hk N2_6.out.symm
  replace RP11 := rk RP11 F2 (by decide) hk
  replace RS11 := rk RS11 F2 (by decide) hk
  replace RP12 := rk RP12 F2 (by decide) hk
  replace RS12 := rk RS12 F2 (by decide) hk
  replace F2 := G
  clear hk y0 z0 y1 z1 y2 z2 y3 z3 y4 z4 y5 z5
  refine hK.out _ _ ⟨F1.out, F5.out, F6.out⟩ (fun hHeld => ?_)
  clear hK K
  refine one_ (i := 7) (N := none) (bits 9 255) rfl rfl (one_of HT_.out (by kernel_rfl)) (by decide) (fun K hK => ?_)
  obtain ⟨y0, y1, y2, y3, y4, y5, z0, z1, z2, z3, z4, z5⟩ := cz6 F3
  refine sxs (g := g3) 0 [.string c, .string b, .slice AP12 (inM ps c b).length kP12, .slice AS12 ss.length kS12, .bool false, .string (⟨#[]⟩ : ByteArray)] [.string c, .string b, .slice AP12 (inM ps c b).length kP12, .slice AS12 ss.length kS12, .bool false, .string (⟨#[]⟩ : ByteArray)] (by rfl) rfl ?hr B F3 L3 rfl (Nat.le_of_ble_eq_true rfl) (fun w14 hk B G => ?_)
  (case hr => go_simp; first | done | rfl)
  replace F1 := bk F1 hk N1_3.out
  replace F2 := bk F2 hk N2_3.out
  replace F5 := bk F5 hk N3_5.out.symm
  replace F6 := bk F6 hk N3_6.out.symm
  replace RP11 := rk RP11 F3 (by decide) hk
  replace RS11 := rk RS11 F3 (by decide) hk
  replace RP12 := rk RP12 F3 (by decide) hk
  replace RS12 := rk RS12 F3 (by decide) hk
  replace F3 := G
  clear hk y0 z0 y1 z1 y2 z2 y3 z3 y4 z4 y5 z5
  refine hK.out _ _ ⟨F1.out, F5.out, F6.out⟩ (fun hHeld => ?_)
  clear hK K
  refine pv 8 (some 4) (v := ?_) (bits 9 511) HT_ (by kernel_rfl) rfl rfl (fun _ _ _ h => h) (by kernel_rfl) ?_ ?_; rotate_left; (intro w'; go_simp; with_reducible rfl)
  refine norm_ (a' := ?_) ?_ ?_
  rotate_left
  ·simp only [Act.put, za, zb, zc, i64_w, i32_w]
   rfl
  refine done_ (done_of HT_.out (by kernel_rfl)) ?_)
 all_goals try go_wp2
 refine bodyPost_ret (results_list (rs := [.cell 2 34, .cell 3 34, .tmp 4]) rfl (by simp) (.cell g2 34 _ (0, 0) _ rfl F2.out hu rfl (by kernel_rfl) (.cell g3 34 _ (0, 0) _ rfl F3.out hu rfl (by kernel_rfl) (.tmp .nil)))) rfl ?_
 exact ⟨_, _, _, _, rfl, RP11.out, RS11.out, RP12.out, RS12.out, DP11_P12.out, DS11_S12.out, B.out⟩
theorem impl_StateCut.M (a b : ByteArray) (AP : Option Addr) (cP : Nat) (ps : List S61) (AS : Option Addr) (cS : Nat) (ss : List S100) (t : Bool) (c : ByteArray) (w : World) (hrp : Kd.C k61 w AP ps.length ps) (hrs : Kd.C k100 w AS ss.length ss) (hcp : ps.length ≤ cP) (hcs : ss.length ≤ cS) : Calls Try.prog 31 #[.agg #[.string a, .string b, .slice AP ps.length cP, .slice AS ss.length cS, .bool t, .string c]] w fun e w' => ∃ v2 v3 v4 v5, e = .returned (.tuple #[.agg #[.string (csM ⟨a, b, ps, ss, t, c⟩).1.a, .string (csM ⟨a, b, ps, ss, t, c⟩).1.b, v2, v3, .bool (csM ⟨a, b, ps, ss, t, c⟩).1.t, .string (csM ⟨a, b, ps, ss, t, c⟩).1.c], .agg #[.string (csM ⟨a, b, ps, ss, t, c⟩).2.1.a, .string (csM ⟨a, b, ps, ss, t, c⟩).2.1.b, v4, v5, .bool (csM ⟨a, b, ps, ss, t, c⟩).2.1.t, .string (csM ⟨a, b, ps, ss, t, c⟩).2.1.c], .bool (csM ⟨a, b, ps, ss, t, c⟩).2.2]) ∧ Kd.R k61 61 w' w.heap.size (fun _ => True) v2 (csM ⟨a, b, ps, ss, t, c⟩).1.ps ∧ Kd.R k100 100 w' w.heap.size (fun _ => True) v3 (csM ⟨a, b, ps, ss, t, c⟩).1.ss ∧ Kd.R k61 61 w' w.heap.size (fun _ => True) v4 (csM ⟨a, b, ps, ss, t, c⟩).2.1.ps ∧ Kd.R k100 100 w' w.heap.size (fun _ => True) v5 (csM ⟨a, b, ps, ss, t, c⟩).2.1.ss ∧ (∀ k_, v4.ownBlock = some k_ → v2.ownBlock = some k_ → False) ∧ (∀ k_, v5.ownBlock = some k_ → v3.ownBlock = some k_ → False) ∧ Below w.heap.size w w' := by
 have B := Aside0.mk (Below.refl w.heap.size w)
 cases hs : stB a b ps ss t c with
 | false =>
  rw [cs_bad (show cutOk ⟨a, b, ps, ss, t, c⟩ = false by unfold cutOk SM.ok; rw [hs]; rfl)]
  have hu := Try.underlying34
  have hu2 := Try.underlying30
  have HRP := Aside0.mk hrp
  have HRS := Aside0.mk hrs
  have HCP := Aside0.mk hcp
  have HCS := Aside0.mk hcs
  clear hrp hrs hcp hcs
  go_enter Try.func31, Try.ntmps31
  go_wp2_with (first
   | ((with_reducible refine gate_dst (N := 1) rfl ?_); refine bx ?hg (N := 1) ?hd (cs := #[.string a, .string b, .slice AP ps.length cP, .slice AS ss.length cS, .bool t, .string c]) (t := 34) ?hr B ?_; (case hd | hg => rfl); (case hr => go_simp; first | done | rfl); intro g1 w1001 hb B F1 L1 E1; obtain ⟨c1_0, c1_1, c1_2, c1_3, c1_4, c1_5⟩ := cs6 F1; clear hb E1)
   | ((with_reducible refine gate_dst (N := 2) rfl ?_); refine bx ?hg (N := 2) ?hd (cs := #[.string (⟨#[]⟩ : ByteArray), .string (⟨#[]⟩ : ByteArray), .slice none 0 0, .slice none 0 0, .bool false, .string (⟨#[]⟩ : ByteArray)]) (t := 34) ?hr B ?_; (case hd | hg => rfl); (case hr => go_simp; first | done | rfl); intro g2 w1002 hb B F2 L2 E2; have N1_2 := ne1 E2 F1; replace F1 := bn F1 hb; clear c1_0 c1_1 c1_2 c1_3 c1_4 c1_5; obtain ⟨c1_0, c1_1, c1_2, c1_3, c1_4, c1_5⟩ := cs6 F1; clear hb E2)
   | ((with_reducible refine gate_dst (N := 3) rfl ?_); refine bx ?hg (N := 3) ?hd (cs := #[.string (⟨#[]⟩ : ByteArray), .string (⟨#[]⟩ : ByteArray), .slice none 0 0, .slice none 0 0, .bool false, .string (⟨#[]⟩ : ByteArray)]) (t := 34) ?hr B ?_; (case hd | hg => rfl); (case hr => go_simp; first | done | rfl); intro g3 w1003 hb B F3 L3 E3; have N1_3 := ne1 E3 F1; have N2_3 := ne1 E3 F2; replace F1 := bn F1 hb; replace F2 := bn F2 hb; clear c1_0 c1_1 c1_2 c1_3 c1_4 c1_5; obtain ⟨c1_0, c1_1, c1_2, c1_3, c1_4, c1_5⟩ := cs6 F1; clear hb E3)
   | (go_at_call 14; with_reducible refine cl (impl_StateValid.M a b _ _ ps _ _ ss t c _ (cb HRP B) (cb HRS B)) B fun w1004 hb B => ?_; replace F1 := bn F1 hb; replace F2 := bn F2 hb; replace F3 := bn F3 hb; clear c1_0 c1_1 c1_2 c1_3 c1_4 c1_5; obtain ⟨c1_0, c1_1, c1_2, c1_3, c1_4, c1_5⟩ := cs6 F1; clear hb)
   | ((with_reducible refine gate_store (t := 34) (p := 2) rfl ?_); obtain ⟨y0, y1, y2, y3, y4, y5, z0, z1, z2, z3, z4, z5⟩ := cz6 F2; refine sx (t := 34) (t' := 34) (p := 2) (v := ?vo1005) ?hg ?ho ?hn 0 [.string (⟨#[]⟩ : ByteArray), .string (⟨#[]⟩ : ByteArray), .slice none 0 0, .slice none 0 0, .bool false, .string (⟨#[]⟩ : ByteArray)] [.string (⟨#[]⟩ : ByteArray), .string (⟨#[]⟩ : ByteArray), .slice none 0 0, .slice none 0 0, .bool false, .string (⟨#[]⟩ : ByteArray)] ?hr B F2 L2 rfl (Nat.le_of_ble_eq_true rfl) ?_; (case ho | hg | hn => rfl); (case hr => go_simp; first | done | rfl); intro w1005 hk B G; replace F1 := bk F1 hk N1_2.out; replace F3 := bk F3 hk N2_3.out.symm; replace F2 := G; clear hk y0 z0 y1 z1 y2 z2 y3 z3 y4 z4 y5 z5)
   | ((with_reducible refine gate_store (t := 34) (p := 3) rfl ?_); obtain ⟨y0, y1, y2, y3, y4, y5, z0, z1, z2, z3, z4, z5⟩ := cz6 F3; refine sx (t := 34) (t' := 34) (p := 3) (v := ?vo1006) ?hg ?ho ?hn 0 [.string (⟨#[]⟩ : ByteArray), .string (⟨#[]⟩ : ByteArray), .slice none 0 0, .slice none 0 0, .bool false, .string (⟨#[]⟩ : ByteArray)] [.string (⟨#[]⟩ : ByteArray), .string (⟨#[]⟩ : ByteArray), .slice none 0 0, .slice none 0 0, .bool false, .string (⟨#[]⟩ : ByteArray)] ?hr B F3 L3 rfl (Nat.le_of_ble_eq_true rfl) ?_; (case ho | hg | hn => rfl); (case hr => go_simp; first | done | rfl); intro w1006 hk B G; replace F1 := bk F1 hk N1_3.out; replace F2 := bk F2 hk N2_3.out; replace F3 := G; clear hk y0 z0 y1 z1 y2 z2 y3 z3 y4 z4 y5 z5))
  all_goals (refine bodyPost_ret (results_list (rs := [.cell 2 34, .cell 3 34, .tmp 4]) rfl (by simp) (.cell g2 34 _ (0, 0) _ rfl F2.out hu rfl (by kernel_rfl) (.cell g3 34 _ (0, 0) _ rfl F3.out hu rfl (by kernel_rfl) (.tmp .nil)))) rfl ?_; exact ⟨_, _, _, _, rfl, Kd.R_nil _ _ _ _ _, Kd.R_nil _ _ _ _ _, Kd.R_nil _ _ _ _ _, Kd.R_nil _ _ _ _ _, (fun _ h => nomatch h), (fun _ h => nomatch h), B.out⟩)
 | true =>
  cases t with
  | false =>
   rw [cs_bad (show cutOk ⟨a, b, ps, ss, false, c⟩ = false by unfold cutOk SM.ok; rw [hs]; rfl)]
   have hu := Try.underlying34
   have hu2 := Try.underlying30
   have HRP := Aside0.mk hrp
   have HRS := Aside0.mk hrs
   have HCP := Aside0.mk hcp
   have HCS := Aside0.mk hcs
   clear hrp hrs hcp hcs
   go_enter Try.func31, Try.ntmps31
   go_wp2_with (first
    | ((with_reducible refine gate_dst (N := 1) rfl ?_); refine bx ?hg (N := 1) ?hd (cs := #[.string a, .string b, .slice AP ps.length cP, .slice AS ss.length cS, .bool false, .string c]) (t := 34) ?hr B ?_; (case hd | hg => rfl); (case hr => go_simp; first | done | rfl); intro g1 w2001 hb B F1 L1 E1; obtain ⟨c1_0, c1_1, c1_2, c1_3, c1_4, c1_5⟩ := cs6 F1; clear hb E1)
    | ((with_reducible refine gate_dst (N := 2) rfl ?_); refine bx ?hg (N := 2) ?hd (cs := #[.string (⟨#[]⟩ : ByteArray), .string (⟨#[]⟩ : ByteArray), .slice none 0 0, .slice none 0 0, .bool false, .string (⟨#[]⟩ : ByteArray)]) (t := 34) ?hr B ?_; (case hd | hg => rfl); (case hr => go_simp; first | done | rfl); intro g2 w2002 hb B F2 L2 E2; have N1_2 := ne1 E2 F1; replace F1 := bn F1 hb; clear c1_0 c1_1 c1_2 c1_3 c1_4 c1_5; obtain ⟨c1_0, c1_1, c1_2, c1_3, c1_4, c1_5⟩ := cs6 F1; clear hb E2)
    | ((with_reducible refine gate_dst (N := 3) rfl ?_); refine bx ?hg (N := 3) ?hd (cs := #[.string (⟨#[]⟩ : ByteArray), .string (⟨#[]⟩ : ByteArray), .slice none 0 0, .slice none 0 0, .bool false, .string (⟨#[]⟩ : ByteArray)]) (t := 34) ?hr B ?_; (case hd | hg => rfl); (case hr => go_simp; first | done | rfl); intro g3 w2003 hb B F3 L3 E3; have N1_3 := ne1 E3 F1; have N2_3 := ne1 E3 F2; replace F1 := bn F1 hb; replace F2 := bn F2 hb; clear c1_0 c1_1 c1_2 c1_3 c1_4 c1_5; obtain ⟨c1_0, c1_1, c1_2, c1_3, c1_4, c1_5⟩ := cs6 F1; clear hb E3)
    | (go_at_call 14; with_reducible refine cl (impl_StateValid.M a b _ _ ps _ _ ss false c _ (cb HRP B) (cb HRS B)) B fun w2004 hb B => ?_; replace F1 := bn F1 hb; replace F2 := bn F2 hb; replace F3 := bn F3 hb; clear c1_0 c1_1 c1_2 c1_3 c1_4 c1_5; obtain ⟨c1_0, c1_1, c1_2, c1_3, c1_4, c1_5⟩ := cs6 F1; clear hb)
    | ((with_reducible refine gate_store (t := 34) (p := 2) rfl ?_); obtain ⟨y0, y1, y2, y3, y4, y5, z0, z1, z2, z3, z4, z5⟩ := cz6 F2; refine sx (t := 34) (t' := 34) (p := 2) (v := ?vo2005) ?hg ?ho ?hn 0 [.string (⟨#[]⟩ : ByteArray), .string (⟨#[]⟩ : ByteArray), .slice none 0 0, .slice none 0 0, .bool false, .string (⟨#[]⟩ : ByteArray)] [.string (⟨#[]⟩ : ByteArray), .string (⟨#[]⟩ : ByteArray), .slice none 0 0, .slice none 0 0, .bool false, .string (⟨#[]⟩ : ByteArray)] ?hr B F2 L2 rfl (Nat.le_of_ble_eq_true rfl) ?_; (case ho | hg | hn => rfl); (case hr => go_simp; first | done | rfl); intro w2005 hk B G; replace F1 := bk F1 hk N1_2.out; replace F3 := bk F3 hk N2_3.out.symm; replace F2 := G; clear hk y0 z0 y1 z1 y2 z2 y3 z3 y4 z4 y5 z5)
    | ((with_reducible refine gate_store (t := 34) (p := 3) rfl ?_); obtain ⟨y0, y1, y2, y3, y4, y5, z0, z1, z2, z3, z4, z5⟩ := cz6 F3; refine sx (t := 34) (t' := 34) (p := 3) (v := ?vo2006) ?hg ?ho ?hn 0 [.string (⟨#[]⟩ : ByteArray), .string (⟨#[]⟩ : ByteArray), .slice none 0 0, .slice none 0 0, .bool false, .string (⟨#[]⟩ : ByteArray)] [.string (⟨#[]⟩ : ByteArray), .string (⟨#[]⟩ : ByteArray), .slice none 0 0, .slice none 0 0, .bool false, .string (⟨#[]⟩ : ByteArray)] ?hr B F3 L3 rfl (Nat.le_of_ble_eq_true rfl) ?_; (case ho | hg | hn => rfl); (case hr => go_simp; first | done | rfl); intro w2006 hk B G; replace F1 := bk F1 hk N1_3.out; replace F2 := bk F2 hk N2_3.out; replace F3 := G; clear hk y0 z0 y1 z1 y2 z2 y3 z3 y4 z4 y5 z5))
   all_goals (refine bodyPost_ret (results_list (rs := [.cell 2 34, .cell 3 34, .tmp 4]) rfl (by simp) (.cell g2 34 _ (0, 0) _ rfl F2.out hu rfl (by kernel_rfl) (.cell g3 34 _ (0, 0) _ rfl F3.out hu rfl (by kernel_rfl) (.tmp .nil)))) rfl ?_; exact ⟨_, _, _, _, rfl, Kd.R_nil _ _ _ _ _, Kd.R_nil _ _ _ _ _, Kd.R_nil _ _ _ _ _, Kd.R_nil _ _ _ _ _, (fun _ h => nomatch h), (fun _ h => nomatch h), B.out⟩)
  | true =>
   cases hcut : cutB a b c with
   | true => exact impl_StateCut.Mt a b AP cP ps AS cS ss c w hrp hrs hcp hcs hs hcut
   | false =>
    rw [cs_bad (show cutOk ⟨a, b, ps, ss, true, c⟩ = false by unfold cutOk SM.ok; rw [hs, hcut]; rfl)]
    have hu := Try.underlying34
    have hu2 := Try.underlying30
    have HRP := Aside0.mk hrp
    have HRS := Aside0.mk hrs
    have HCP := Aside0.mk hcp
    have HCS := Aside0.mk hcs
    clear hrp hrs hcp hcs
    go_enter Try.func31, Try.ntmps31
    go_wp2_with (first
     | ((with_reducible refine gate_dst (N := 1) rfl ?_); refine bx ?hg (N := 1) ?hd (cs := #[.string a, .string b, .slice AP ps.length cP, .slice AS ss.length cS, .bool true, .string c]) (t := 34) ?hr B ?_; (case hd | hg => rfl); (case hr => go_simp; first | done | rfl); intro g1 w3001 hb B F1 L1 E1; obtain ⟨c1_0, c1_1, c1_2, c1_3, c1_4, c1_5⟩ := cs6 F1; clear hb E1)
     | ((with_reducible refine gate_dst (N := 2) rfl ?_); refine bx ?hg (N := 2) ?hd (cs := #[.string (⟨#[]⟩ : ByteArray), .string (⟨#[]⟩ : ByteArray), .slice none 0 0, .slice none 0 0, .bool false, .string (⟨#[]⟩ : ByteArray)]) (t := 34) ?hr B ?_; (case hd | hg => rfl); (case hr => go_simp; first | done | rfl); intro g2 w3002 hb B F2 L2 E2; have N1_2 := ne1 E2 F1; replace F1 := bn F1 hb; clear c1_0 c1_1 c1_2 c1_3 c1_4 c1_5; obtain ⟨c1_0, c1_1, c1_2, c1_3, c1_4, c1_5⟩ := cs6 F1; clear hb E2)
     | ((with_reducible refine gate_dst (N := 3) rfl ?_); refine bx ?hg (N := 3) ?hd (cs := #[.string (⟨#[]⟩ : ByteArray), .string (⟨#[]⟩ : ByteArray), .slice none 0 0, .slice none 0 0, .bool false, .string (⟨#[]⟩ : ByteArray)]) (t := 34) ?hr B ?_; (case hd | hg => rfl); (case hr => go_simp; first | done | rfl); intro g3 w3003 hb B F3 L3 E3; have N1_3 := ne1 E3 F1; have N2_3 := ne1 E3 F2; replace F1 := bn F1 hb; replace F2 := bn F2 hb; clear c1_0 c1_1 c1_2 c1_3 c1_4 c1_5; obtain ⟨c1_0, c1_1, c1_2, c1_3, c1_4, c1_5⟩ := cs6 F1; clear hb E3)
     | (go_at_call 14; with_reducible refine cl (impl_StateValid.M a b _ _ ps _ _ ss true c _ (cb HRP B) (cb HRS B)) B fun w3004 hb B => ?_; replace F1 := bn F1 hb; replace F2 := bn F2 hb; replace F3 := bn F3 hb; clear c1_0 c1_1 c1_2 c1_3 c1_4 c1_5; obtain ⟨c1_0, c1_1, c1_2, c1_3, c1_4, c1_5⟩ := cs6 F1; clear hb)
     | ((with_reducible refine gate_store (t := 34) (p := 2) rfl ?_); obtain ⟨y0, y1, y2, y3, y4, y5, z0, z1, z2, z3, z4, z5⟩ := cz6 F2; refine sx (t := 34) (t' := 34) (p := 2) (v := ?vo3005) ?hg ?ho ?hn 0 [.string (⟨#[]⟩ : ByteArray), .string (⟨#[]⟩ : ByteArray), .slice none 0 0, .slice none 0 0, .bool false, .string (⟨#[]⟩ : ByteArray)] [.string (⟨#[]⟩ : ByteArray), .string (⟨#[]⟩ : ByteArray), .slice none 0 0, .slice none 0 0, .bool false, .string (⟨#[]⟩ : ByteArray)] ?hr B F2 L2 rfl (Nat.le_of_ble_eq_true rfl) ?_; (case ho | hg | hn => rfl); (case hr => go_simp; first | done | rfl); intro w3005 hk B G; replace F1 := bk F1 hk N1_2.out; replace F3 := bk F3 hk N2_3.out.symm; replace F2 := G; clear c1_0 c1_1 c1_2 c1_3 c1_4 c1_5; obtain ⟨c1_0, c1_1, c1_2, c1_3, c1_4, c1_5⟩ := cs6 F1; clear hk y0 z0 y1 z1 y2 z2 y3 z3 y4 z4 y5 z5)
     | ((with_reducible refine gate_store (t := 34) (p := 3) rfl ?_); obtain ⟨y0, y1, y2, y3, y4, y5, z0, z1, z2, z3, z4, z5⟩ := cz6 F3; refine sx (t := 34) (t' := 34) (p := 3) (v := ?vo3006) ?hg ?ho ?hn 0 [.string (⟨#[]⟩ : ByteArray), .string (⟨#[]⟩ : ByteArray), .slice none 0 0, .slice none 0 0, .bool false, .string (⟨#[]⟩ : ByteArray)] [.string (⟨#[]⟩ : ByteArray), .string (⟨#[]⟩ : ByteArray), .slice none 0 0, .slice none 0 0, .bool false, .string (⟨#[]⟩ : ByteArray)] ?hr B F3 L3 rfl (Nat.le_of_ble_eq_true rfl) ?_; (case ho | hg | hn => rfl); (case hr => go_simp; first | done | rfl); intro w3006 hk B G; replace F1 := bk F1 hk N1_3.out; replace F2 := bk F2 hk N2_3.out; replace F3 := G; clear c1_0 c1_1 c1_2 c1_3 c1_4 c1_5; obtain ⟨c1_0, c1_1, c1_2, c1_3, c1_4, c1_5⟩ := cs6 F1; clear hk y0 z0 y1 z1 y2 z2 y3 z3 y4 z4 y5 z5)
     | (go_at_call 59; with_reducible refine cl (impl_IntervalCut.Mf a b c hcut _) B fun w3007 hb B => ?_; replace F1 := bn F1 hb; replace F2 := bn F2 hb; replace F3 := bn F3 hb; clear hb)
     | ((with_reducible refine gate_dst (N := 5) rfl ?_); refine bx ?hg (N := 5) ?hd (cs := #[.string (⟨#[]⟩ : ByteArray), .string (⟨#[]⟩ : ByteArray)]) (t := 30) ?hr B ?_; (case hd | hg => rfl); (case hr => go_simp; first | done | rfl); intro g5 w3008 hb B F5 L5 E5; have N1_5 := ne1 E5 F1; have N2_5 := ne1 E5 F2; have N3_5 := ne1 E5 F3; replace F1 := bn F1 hb; replace F2 := bn F2 hb; replace F3 := bn F3 hb; clear hb E5)
     | ((with_reducible refine gate_dst (N := 6) rfl ?_); refine bx ?hg (N := 6) ?hd (cs := #[.string (⟨#[]⟩ : ByteArray), .string (⟨#[]⟩ : ByteArray)]) (t := 30) ?hr B ?_; (case hd | hg => rfl); (case hr => go_simp; first | done | rfl); intro g6 w3009 hb B F6 L6 E6; have N1_6 := ne1 E6 F1; have N2_6 := ne1 E6 F2; have N3_6 := ne1 E6 F3; have N5_6 := ne1 E6 F5; replace F1 := bn F1 hb; replace F2 := bn F2 hb; replace F3 := bn F3 hb; replace F5 := bn F5 hb; clear hb E6)
     | ((with_reducible refine gate_store (t := 30) (p := 5) rfl ?_); obtain ⟨y0, y1, z0, z1⟩ := cz2 F5; refine sx (t := 30) (t' := 30) (p := 5) (v := ?vo3010) ?hg ?ho ?hn 0 [.string (⟨#[]⟩ : ByteArray), .string (⟨#[]⟩ : ByteArray)] [.string (⟨#[]⟩ : ByteArray), .string (⟨#[]⟩ : ByteArray)] ?hr B F5 L5 rfl (Nat.le_of_ble_eq_true rfl) ?_; (case ho | hg | hn => rfl); (case hr => go_simp; first | done | rfl); intro w3010 hk B G; replace F1 := bk F1 hk N1_5.out; replace F2 := bk F2 hk N2_5.out; replace F3 := bk F3 hk N3_5.out; replace F6 := bk F6 hk N5_6.out.symm; replace F5 := G; clear hk y0 z0 y1 z1)
     | ((with_reducible refine gate_store (t := 30) (p := 6) rfl ?_); obtain ⟨y0, y1, z0, z1⟩ := cz2 F6; refine sx (t := 30) (t' := 30) (p := 6) (v := ?vo3011) ?hg ?ho ?hn 0 [.string (⟨#[]⟩ : ByteArray), .string (⟨#[]⟩ : ByteArray)] [.string (⟨#[]⟩ : ByteArray), .string (⟨#[]⟩ : ByteArray)] ?hr B F6 L6 rfl (Nat.le_of_ble_eq_true rfl) ?_; (case ho | hg | hn => rfl); (case hr => go_simp; first | done | rfl); intro w3011 hk B G; replace F1 := bk F1 hk N1_6.out; replace F2 := bk F2 hk N2_6.out; replace F3 := bk F3 hk N3_6.out; replace F6 := G; clear hk y0 z0 y1 z1)
     | ((with_reducible refine gate_store (t := 34) (p := 2) rfl ?_); obtain ⟨y0, y1, y2, y3, y4, y5, z0, z1, z2, z3, z4, z5⟩ := cz6 F2; refine sx (t := 34) (t' := 34) (p := 2) (v := ?vo3012) ?hg ?ho ?hn 0 [.string (⟨#[]⟩ : ByteArray), .string (⟨#[]⟩ : ByteArray), .slice none 0 0, .slice none 0 0, .bool false, .string (⟨#[]⟩ : ByteArray)] [.string (⟨#[]⟩ : ByteArray), .string (⟨#[]⟩ : ByteArray), .slice none 0 0, .slice none 0 0, .bool false, .string (⟨#[]⟩ : ByteArray)] ?hr B F2 L2 rfl (Nat.le_of_ble_eq_true rfl) ?_; (case ho | hg | hn => rfl); (case hr => go_simp; first | done | rfl); intro w3012 hk B G; replace F1 := bk F1 hk N1_2.out; replace F3 := bk F3 hk N2_3.out.symm; replace F2 := G; clear hk y0 z0 y1 z1 y2 z2 y3 z3 y4 z4 y5 z5)
     | ((with_reducible refine gate_store (t := 34) (p := 3) rfl ?_); obtain ⟨y0, y1, y2, y3, y4, y5, z0, z1, z2, z3, z4, z5⟩ := cz6 F3; refine sx (t := 34) (t' := 34) (p := 3) (v := ?vo3013) ?hg ?ho ?hn 0 [.string (⟨#[]⟩ : ByteArray), .string (⟨#[]⟩ : ByteArray), .slice none 0 0, .slice none 0 0, .bool false, .string (⟨#[]⟩ : ByteArray)] [.string (⟨#[]⟩ : ByteArray), .string (⟨#[]⟩ : ByteArray), .slice none 0 0, .slice none 0 0, .bool false, .string (⟨#[]⟩ : ByteArray)] ?hr B F3 L3 rfl (Nat.le_of_ble_eq_true rfl) ?_; (case ho | hg | hn => rfl); (case hr => go_simp; first | done | rfl); intro w3013 hk B G; replace F1 := bk F1 hk N1_3.out; replace F2 := bk F2 hk N2_3.out; replace F3 := G; clear hk y0 z0 y1 z1 y2 z2 y3 z3 y4 z4 y5 z5))
    all_goals (refine bodyPost_ret (results_list (rs := [.cell 2 34, .cell 3 34, .tmp 4]) rfl (by simp) (.cell g2 34 _ (0, 0) _ rfl F2.out hu rfl (by kernel_rfl) (.cell g3 34 _ (0, 0) _ rfl F3.out hu rfl (by kernel_rfl) (.tmp .nil)))) rfl ?_; exact ⟨_, _, _, _, rfl, Kd.R_nil _ _ _ _ _, Kd.R_nil _ _ _ _ _, Kd.R_nil _ _ _ _ _, Kd.R_nil _ _ _ _ _, (fun _ h => nomatch h), (fun _ h => nomatch h), B.out⟩)
theorem impl_StateCut.Mr (a b : ByteArray) (AP : Option Addr) (cP : Nat) (ps : List S61) (AS : Option Addr) (cS : Nat) (ss : List S100) (t : Bool) (c : ByteArray) (xa xb : ByteArray) (xp : List S61) (xs : List S100) (xt : Bool) (xc ya yb : ByteArray) (yp : List S61) (ys : List S100) (yt : Bool) (yc : ByteArray) (ok : Bool) (hm : csM ⟨a, b, ps, ss, t, c⟩ = (⟨xa, xb, xp, xs, xt, xc⟩, ⟨ya, yb, yp, ys, yt, yc⟩, ok)) (w : World) (hrp : Kd.C k61 w AP ps.length ps) (hrs : Kd.C k100 w AS ss.length ss) (hcp : ps.length ≤ cP) (hcs : ss.length ≤ cS) : Calls Try.prog 31 #[.agg #[.string a, .string b, .slice AP ps.length cP, .slice AS ss.length cS, .bool t, .string c]] w fun e w' => ∃ v2 v3 v4 v5, e = .returned (.tuple #[.agg #[.string xa, .string xb, v2, v3, .bool xt, .string xc], .agg #[.string ya, .string yb, v4, v5, .bool yt, .string yc], .bool ok]) ∧ Kd.R k61 61 w' w.heap.size (fun _ => True) v2 xp ∧ Kd.R k100 100 w' w.heap.size (fun _ => True) v3 xs ∧ Kd.R k61 61 w' w.heap.size (fun _ => True) v4 yp ∧ Kd.R k100 100 w' w.heap.size (fun _ => True) v5 ys ∧ (∀ k_, v4.ownBlock = some k_ → v2.ownBlock = some k_ → False) ∧ (∀ k_, v5.ownBlock = some k_ → v3.ownBlock = some k_ → False) ∧ Below w.heap.size w w' := by
 have h := impl_StateCut.M a b AP cP ps AS cS ss t c w hrp hrs hcp hcs
 rw [hm] at h
 exact h

theorem sameP_loop (xs : List S61) (hn : xs.length ≤ 2097152) (d : Nat) : ∀ (j : Nat), j + d = xs.length → ∀ k, d + 1 ≤ k → laws_samePairs.l0 k xs xs (j : Int) = some true := by
 induction d with
 | zero =>
  intro j hj k hk
  obtain ⟨k, rfl⟩ : ∃ i, k = i + 1 := ⟨k - 1, by omega⟩
  simp only [laws_samePairs.l0]
  rw [if_neg (by omega)]
 | succ d ih =>
  intro j hj k hk
  obtain ⟨k, rfl⟩ : ∃ i, k = i + 1 := ⟨k - 1, by omega⟩
  have e := ih (j + 1) (by omega) k (by omega)
  simp only [laws_samePairs.l0]
  rw [if_pos (by omega), if_pos (by omega), if_pos (by omega), if_neg (by simp), w64 (by omega) (by omega)]
  simpa using e
theorem laws_samePairs.M (A0 : Option Addr) (c0 : Nat) (A1 : Option Addr) (c1 : Nat) (l m : List S61) (he : l = m) (W : World) (h0 : Kd.C k61 W A0 l.length l) (hc0 : l.length ≤ c0) (h1 : Kd.C k61 W A1 m.length m) (hc1 : m.length ≤ c1) (hn : m.length ≤ 2097152) :
  Calls Try.prog 28 #[.slice A0 l.length c0, .slice A1 m.length c1] W fun e w' => e = .returned (.bool true) ∧ Below W.heap.size W w' := by
 subst he
 refine (laws_samePairs.calls (l.length + 21) A0 c0 l A1 c1 l true W h0 hc0 h1 hc1 ?_).mono (fun _ _ h => ⟨h.1, h.2.below⟩)
 unfold laws_samePairs.f
 rw [if_pos rfl]
 simpa using sameP_loop l hn l.length 0 (by omega) (l.length + 21) (by omega)
theorem sameS_loop (xs : List S100) (hn : xs.length ≤ 2097152) (d : Nat) : ∀ (j : Nat), j + d = xs.length → ∀ k, d + 1 ≤ k → laws_sameSessions.l0 k xs xs (j : Int) = some true := by
 induction d with
 | zero =>
  intro j hj k hk
  obtain ⟨k, rfl⟩ : ∃ i, k = i + 1 := ⟨k - 1, by omega⟩
  simp only [laws_sameSessions.l0]
  rw [if_neg (by omega)]
 | succ d ih =>
  intro j hj k hk
  obtain ⟨k, rfl⟩ : ∃ i, k = i + 1 := ⟨k - 1, by omega⟩
  have e := ih (j + 1) (by omega) k (by omega)
  simp only [laws_sameSessions.l0]
  rw [if_pos (by omega), if_pos (by omega), if_pos (by omega), if_neg (by simp), w64 (by omega) (by omega)]
  simpa using e
theorem laws_sameSessions.M (A0 : Option Addr) (c0 : Nat) (A1 : Option Addr) (c1 : Nat) (l m : List S100) (he : l = m) (W : World) (h0 : Kd.C k100 W A0 l.length l) (hc0 : l.length ≤ c0) (h1 : Kd.C k100 W A1 m.length m) (hc1 : m.length ≤ c1) (hn : m.length ≤ 2097152) :
  Calls Try.prog 37 #[.slice A0 l.length c0, .slice A1 m.length c1] W fun e w' => e = .returned (.bool true) ∧ Below W.heap.size W w' := by
 subst he
 refine (laws_sameSessions.calls (l.length + 21) A0 c0 l A1 c1 l true W h0 hc0 h1 hc1 ?_).mono (fun _ _ h => ⟨h.1, h.2.below⟩)
 unfold laws_sameSessions.f
 rw [if_pos rfl]
 simpa using sameS_loop l hn l.length 0 (by omega) (l.length + 21) (by omega)
theorem laws_alive.M (w : World) : Calls Try.prog 17 #[] w fun e w' => e = .returned (.bool true) ∧ Below w.heap.size w w' := laws_alive.calls 12 true w (by decide +kernel)
theorem laws_sameState.M (a b : ByteArray) (AP : Option Addr) (cP : Nat) (AQ : Option Addr) (cQ : Nat) (ps : List S61) (AS : Option Addr) (cS : Nat) (AU : Option Addr) (cU : Nat) (ss : List S100) (t : Bool) (c : ByteArray) (w : World) (hrp : Kd.C k61 w AP ps.length ps) (hrq : Kd.C k61 w AQ ps.length ps) (hrs : Kd.C k100 w AS ss.length ss) (hru : Kd.C k100 w AU ss.length ss) (hcp : ps.length ≤ cP) (hcq : ps.length ≤ cQ) (hcs : ss.length ≤ cS) (hcu : ss.length ≤ cU) (hpl : ps.length ≤ 2097152) (hsl : ss.length ≤ 2097152) : Calls Try.prog 35 #[.agg #[.string a, .string b, .slice AP ps.length cP, .slice AS ss.length cS, .bool t, .string c], .agg #[.string a, .string b, .slice AQ ps.length cQ, .slice AU ss.length cU, .bool t, .string c]] w fun e w' => e = .returned (.bool true) ∧ Below w.heap.size w w' := by
 have B := Aside0.mk (Below.refl w.heap.size w)
 have hu := Try.underlying34
 have HRP := Aside0.mk hrp
 have HRQ := Aside0.mk hrq
 have HRS := Aside0.mk hrs
 have HRU := Aside0.mk hru
 clear hrp hrq hrs hru
 have HCP := Aside0.mk hcp
 have HCQ := Aside0.mk hcq
 have HCS := Aside0.mk hcs
 have HCU := Aside0.mk hcu
 clear hcp hcq hcs hcu
 go_enter Try.func35, Try.ntmps35
 go_wp2_with (first
  | ((with_reducible refine gate_dst (N := 2) rfl ?_); refine bx ?hg (N := 2) ?hd (cs := #[.string a, .string b, .slice AP ps.length cP, .slice AS ss.length cS, .bool t, .string c]) (t := 34) ?hr B ?_; (case hd | hg => rfl); (case hr => go_simp; first | done | rfl); intro g2 w1 hb B F2 L2 E2; obtain ⟨c2_0, c2_1, c2_2, c2_3, c2_4, c2_5⟩ := cs6 F2; clear hb E2)
  | ((with_reducible refine gate_dst (N := 3) rfl ?_); refine bx ?hg (N := 3) ?hd (cs := #[.string a, .string b, .slice AQ ps.length cQ, .slice AU ss.length cU, .bool t, .string c]) (t := 34) ?hr B ?_; (case hd | hg => rfl); (case hr => go_simp; first | done | rfl); intro g3 w2 hb B F3 L3 E3; replace F2 := bn F2 hb; clear c2_0 c2_1 c2_2 c2_3 c2_4 c2_5; obtain ⟨c2_0, c2_1, c2_2, c2_3, c2_4, c2_5⟩ := cs6 F2; obtain ⟨c3_0, c3_1, c3_2, c3_3, c3_4, c3_5⟩ := cs6 F3; clear hb E3)
  | (go_at_call 28; with_reducible refine cl (laws_samePairs.M _ _ _ _ ps ps rfl _ (cb HRP B) HCP.out (cb HRQ B) HCQ.out (by assumption)) B fun w3 hb B => ?_; replace F2 := bn F2 hb; replace F3 := bn F3 hb; clear c2_0 c2_1 c2_2 c2_3 c2_4 c2_5; obtain ⟨c2_0, c2_1, c2_2, c2_3, c2_4, c2_5⟩ := cs6 F2; clear c3_0 c3_1 c3_2 c3_3 c3_4 c3_5; obtain ⟨c3_0, c3_1, c3_2, c3_3, c3_4, c3_5⟩ := cs6 F3; clear hb)
  | (go_at_call 37; with_reducible refine cl (laws_sameSessions.M _ _ _ _ ss ss rfl _ (cb HRS B) HCS.out (cb HRU B) HCU.out (by assumption)) B fun w4 hb B => ?_; replace F2 := bn F2 hb; replace F3 := bn F3 hb; clear c2_0 c2_1 c2_2 c2_3 c2_4 c2_5; obtain ⟨c2_0, c2_1, c2_2, c2_3, c2_4, c2_5⟩ := cs6 F2; clear c3_0 c3_1 c3_2 c3_3 c3_4 c3_5; obtain ⟨c3_0, c3_1, c3_2, c3_3, c3_4, c3_5⟩ := cs6 F3; clear hb))
 all_goals go_ret
 all_goals exact ⟨by simp_all, B.out⟩
theorem laws_sameState.Z (AP : Option Addr) (cP : Nat) (AS : Option Addr) (cS : Nat) (w : World) (hrp : Kd.C k61 w AP 0 []) (hrs : Kd.C k100 w AS 0 []) : Calls Try.prog 35 #[.agg #[.string (⟨#[]⟩ : ByteArray), .string (⟨#[]⟩ : ByteArray), .slice AP 0 cP, .slice AS 0 cS, .bool false, .string (⟨#[]⟩ : ByteArray)], .agg #[.string (⟨#[]⟩ : ByteArray), .string (⟨#[]⟩ : ByteArray), .slice none 0 0, .slice none 0 0, .bool false, .string (⟨#[]⟩ : ByteArray)]] w fun e w' => e = .returned (.bool true) ∧ Below w.heap.size w w' :=
 laws_sameState.M (⟨#[]⟩ : ByteArray) (⟨#[]⟩ : ByteArray) AP cP none 0 [] AS cS none 0 [] false (⟨#[]⟩ : ByteArray) w hrp (nilC _ _) hrs (nilC _ _) (Nat.zero_le _) (Nat.le_refl 0) (Nat.zero_le _) (Nat.le_refl 0) (Nat.zero_le _) (Nat.zero_le _)
theorem laws_noState.M (AP : Option Addr) (cP : Nat) (AS : Option Addr) (cS : Nat) (w : World) (hrp : Kd.C k61 w AP 0 []) (hrs : Kd.C k100 w AS 0 []) : Calls Try.prog 36 #[.agg #[.string (⟨#[]⟩ : ByteArray), .string (⟨#[]⟩ : ByteArray), .slice AP 0 cP, .slice AS 0 cS, .bool false, .string (⟨#[]⟩ : ByteArray)]] w fun e w' => e = .returned (.bool true) ∧ Below w.heap.size w w' := by
 have B := Aside0.mk (Below.refl w.heap.size w)
 have hu := Try.underlying34
 have HRP := Aside0.mk hrp
 have HRS := Aside0.mk hrs
 clear hrp hrs
 go_enter Try.func36, Try.ntmps36
 go_wp2_with (first
  | ((with_reducible refine gate_dst (N := 1) rfl ?_); refine bx ?hg (N := 1) ?hd (cs := #[.string (⟨#[]⟩ : ByteArray), .string (⟨#[]⟩ : ByteArray), .slice AP ([] : List S61).length cP, .slice AS ([] : List S100).length cS, .bool false, .string (⟨#[]⟩ : ByteArray)]) (t := 34) ?hr B ?_; (case hd | hg => rfl); (case hr => go_simp; first | done | rfl); intro g1 w1 hb B F1 L1 E1; obtain ⟨c1_0, c1_1, c1_2, c1_3, c1_4, c1_5⟩ := cs6 F1; clear hb E1)
  | (go_at_call 35; with_reducible refine cl (laws_sameState.Z AP cP AS cS _ (cb HRP B) (cb HRS B)) B fun w2 hb B => ?_; clear hb))
 all_goals go_ret
 all_goals exact ⟨rfl, B.out⟩

/-! A reader of a code that functions share: what their calls keep. -/
section
variable {w W W' W0 : World} {g gb t p2 : Nat} {bs : List Int} {p p' : Int} {cs : Array Value} {α : Type} {d : Kd α} {e b : Nat} {v v1 : Value} {xs : List α}
def RB (g : Nat) : Nat → Prop := fun k => k = g
theorem bkr (F : Aside0 (W.heap[gb]? = some (.cells cs t (0, 0)))) (HI : Aside0 (IsS119 w W g bs p)) (ht : t ≠ 119) (hk : Kept W W' (RB g)) : Aside0 (W'.heap[gb]? = some (.cells cs t (0, 0))) := ⟨blk_kept F.out hk (fun h => HI.out.ne_blk F.out ht h.symm)⟩
theorem rkr (R : Aside0 (Ow d e W b v xs)) (HI : Aside0 (IsS119 w W g bs p)) (ht : ∀ q, q ∈ e :: d.E → q ≠ 119) (hk : Kept W W' (RB g)) : Aside0 (Ow d e W' b v xs) := ⟨Kd.R_mono (Kd.R_kept (HI.out.apart R.out ht) hk (fun _ h => h.2)) (fun _ _ => trivial)⟩
theorem hib (HI : Aside0 (IsS119 w W g bs p)) (hb : Below W.heap.size W W') : Aside0 (IsS119 w W' g bs p) := ⟨HI.out.below hb⟩
theorem his (HI : Aside0 (IsS119 w W g bs p)) (F : Aside0 (W.heap[gb]? = some (.cells cs t (0, 0)))) (ht : t ≠ 119) (hk : KeepBut W W' gb none) : Aside0 (IsS119 w W' g bs p) := ⟨HI.out.kept (Kept.of_keep (Kept.refl W (RB gb)) hk (.inl rfl)) (fun h => HI.out.ne_blk F.out ht h)⟩
theorem hig (HI : Aside0 (IsS119 w W g bs p)) (R : Aside0 (Ow d e W b v xs)) (ht : e ≠ 119) (hg : W.grownBy W' v.ownBlock) : Aside0 (IsS119 w W' g bs p) := ⟨HI.out.grown hg (HI.out.own_ne R.out ht)⟩
theorem hig0 (HI : Aside0 (IsS119 w W g bs p)) (hg : W.grownBy W' (Value.slice none 0 0).ownBlock) : Aside0 (IsS119 w W' g bs p) := ⟨HI.out.grown hg (fun h => nomatch h)⟩
theorem kkb (K : Aside0 (Kept W0 W (RB g))) (hb : Below W.heap.size W W') : Aside0 (Kept W0 W' (RB g)) := ⟨K.out.below hb⟩
theorem kks (K : Aside0 (Kept W0 W (RB g))) (M : Aside0 (W0.heap.size ≤ gb)) (hk : KeepBut W W' gb none) : Aside0 (Kept W0 W' (RB g)) := ⟨K.out.of_keep hk (.inr M.out)⟩
theorem kkr (K : Aside0 (Kept W0 W (RB g))) (hk : Kept W W' (RB g)) : Aside0 (Kept W0 W' (RB g)) := ⟨K.out.then_ hk (fun _ h => .inl h)⟩
theorem kkg (K : Aside0 (Kept W0 W (RB g))) (M : Aside0 (Fr W0 v)) (hg : W.grownBy W' v.ownBlock) : Aside0 (Kept W0 W' (RB g)) := ⟨Kept.of_grown hg K.out (fun k h => .inr (M.out k h))⟩
theorem kkg0 (K : Aside0 (Kept W0 W (RB g))) (hg : W.grownBy W' (Value.slice none 0 0).ownBlock) : Aside0 (Kept W0 W' (RB g)) := ⟨Kept.of_grown hg K.out (fun _ h => nomatch h)⟩
theorem mbx (E : Aside0 (gb = W.heap.size)) (K : Aside0 (Kept W0 W (RB g))) : Aside0 (W0.heap.size ≤ gb) := ⟨E.out ▸ K.out.1⟩
theorem mrf (Q : Aside0 (Fr W v)) (K : Aside0 (Kept W0 W (RB g))) : Aside0 (Fr W0 v) := ⟨fun k h => Nat.le_trans K.out.1 (Q.out k h)⟩
theorem mra (hat : Aside0 (v1.ownBlock = v.ownBlock ∨ ∃ b, v1.ownBlock = some b ∧ W.heap.size ≤ b)) (M : Aside0 (Fr W0 v)) (K : Aside0 (Kept W0 W (RB g))) : Aside0 (Fr W0 v1) := ⟨fun k h => by
  rcases hat.out with h1 | ⟨b, h1, hb⟩
  · exact M.out k (h1 ▸ h)
  · rw [h1] at h
    cases h
    exact Nat.le_trans K.out.1 hb⟩
theorem mra0 (hat : Aside0 (v1.ownBlock = (Value.slice none 0 0).ownBlock ∨ ∃ b, v1.ownBlock = some b ∧ W.heap.size ≤ b)) (K : Aside0 (Kept W0 W (RB g))) : Aside0 (Fr W0 v1) := mra hat ⟨fun _ h => nomatch h⟩ K
end
section
variable {P : Program} {F : FuncId} {args : Array Value} {w W : World} {Q : Ending → World → Prop} {g : Nat} {bs : List Int} {p N : Int} {α β τ σ : Type}
/-- what a call with a reader leaves -/
def Left (w W : World) (g : Nat) (bs : List Int) (p N : Int) (p' : Int) (w' : World) : Prop := (p ≤ p' ∧ p' ≤ p + N) ∧ IsS119 w w' g bs p' ∧ Below w.heap.size w w' ∧ Kept W w' (RB g)
theorem cg1 {f : α → Value} {q : α → Prop} (c : Calls P F args W fun e w' => ∃ x p', e = .returned (f x) ∧ q x ∧ Left w W g bs p N p' w')
    (h : ∀ x p', q x → (p ≤ p' ∧ p' ≤ p + N) → ∀ W', Kept W W' (RB g) → Aside0 (Below w.heap.size w W') → Aside0 (IsS119 w W' g bs p') → Q (.returned (f x)) W') : Calls P F args W Q :=
  c.mono (by rintro e W' ⟨x, p', rfl, hq, hp, hi, hb, hk⟩; exact h x p' hq hp W' hk ⟨hb⟩ ⟨hi⟩)
theorem cg2 {f : α → β → Value} {q : α → β → Prop} (c : Calls P F args W fun e w' => ∃ x y p', e = .returned (f x y) ∧ q x y ∧ Left w W g bs p N p' w')
    (h : ∀ x y p', q x y → (p ≤ p' ∧ p' ≤ p + N) → ∀ W', Kept W W' (RB g) → Aside0 (Below w.heap.size w W') → Aside0 (IsS119 w W' g bs p') → Q (.returned (f x y)) W') : Calls P F args W Q :=
  c.mono (by rintro e W' ⟨x, y, p', rfl, hq, hp, hi, hb, hk⟩; exact h x y p' hq hp W' hk ⟨hb⟩ ⟨hi⟩)
theorem cg3 {f : α → β → τ → Value} {q : α → β → τ → Prop} (c : Calls P F args W fun e w' => ∃ x y z p', e = .returned (f x y z) ∧ q x y z ∧ Left w W g bs p N p' w')
    (h : ∀ x y z p', q x y z → (p ≤ p' ∧ p' ≤ p + N) → ∀ W', Kept W W' (RB g) → Aside0 (Below w.heap.size w W') → Aside0 (IsS119 w W' g bs p') → Q (.returned (f x y z)) W') : Calls P F args W Q :=
  c.mono (by rintro e W' ⟨x, y, z, p', rfl, hq, hp, hi, hb, hk⟩; exact h x y z p' hq hp W' hk ⟨hb⟩ ⟨hi⟩)
theorem cgr {d : Kd α} {e : Nat} {f : Value → Value} {q : List α → Prop} (c : Calls P F args W fun r w' => ∃ v0 xs p', r = .returned (f v0) ∧ q xs ∧ Kd.R d e w' w.heap.size (fun _ => True) v0 xs ∧ Fr W v0 ∧ Left w W g bs p N p' w')
    (h : ∀ xs A kk p', q xs → (p ≤ p' ∧ p' ≤ p + N) → ∀ W', Kept W W' (RB g) → Aside0 (Below w.heap.size w W') → Aside0 (IsS119 w W' g bs p') → Aside0 (Ow d e W' w.heap.size (.slice A xs.length kk) xs) → Aside0 (Fr W (.slice A xs.length kk)) → Q (.returned (f (.slice A xs.length kk))) W') : Calls P F args W Q :=
  c.mono (by
    rintro r W' ⟨v0, xs, p', rfl, hq, ho, hf, hp, hi, hb, hk⟩
    obtain ⟨A, kk, rfl⟩ := Kd.R_slice ho
    exact h xs A kk p' hq hp W' hk ⟨hb⟩ ⟨hi⟩ ⟨ho⟩ ⟨hf⟩)
/-- a state -/
theorem cgs {d : Kd α} {d' : Kd β} {e e' : Nat} {f : ByteArray → ByteArray → Value → Value → Bool → ByteArray → Value} {q : List α → List β → Prop} (c : Calls P F args W fun r w' => ∃ a b v0 v1 t c xs ys p', r = .returned (f a b v0 v1 t c) ∧ q xs ys ∧ (Kd.R d e w' w.heap.size (fun _ => True) v0 xs ∧ Fr W v0) ∧ (Kd.R d' e' w' w.heap.size (fun _ => True) v1 ys ∧ Fr W v1) ∧ Left w W g bs p N p' w')
    (h : ∀ a b t c xs ys A kk A' kk' p', q xs ys → (p ≤ p' ∧ p' ≤ p + N) → ∀ W', Kept W W' (RB g) → Aside0 (Below w.heap.size w W') → Aside0 (IsS119 w W' g bs p') → Aside0 (Ow d e W' w.heap.size (.slice A xs.length kk) xs) → Aside0 (Fr W (.slice A xs.length kk)) → Aside0 (Ow d' e' W' w.heap.size (.slice A' ys.length kk') ys) → Aside0 (Fr W (.slice A' ys.length kk')) →
      Q (.returned (f a b (.slice A xs.length kk) (.slice A' ys.length kk') t c)) W') : Calls P F args W Q :=
  c.mono (by
    rintro r W' ⟨a, b, v0, v1, t, c, xs, ys, p', rfl, hq, ⟨ho, hf⟩, ⟨ho', hf'⟩, hp, hi, hb, hk⟩
    obtain ⟨A, kk, rfl⟩ := Kd.R_slice ho
    obtain ⟨A', kk', rfl⟩ := Kd.R_slice ho'
    exact h a b t c xs ys A kk A' kk' p' hq hp W' hk ⟨hb⟩ ⟨hi⟩ ⟨ho⟩ ⟨hf⟩ ⟨ho'⟩ ⟨hf'⟩)
theorem copen {w W : World} {P : Program} {F : FuncId} {args : Array Value} {Q : Ending → World → Prop} {bs : List Int} {p : Int} (c : Calls P F args W fun e w' => ∃ g, e = .returned (.pointer (some ⟨g, 0, none⟩)) ∧ IsS119 w w' g bs p ∧ Below w.heap.size w w' ∧ Below W.heap.size W w')
    (h : ∀ g W', Below W.heap.size W W' → Aside0 (Below w.heap.size w W') → Aside0 (IsS119 w W' g bs p) → Q (.returned (.pointer (some ⟨g, 0, none⟩))) W') : Calls P F args W Q :=
  c.mono (by rintro e W' ⟨g, rfl, hi, hb, hb'⟩; exact h g W' hb' ⟨hb⟩ ⟨hi⟩)
theorem kept_keep {W W' : World} {g : Nat} (h : KeepBut W W' g none) : Kept W W' (RB g) := Kept.of_keep (Kept.refl W _) h (.inl rfl)
end

/-! What draws of states give. -/
section
variable {P : Program} {F : FuncId} {args : Array Value} {w W : World} {Q : Ending → World → Prop} {α β : Type} {d : Kd α} {d' : Kd β} {e e' : Nat}
theorem cdst {f : ByteArray → ByteArray → Value → Value → Bool → ByteArray → Value} {q : List α → List β → Prop} (c : Calls P F args W fun r w' => ∃ a b v0 v1 t c xs ys, r = .returned (f a b v0 v1 t c) ∧ q xs ys ∧ Kd.R d e w' W.heap.size (fun _ => True) v0 xs ∧ Kd.R d' e' w' W.heap.size (fun _ => True) v1 ys ∧ Below W.heap.size W w') (B : Aside0 (Below w.heap.size w W))
    (h : ∀ a b t c xs ys A kk A' kk' W', q xs ys → Below W.heap.size W W' → Aside0 (Below w.heap.size w W') → Aside0 (Ow d e W' w.heap.size (.slice A xs.length kk) xs) → Aside0 (Ow d' e' W' w.heap.size (.slice A' ys.length kk') ys) → Q (.returned (f a b (.slice A xs.length kk) (.slice A' ys.length kk') t c)) W') : Calls P F args W Q :=
  c.mono (by
    rintro r W' ⟨a, b, v0, v1, t, c, xs, ys, rfl, hq, ho, ho', hb⟩
    obtain ⟨A, kk, rfl⟩ := Kd.R_slice ho
    obtain ⟨A', kk', rfl⟩ := Kd.R_slice ho'
    exact h a b t c xs ys A kk A' kk' W' hq hb ⟨below_step B.out hb⟩ ⟨Kd.R_lower ho (below_size B.out)⟩ ⟨Kd.R_lower ho' (below_size B.out)⟩)
theorem cdst2 {f : ByteArray → ByteArray → Value → Value → Bool → ByteArray → ByteArray → ByteArray → Value → Value → Bool → ByteArray → Value} {q : List α → List β → List α → List β → Prop} (c : Calls P F args W fun r w' => ∃ a b v0 v1 t c xs ys a2 b2 v2 v3 t2 c2 xs2 ys2, r = .returned (f a b v0 v1 t c a2 b2 v2 v3 t2 c2) ∧ q xs ys xs2 ys2 ∧ (Kd.R d e w' W.heap.size (fun _ => True) v0 xs ∧ Kd.R d' e' w' W.heap.size (fun _ => True) v1 ys) ∧ (Kd.R d e w' W.heap.size (fun _ => True) v2 xs2 ∧ Kd.R d' e' w' W.heap.size (fun _ => True) v3 ys2) ∧ Below W.heap.size W w') (B : Aside0 (Below w.heap.size w W))
    (h : ∀ a b t c xs ys A kk A' kk' a2 b2 t2 c2 xs2 ys2 A2 kk2 A3 kk3 W', q xs ys xs2 ys2 → Below W.heap.size W W' → Aside0 (Below w.heap.size w W') → Aside0 (Ow d e W' w.heap.size (.slice A xs.length kk) xs) → Aside0 (Ow d' e' W' w.heap.size (.slice A' ys.length kk') ys) → Aside0 (Ow d e W' w.heap.size (.slice A2 xs2.length kk2) xs2) → Aside0 (Ow d' e' W' w.heap.size (.slice A3 ys2.length kk3) ys2) →
      Q (.returned (f a b (.slice A xs.length kk) (.slice A' ys.length kk') t c a2 b2 (.slice A2 xs2.length kk2) (.slice A3 ys2.length kk3) t2 c2)) W') : Calls P F args W Q :=
  c.mono (by
    rintro r W' ⟨a, b, v0, v1, t, c, xs, ys, a2, b2, v2, v3, t2, c2, xs2, ys2, rfl, hq, ⟨ho, ho'⟩, ⟨ho2, ho3⟩, hb⟩
    obtain ⟨A, kk, rfl⟩ := Kd.R_slice ho
    obtain ⟨A', kk', rfl⟩ := Kd.R_slice ho'
    obtain ⟨A2, kk2, rfl⟩ := Kd.R_slice ho2
    obtain ⟨A3, kk3, rfl⟩ := Kd.R_slice ho3
    exact h a b t c xs ys A kk A' kk' a2 b2 t2 c2 xs2 ys2 A2 kk2 A3 kk3 W' hq hb ⟨below_step B.out hb⟩ ⟨Kd.R_lower ho (below_size B.out)⟩ ⟨Kd.R_lower ho' (below_size B.out)⟩ ⟨Kd.R_lower ho2 (below_size B.out)⟩ ⟨Kd.R_lower ho3 (below_size B.out)⟩)
end
/-- where a walk is to stand -/
structure Stop (p : Prop) : Prop where
  out : p

namespace Dw
/-! Eventually: for all large enough numbers of rounds; small lemmas on numbers and lists. -/
def Evn (P : Nat → Prop) : Prop := ∃ K, ∀ k, K ≤ k → P k

theorem Evn.all {P : Nat → Prop} (h : ∀ k, P k) : Evn P := ⟨0, fun k _ => h k⟩

theorem Evn.mp {P Q : Nat → Prop} (hp : Evn P) (hq : Evn fun k => P k → Q k) : Evn Q := by
 obtain ⟨K1, h1⟩ := hp
 obtain ⟨K2, h2⟩ := hq
 exact ⟨max K1 K2, fun k hk => h2 k (by omega) (h1 k (by omega))⟩

theorem Evn.succ {P : Nat → Prop} (h : Evn fun k => P (k + 1)) : Evn P := by
 obtain ⟨K, h⟩ := h
 refine ⟨K + 1, fun k hk => ?_⟩
 obtain ⟨m, rfl⟩ : ∃ m, k = m + 1 := ⟨k - 1, by omega⟩
 exact h m (by omega)

theorem Evn.some {P : Nat → Prop} (h : Evn P) : ∃ k, P k := by
 obtain ⟨K, h⟩ := h
 exact ⟨K, h K (Nat.le_refl K)⟩

theorem w64 {x : Int} (h0 : -9223372036854775808 ≤ x) (h1 : x ≤ 9223372036854775807) : wrap64 x = x := by
 unfold wrap64
 omega

theorem rd_drop {xs : List Int} {j : Nat} (h : j < xs.length) : xs.drop j = rd xs (j : Int) :: xs.drop (j + 1) := by
 rw [List.drop_eq_getElem_cons h]
 simp [rd, List.getD_eq_getElem?_getD, List.getElem?_eq_getElem h]

theorem rd_nat {xs : List Int} {j : Nat} (h : j < xs.length) : rd xs (j : Int) = xs[j] := by
 simp [rd, List.getD_eq_getElem?_getD, List.getElem?_eq_getElem h]

theorem wf64 {x : Int} (h : (Lit.int .i64 x).wf = true) : -9223372036854775808 ≤ x ∧ x ≤ 9223372036854775807 := by
 have h' : (decide (IntKind.i64.min ≤ x) && decide (x ≤ IntKind.i64.max)) = true := h
 rw [Bool.and_eq_true, decide_eq_true_eq, decide_eq_true_eq] at h'
 exact h'

/-! The reader of a code: a pick is in its range; the place goes on by one. -/
def Code (b : List Int) : Prop := b.length ≤ 2000 ∧ ∀ x ∈ b, 0 ≤ x ∧ x ≤ 255

theorem rd_code {b : List Int} (h : Code b) (i : Int) : 0 ≤ rd b i ∧ rd b i ≤ 255 := by
 unfold rd
 rw [List.getD_eq_getElem?_getD]
 by_cases hi : i.toNat < b.length
 ·rw [List.getElem?_eq_getElem hi]
  exact h.2 _ (List.getElem_mem hi)
 ·rw [List.getElem?_eq_none (by omega)]
  simp

theorem xor_pos (a b : Int) (ha0 : 0 ≤ a) (ha1 : a < 4611686018427387904) (hb0 : 0 ≤ b) (hb1 : b < 4611686018427387904) : 0 ≤ Go.bits .xor .i64 a b := by
 obtain ⟨n, rfl⟩ := Int.eq_ofNat_of_zero_le ha0
 obtain ⟨m, rfl⟩ := Int.eq_ofNat_of_zero_le hb0
 have hn : n < 2 ^ 62 := by omega
 have hm : m < 2 ^ 62 := by omega
 have hx := Nat.xor_lt_two_pow hn hm
 have n64 : n % 2 ^ 64 = n := Nat.mod_eq_of_lt (by omega)
 have m64 : m % 2 ^ 64 = m := Nat.mod_eq_of_lt (by omega)
 have e : Go.bits .xor .i64 (n : Int) (m : Int) = IntKind.i64.wrap ((n ^^^ m : Nat) : Int) := by
  show IntKind.i64.wrap (((BitVec.ofInt 64 (n : Int) ^^^ BitVec.ofInt 64 (m : Int)).toNat : Nat) : Int) = _
  rw [BitVec.ofInt_natCast, BitVec.ofInt_natCast, BitVec.toNat_xor, BitVec.toNat_ofNat, BitVec.toNat_ofNat, n64, m64]
 rw [e, IntKind.wrap_i64]
 omega

theorem spec_pick (b : List Int) (hb : Code b) (p n : Int) (h0 : 0 ≤ p) (h1 : p ≤ 1099511627776) :
  ∃ r, 0 ≤ r ∧ (1 ≤ n → r < n) ∧ (n ≤ 1 → r = 0) ∧ Evn fun k => spec_l20Rd_pick.f k b p n = some (r, p + 1) := by
 have hw : wrap64 (p + 1) = p + 1 := w64 (by omega) (by omega)
 by_cases hn : n < 1
 ·refine ⟨0, by omega, by omega, by omega, Evn.succ (Evn.all fun k => ?_)⟩
  unfold spec_l20Rd_pick.f
  rw [if_pos hn, hw]
  simp only [spec_l20Rd_pick.j0]
  rw [if_pos trivial]
 ·by_cases hl : b.length = 0
  ·refine ⟨0, by omega, by omega, by omega, Evn.succ (Evn.all fun k => ?_)⟩
   unfold spec_l20Rd_pick.f
   rw [if_neg hn, hw, hl]
   simp only [spec_l20Rd_pick.j0]
   rw [if_pos (by rfl)]
  ·have hl1 : 1 ≤ (b.length : Int) := by omega
   have hle : ((b.length : Int) == 0) = false := by simpa using hl
   have e1 : wrap64 (p + 1 - 1) = p := by rw [show p + 1 - 1 = p by omega]; exact w64 (by omega) (by omega)
   by_cases hp : p < (b.length : Int)
   ·have hr := rd_code hb p
    refine ⟨Int.tmod (rd b p) n, Int.tmod_nonneg n hr.1, fun h => Int.tmod_lt_of_pos _ (by omega), fun h => ?_, Evn.succ (Evn.all fun k => ?_)⟩
    ·have : n = 1 := by omega
     subst this
     exact Int.tmod_one _
    ·unfold spec_l20Rd_pick.f
     rw [if_neg hn, hw, hle]
     simp only [spec_l20Rd_pick.j0]
     rw [if_neg (by simp), e1, if_pos hp, if_pos h0, if_neg (by omega), w64 (x := rd b p) (by omega) (by omega)]
   ·have ei : Int.tmod p (b.length : Int) = p % (b.length : Int) := Int.tmod_eq_emod_of_nonneg h0
    have i0 : 0 ≤ p % (b.length : Int) := Int.emod_nonneg _ (by omega)
    have i1 : p % (b.length : Int) < (b.length : Int) := Int.emod_lt_of_pos _ (by omega)
    have e7 : wrap64 (wrap64 (p * 7) + 3) = p * 7 + 3 := by rw [w64 (x := p * 7) (by omega) (by omega), w64 (by omega) (by omega)]
    have ej : Int.tmod (p * 7 + 3) (b.length : Int) = (p * 7 + 3) % (b.length : Int) := Int.tmod_eq_emod_of_nonneg (by omega)
    have j0 : 0 ≤ (p * 7 + 3) % (b.length : Int) := Int.emod_nonneg _ (by omega)
    have j1 : (p * 7 + 3) % (b.length : Int) < (b.length : Int) := Int.emod_lt_of_pos _ (by omega)
    have eq : Int.tdiv p (b.length : Int) = p / (b.length : Int) := Int.tdiv_eq_ediv_of_nonneg h0
    have q0 : 0 ≤ p / (b.length : Int) := Int.ediv_nonneg h0 (by omega)
    have q1 : p / (b.length : Int) ≤ p := Int.ediv_le_self _ h0
    have hu := rd_code hb (p % (b.length : Int))
    have hv := rd_code hb ((p * 7 + 3) % (b.length : Int))
    have main : ∀ u v q : Int, 0 ≤ u → u ≤ 255 → 0 ≤ v → v ≤ 255 → 0 ≤ q → q ≤ p →
      ∃ x, wrap64 ((wrap64 ((wrap64 ((wrap64 ((wrap64 u) * 131)) + (wrap64 ((wrap64 v) * 1117)))) + (wrap64 (p * 29)))) + (wrap64 ((wrap64 q) * 53))) = x ∧ 0 ≤ x ∧ x < 4611686018427387904 ∧ 0 ≤ wrap64 (Int.tdiv x 64) ∧ wrap64 (Int.tdiv x 64) < 4611686018427387904 := by
     intro u v q u0 u1 v0 v1 q0 q1
     refine ⟨u * 131 + v * 1117 + p * 29 + q * 53, ?_, by omega, by omega, ?_, ?_⟩
     ·rw [w64 (x := u) (by omega) (by omega), w64 (x := v) (by omega) (by omega), w64 (x := q) (by omega) (by omega), w64 (x := u * 131) (by omega) (by omega), w64 (x := v * 1117) (by omega) (by omega), w64 (x := p * 29) (by omega) (by omega), w64 (x := q * 53) (by omega) (by omega), w64 (x := u * 131 + v * 1117) (by omega) (by omega), w64 (x := u * 131 + v * 1117 + p * 29) (by omega) (by omega), w64 (by omega) (by omega)]
     all_goals
      rw [Int.tdiv_eq_ediv_of_nonneg (by omega), w64 (by omega) (by omega)]
      omega
    obtain ⟨x, hx, x0, x1, y0, y1⟩ := main _ _ _ hu.1 hu.2 hv.1 hv.2 q0 q1
    refine ⟨Int.tmod (Go.bits .xor .i64 x (wrap64 (Int.tdiv x 64))) n, Int.tmod_nonneg n (xor_pos _ _ x0 x1 y0 y1), fun h => Int.tmod_lt_of_pos _ (by omega), fun h => ?_, Evn.succ (Evn.all fun k => ?_)⟩
    ·have : n = 1 := by omega
     subst this
     exact Int.tmod_one _
    ·unfold spec_l20Rd_pick.f
     rw [if_neg hn, hw, hle]
     simp only [spec_l20Rd_pick.j0]
     rw [if_neg (by simp), e1, if_neg hp, if_neg (by omega), ei, if_pos i0, if_pos i1, e7, ej, if_pos j0, if_pos j1, if_neg (by omega), eq, hx]

theorem spec_odd (b : List Int) (hb : Code b) (p n : Int) (h0 : 0 ≤ p) (h1 : p ≤ 1099511627776) (hn : n ≤ 1000000) :
  ∃ r q, p ≤ q ∧ q ≤ p + 1 ∧ (n ≤ 0 → r = false) ∧ Evn fun k => spec_l20Rd_odd.f k b p n = some (r, q) := by
 by_cases h : n > 0
 ·obtain ⟨r, _, _, _, e⟩ := spec_pick b hb p n h0 h1
  refine ⟨r == wrap64 (n - 1), p + 1, by omega, by omega, by omega, Evn.mp e (Evn.all fun k e => ?_)⟩
  unfold spec_l20Rd_odd.f
  rw [if_pos h, e]
  rfl
 ·refine ⟨false, p, by omega, by omega, fun _ => rfl, Evn.all fun k => ?_⟩
  unfold spec_l20Rd_odd.f
  rw [if_neg h]

theorem spec_open (l : List Int) (hl : ∀ x ∈ l, (Lit.int .u8 x).wf = true) : ∃ b, Code b ∧ spec_l20Open.f l = some (b, 0) := by
 have hx : ∀ x ∈ l, 0 ≤ x ∧ x ≤ 255 := fun x hx => by
  have h' : (decide (IntKind.u8.min ≤ x) && decide (x ≤ IntKind.u8.max)) = true := hl x hx
  rw [Bool.and_eq_true, decide_eq_true_eq, decide_eq_true_eq] at h'
  exact h'
 unfold spec_l20Open.f
 by_cases h : (l.length : Int) > 2000
 ·refine ⟨l.take 2000, ⟨by rw [List.length_take]; omega, fun x hm => hx x (List.mem_of_mem_take hm)⟩, ?_⟩
  rw [if_pos h, if_pos (by omega)]
 ·exact ⟨l, ⟨by omega, hx⟩, by rw [if_neg h]⟩

/-! What a reader draws: a value with what is known of it, and the place behind it, not far. -/
def Dr {α : Type} (g : Nat → Option (α × Int)) (p c : Int) (P : α → Prop) : Prop := ∃ r q, p ≤ q ∧ q ≤ p + c ∧ P r ∧ Evn fun k => g k = some (r, q)

theorem Dr.bind {α β : Type} {g : Nat → Option (α × Int)} {H : Nat → α × Int → Option (β × Int)} {p c C : Int} {P : α → Prop} {Q : β → Prop}
  (h1 : Dr g p c P) (h2 : ∀ bt : α × Int, P bt.1 → p ≤ bt.2 → bt.2 ≤ p + c → Dr (fun k => H k bt) bt.2 (C - c) Q) : Dr (fun k => (g k).bind (H k)) p C Q := by
 obtain ⟨r, q, hq0, hq1, hr, e⟩ := h1
 obtain ⟨r', q', h0, h1, hr', e'⟩ := h2 (r, q) hr hq0 hq1
 refine ⟨r', q', by simp only at h0; omega, by simp only at h1; omega, hr', Evn.mp e (Evn.mp e' (Evn.all fun k e' e => ?_))⟩
 dsimp only
 rw [e]
 exact e'

theorem Dr.pure {α : Type} {p c : Int} {P : α → Prop} {r : α} (hr : P r) (hc : 0 ≤ c) : Dr (fun _ => some (r, p)) p c P :=
 ⟨r, p, by omega, by omega, hr, Evn.all fun _ => rfl⟩

theorem Dr.ite {α : Type} {g h : Nat → Option (α × Int)} {p c : Int} {P : α → Prop} {b : Prop} [Decidable b] (h1 : b → Dr g p c P) (h2 : ¬ b → Dr h p c P) : Dr (fun k => if b then g k else h k) p c P := by
 by_cases hb : b
 ·simpa [hb] using h1 hb
 ·simpa [hb] using h2 hb

/-- a value that is computed on the way, by a function that draws nothing -/
theorem Dr.run {α β : Type} {g : Nat → Option α} {H : Nat → α → Option (β × Int)} {p c : Int} {Q : β → Prop} {r : α} (h1 : Evn fun k => g k = some r) (h2 : Dr (fun k => H k r) p c Q) : Dr (fun k => (g k).bind (H k)) p c Q := by
 obtain ⟨r', q', h0, h1', hr', e'⟩ := h2
 refine ⟨r', q', h0, h1', hr', Evn.mp h1 (Evn.mp e' (Evn.all fun k e' e => ?_))⟩
 dsimp only
 rw [e]
 exact e'

theorem Dr.some_bind {α β : Type} {H : Nat → α → Option (β × Int)} {p c : Int} {Q : β → Prop} {r : α} (h2 : Dr (fun k => H k r) p c Q) : Dr (fun k => (some r).bind (H k)) p c Q := h2

theorem Dr.le {α : Type} {g : Nat → Option (α × Int)} {p c C : Int} {P Q : α → Prop} (h : Dr g p c P) (hc : c ≤ C) (hp : ∀ r, P r → Q r) : Dr g p C Q := by
 obtain ⟨r, q, h0, h1, hr, e⟩ := h
 exact ⟨r, q, h0, by omega, hp r hr, e⟩

theorem Dr.congr {α : Type} {g h : Nat → Option (α × Int)} {p c : Int} {P : α → Prop} (hg : Dr h p c P) (e : ∀ k, g k = h k) : Dr g p c P := by
 obtain ⟨r, q, h0, h1, hr, e'⟩ := hg
 exact ⟨r, q, h0, h1, hr, Evn.mp e' (Evn.all fun k e' => (e k).trans e')⟩

theorem Dr.succ {α : Type} {g : Nat → Option (α × Int)} {p c : Int} {P : α → Prop} (h : Dr (fun k => g (k + 1)) p c P) : Dr g p c P := by
 obtain ⟨r, q, h0, h1, hr, e⟩ := h
 exact ⟨r, q, h0, h1, hr, Evn.succ e⟩

/-- one of a list's values, by an index that was drawn -/
theorem Dr.elt {p c : Int} {P : Int → Prop} {xs : List Int} {i : Int} (h0 : 0 ≤ i) (h1 : i < (xs.length : Int)) (hP : ∀ x ∈ xs, P x) (hc : 0 ≤ c) : Dr (fun _ => if 0 ≤ i then (if i < (xs.length : Int) then some (rd xs i, p) else none) else none) p c P := by
 refine ⟨rd xs i, p, by omega, by omega, ?_, Evn.all fun k => by rw [if_pos h0, if_pos h1]⟩
 obtain ⟨j, rfl⟩ : ∃ j : Nat, i = (j : Int) := ⟨i.toNat, by omega⟩
 rw [rd_nat (by omega)]
 exact hP _ (List.getElem_mem _)

def InPick (n r : Int) : Prop := 0 ≤ r ∧ (1 ≤ n → r < n) ∧ (n ≤ 1 → r = 0)

theorem dr_pick {b : List Int} (hb : Code b) {p : Int} (n : Int) (h0 : 0 ≤ p) (h1 : p ≤ 1099511627776) : Dr (fun k => spec_l20Rd_pick.f k b p n) p 1 (InPick n) := by
 obtain ⟨r, a, c, d, e⟩ := spec_pick b hb p n h0 h1
 exact ⟨r, p + 1, by omega, by omega, ⟨a, c, d⟩, e⟩

theorem dr_odd {b : List Int} (hb : Code b) {p : Int} (n : Int) (h0 : 0 ≤ p) (h1 : p ≤ 1099511627776) (hn : n ≤ 1000000) : Dr (fun k => spec_l20Rd_odd.f k b p n) p 1 (fun r => n ≤ 0 → r = false) := by
 obtain ⟨r, q, a, c, d, e⟩ := spec_odd b hb p n h0 h1 hn
 exact ⟨r, q, a, c, d, e⟩

/-- What is drawn at the end: no place behind it. -/
def Drw {α : Type} (g : Nat → Option α) (P : α → Prop) : Prop := ∃ r, P r ∧ Evn fun k => g k = some r

theorem Drw.bind {α β : Type} {g : Nat → Option (α × Int)} {H : Nat → α × Int → Option β} {p c : Int} {P : α → Prop} {Q : β → Prop}
  (h1 : Dr g p c P) (h2 : ∀ bt : α × Int, P bt.1 → p ≤ bt.2 → bt.2 ≤ p + c → Drw (fun k => H k bt) Q) : Drw (fun k => (g k).bind (H k)) Q := by
 obtain ⟨r, q, hq0, hq1, hr, e⟩ := h1
 obtain ⟨r', hr', e'⟩ := h2 (r, q) hr hq0 hq1
 refine ⟨r', hr', Evn.mp e (Evn.mp e' (Evn.all fun k e' e => ?_))⟩
 dsimp only
 rw [e]
 exact e'

theorem Drw.pure {α : Type} {P : α → Prop} {r : α} (hr : P r) : Drw (fun _ => some r) P := ⟨r, hr, Evn.all fun _ => rfl⟩

theorem Drw.ite {α : Type} {g h : Nat → Option α} {P : α → Prop} {b : Prop} [Decidable b] (h1 : b → Drw g P) (h2 : ¬ b → Drw h P) : Drw (fun k => if b then g k else h k) P := by
 by_cases hb : b
 ·simpa [hb] using h1 hb
 ·simpa [hb] using h2 hb

theorem Drw.run {α β : Type} {g : Nat → Option α} {H : Nat → α → Option β} {Q : β → Prop} {r : α} (h1 : Evn fun k => g k = some r) (h2 : Drw (fun k => H k r) Q) : Drw (fun k => (g k).bind (H k)) Q := by
 obtain ⟨r', hr', e'⟩ := h2
 refine ⟨r', hr', Evn.mp h1 (Evn.mp e' (Evn.all fun k e' e => ?_))⟩
 dsimp only
 rw [e]
 exact e'

theorem Drw.drw {α β : Type} {g : Nat → Option α} {H : Nat → α → Option β} {P : α → Prop} {Q : β → Prop} (h1 : Drw g P) (h2 : ∀ r, P r → Drw (fun k => H k r) Q) : Drw (fun k => (g k).bind (H k)) Q := by
 obtain ⟨r, hr, e⟩ := h1
 exact Drw.run e (h2 r hr)

theorem Drw.some_bind {α β : Type} {H : Nat → α → Option β} {Q : β → Prop} {r : α} (h2 : Drw (fun k => H k r) Q) : Drw (fun k => (some r).bind (H k)) Q := h2

theorem Drw.congr {α : Type} {g h : Nat → Option α} {P : α → Prop} (hg : Drw h P) (e : ∀ k, g k = h k) : Drw g P := by
 obtain ⟨r, hr, e'⟩ := hg
 exact ⟨r, hr, Evn.mp e' (Evn.all fun k e' => (e k).trans e')⟩

theorem Drw.le {α : Type} {g : Nat → Option α} {P Q : α → Prop} (h : Drw g P) (hp : ∀ r, P r → Q r) : Drw g Q := by
 obtain ⟨r, hr, e⟩ := h
 exact ⟨r, hp r hr, e⟩

end Dw
theorem Dw.weight (j : Nat) : ∃ t : Int, spec_l1Weight.f (j : Int) = some t ∧ t ≠ 0 := by
 unfold spec_l1Weight.f
 split
 ·exact ⟨_, rfl, by decide⟩
 ·split
  ·exact ⟨_, rfl, by decide⟩
  ·split
   ·exact ⟨_, rfl, by decide⟩
   ·exact ⟨_, rfl, by decide⟩
theorem Dw.keyat_loop (d : Nat) : ∀ (j : Nat) (x : Int) (y : ByteArray), j + d = 4 → y.size ≤ j → ∃ s, ∀ k, d + 1 ≤ k → spec_KeyAt.l0 k x y (j : Int) = some s := by
 induction d with
 | zero =>
  intro j x y hj hy
  refine ⟨y, fun k hk => ?_⟩
  obtain ⟨k, rfl⟩ : ∃ i, k = i + 1 := ⟨k - 1, by omega⟩
  rw [spec_KeyAt.l0, if_neg (by omega)]
 | succ d ih =>
  intro j x y hj hy
  obtain ⟨t, ht, h0⟩ := Dw.weight j
  have hz : (strOfNums [wrap64 (97 + wrap64 (Int.tdiv x t)) % 256]).size = 1 := by rw [strOfNums_size]; rfl
  by_cases hm : Int.tmod x t = 0
  ·refine ⟨y ++ strOfNums [wrap64 (97 + wrap64 (Int.tdiv x t)) % 256], fun k hk => ?_⟩
   obtain ⟨k, rfl⟩ : ∃ i, k = i + 1 := ⟨k - 1, by omega⟩
   rw [spec_KeyAt.l0, if_pos (by omega), ht]
   simp only [Option.bind_some]
   rw [if_neg h0, if_pos (by omega), if_neg h0, if_pos hm]
  ·obtain ⟨s, hs⟩ := ih (j + 1) (wrap64 (Int.tmod x t - 1)) (y ++ strOfNums [wrap64 (97 + wrap64 (Int.tdiv x t)) % 256]) (by omega) (by rw [ByteArray.size_append]; omega)
   refine ⟨s, fun k hk => ?_⟩
   obtain ⟨k, rfl⟩ : ∃ i, k = i + 1 := ⟨k - 1, by omega⟩
   rw [spec_KeyAt.l0, if_pos (by omega), ht]
   simp only [Option.bind_some]
   rw [if_neg h0, if_pos (by omega), if_neg h0, if_neg hm, w64 (x := (j : Int) + 1) (by omega) (by omega), show (j : Int) + 1 = ((j + 1 : Nat) : Int) by omega]
   exact hs k (by omega)
theorem Dw.keyat (n : Int) : ∃ s, Dw.Evn fun k => spec_KeyAt.f k n = some s := by
 have e : ∃ b, spec_l1In.f n 0 475253 = some b := by
  unfold spec_l1In.f
  split
  ·exact ⟨_, rfl⟩
  ·exact ⟨_, rfl⟩
 obtain ⟨b, hb⟩ := e
 unfold spec_KeyAt.f
 rw [hb]
 simp only [Option.bind_some]
 cases b with
 | true =>
  obtain ⟨s, hs⟩ := Dw.keyat_loop 4 0 n (⟨#[]⟩ : ByteArray) (by omega) (by show 0 ≤ 0; omega)
  exact ⟨s, 5, fun k hk => (if_pos rfl).trans (hs k hk)⟩
 | false => exact ⟨_, Dw.Evn.all fun k => if_neg (by simp)⟩
theorem spec_l20Rd_pick.D (n : Int) (w W0 : World) (g : Nat) (bs : List Int) (p : Int) (hI : IsS119 w W0 g bs p) (hB : Below w.heap.size w W0) (hc : Dw.Code bs) (h0 : 0 ≤ p) (h1 : p ≤ 1099511627776) :
  Calls Try.prog 79 #[.pointer (some ⟨g, 0, none⟩), .int .i64 n] W0 fun e w' => ∃ x p', e = .returned (.int .i64 x) ∧ (0 ≤ x ∧ (1 ≤ n → x < n) ∧ (n ≤ 1 → x = 0)) ∧ Left w W0 g bs p 1 p' w' := by
 obtain ⟨r, q, h2, h3, hr, k, e⟩ := Dw.dr_pick hc n h0 h1
 refine (spec_l20Rd_pick.calls k g bs p n r q w W0 hI hB (e k (Nat.le_refl k))).mono ?_
 rintro e w' ⟨rfl, hi, hb, hk⟩
 exact ⟨r, q, rfl, hr, ⟨h2, h3⟩, hi, hb, kept_keep hk⟩
theorem spec_l20Rd_odd.D (n : Int) (hn : n ≤ 1000000) (w W0 : World) (g : Nat) (bs : List Int) (p : Int) (hI : IsS119 w W0 g bs p) (hB : Below w.heap.size w W0) (hc : Dw.Code bs) (h0 : 0 ≤ p) (h1 : p ≤ 1099511627776) :
  Calls Try.prog 99 #[.pointer (some ⟨g, 0, none⟩), .int .i64 n] W0 fun e w' => ∃ x p', e = .returned (.bool x) ∧ (n ≤ 0 → x = false) ∧ Left w W0 g bs p 1 p' w' := by
 obtain ⟨r, q, h2, h3, hr, k, e⟩ := Dw.dr_odd hc n h0 h1 hn
 refine (spec_l20Rd_odd.calls k g bs p n r q w W0 hI hB (e k (Nat.le_refl k))).mono ?_
 rintro e w' ⟨rfl, hi, hb, hk⟩
 exact ⟨r, q, rfl, hr, ⟨h2, h3⟩, hi, hb, kept_keep hk⟩
theorem spec_KeyAt.D (n : Int) (w : World) : Calls Try.prog 116 #[.int .i64 n] w fun e w' => ∃ x, e = .returned (.string x) ∧ x = x ∧ Below w.heap.size w w' := by
 obtain ⟨r, k, e⟩ := Dw.keyat n
 refine (spec_KeyAt.calls k n r w (e k (Nat.le_refl k))).mono ?_
 rintro e w' ⟨rfl, h⟩
 exact ⟨r, rfl, rfl, h⟩
theorem tdiv8 {x : Int} (h0 : 0 ≤ x) (h1 : x < 9) : 0 ≤ Int.tdiv x 8 ∧ Int.tdiv x 8 < 2 := by
 rw [Int.tdiv_eq_ediv_of_nonneg h0]
 omega
theorem spec_l20Value.D (n : Int) (hn : n ≤ 1000000) (w W0 : World) (g : Nat) (bs : List Int) (p : Int) (hI : IsS119 w W0 g bs p) (hB : Below w.heap.size w W0) (hc : Dw.Code bs) (h0 : 0 ≤ p) (h1 : p ≤ 1099511000000) :
  Calls Try.prog 115 #[.pointer (some ⟨g, 0, none⟩), .int .i64 n] W0 fun e w' => ∃ x p', e = .returned (.int .i64 x) ∧ (True) ∧ Left w W0 g bs p 3 p' w' := by
 have B := Aside0.mk hB
 have HI := Aside0.mk hI
 have HC := Aside0.mk hc
 have KK := Aside0.mk (Kept.refl W0 (RB g))
 clear hB hI hc
 go_enter Try.func115, Try.ntmps115
 go_wp2_with (first
  | (go_at_call 99; (with_reducible refine cg1 (spec_l20Rd_odd.D n (by omega) w _ g bs p HI.out B.out HC.out (by omega) (by omega)) fun x1 p1 hx1 hp1 w1 hk B HI2 => ?_); replace KK := kkr KK hk; replace HI := HI2; clear hk; skip)
  | ((with_reducible refine gate_dst (N := 8) rfl ?_); refine lt (Kd.int .i64) 3 ?hg (N := 8) ?hd ([(-1), (1000)] : List Int) [.int .i64 (-1), .int .i64 (1000)] ?hr (Reps.one (show Kd.M (Kd.int .i64) _ _ _ (-1) [.int .i64 (-1)] from rfl) (Reps.one (show Kd.M (Kd.int .i64) _ _ _ (1000) [.int .i64 (1000)] from rfl) (Reps.none _ _))) (by simp) B ?_; (case hd | hg => rfl); (case hr => go_simp; first | done | rfl); intro z8 hz8 AL8 kL8 w51 hb B RL8 QL8; have MRL8 := mrf QL8 KK; replace HI := hib HI hb; replace KK := kkb KK hb; clear hb QL8)
  | (go_at_call 79; (with_reducible refine cg1 (spec_l20Rd_pick.D 2 w _ g bs p1 HI.out B.out HC.out (by omega) (by omega)) fun x52 p52 hx52 hp52 w52 hk B HI2 => ?_); replace RL8 := rkr RL8 HI (by decide) hk; replace KK := kkr KK hk; replace HI := HI2; clear hk; skip; have hj52 := hx52.1; have hi52 : x52 < (z8.length : Int) := (by rw [← hz8]; have := hx52.2.1 (by omega); simpa using this); obtain ⟨ad52, hA52, y52⟩ := Kd.at_int (rc RL8) x52 hj52 hi52; generalize rd z8 x52 = v52 at *; cases hA52; have fj52 := eq_true hj52; have fi52 := eq_true hi52)
  | (go_at_call 79; (with_reducible refine cg1 (spec_l20Rd_pick.D 20 w _ g bs p1 HI.out B.out HC.out (by omega) (by omega)) fun x101 p101 hx101 hp101 w101 hk B HI2 => ?_); replace KK := kkr KK hk; replace HI := HI2; clear hk; skip)
  | ((with_reducible refine gate_dst (N := 15) rfl ?_); refine lt (Kd.int .i64) 3 ?hg (N := 15) ?hd ([(x101), (999)] : List Int) [.int .i64 (x101), .int .i64 (999)] ?hr (Reps.one (show Kd.M (Kd.int .i64) _ _ _ (x101) [.int .i64 (x101)] from rfl) (Reps.one (show Kd.M (Kd.int .i64) _ _ _ (999) [.int .i64 (999)] from rfl) (Reps.none _ _))) (by simp) B ?_; (case hd | hg => rfl); (case hr => go_simp; first | done | rfl); intro z15 hz15 AL15 kL15 w102 hb B RL15 QL15; have MRL15 := mrf QL15 KK; replace HI := hib HI hb; replace KK := kkb KK hb; clear hb QL15)
  | (go_at_call 79; (with_reducible refine cg1 (spec_l20Rd_pick.D 9 w _ g bs p101 HI.out B.out HC.out (by omega) (by omega)) fun x103 p103 hx103 hp103 w103 hk B HI2 => ?_); replace RL15 := rkr RL15 HI (by decide) hk; replace KK := kkr KK hk; replace HI := HI2; clear hk; skip; obtain ⟨i17, hi17⟩ : ∃ i : Int, Int.tdiv x103 8 = i := ⟨_, rfl⟩; have hb17 := tdiv8 hx103.1 (hx103.2.1 (by omega)); rw [hi17] at hb17; have hv17 : IntKind.i64.wrap i17 = i17 := (i64_w _).trans (w64 (by omega) (by omega)); have hv18 : wrap64 i17 = i17 := (w64 (by omega) (by omega)); have hj17 := hb17.1; have hi17 : i17 < (z15.length : Int) := (by rw [← hz15]; have := hb17.2; simpa using this); obtain ⟨ad17, hA17, y17⟩ := Kd.at_int (rc RL15) i17 hj17 hi17; generalize rd z15 i17 = v17 at *; cases hA17; have fj17 := eq_true hj17; have fi17 := eq_true hi17))
 all_goals go_ret
 all_goals exact ⟨_, _, rfl, trivial, ⟨by omega, by omega⟩, HI.out, B.out, KK.out⟩
theorem spec_l20Key.D (n : Int) (hn : n ≤ 1000000) (w W0 : World) (g : Nat) (bs : List Int) (p : Int) (hI : IsS119 w W0 g bs p) (hB : Below w.heap.size w W0) (hc : Dw.Code bs) (h0 : 0 ≤ p) (h1 : p ≤ 1099511000000) :
  Calls Try.prog 78 #[.pointer (some ⟨g, 0, none⟩), .int .i64 n] W0 fun e w' => ∃ x p', e = .returned (.string x) ∧ (True) ∧ Left w W0 g bs p 6 p' w' := by
 have B := Aside0.mk hB
 have HI := Aside0.mk hI
 have HC := Aside0.mk hc
 have KK := Aside0.mk (Kept.refl W0 (RB g))
 clear hB hI hc
 go_enter Try.func78, Try.ntmps78
 go_wp2_with (first
  | (go_at_call 99; (with_reducible refine cg1 (spec_l20Rd_odd.D n (by omega) w _ g bs p HI.out B.out HC.out (by omega) (by omega)) fun x1 p1 hx1 hp1 w1 hk B HI2 => ?_); replace KK := kkr KK hk; replace HI := HI2; clear hk; skip)
  | ((with_reducible refine gate_dst (N := 10) rfl ?_); refine lt Kd.string 9 ?hg (N := 10) ?hd ([((⟨#[]⟩ : ByteArray)), ((⟨#[65]⟩ : ByteArray)), ((⟨#[97, 49]⟩ : ByteArray)), ((⟨#[97, 98, 99, 100, 101]⟩ : ByteArray)), ((⟨#[98, 123]⟩ : ByteArray)), ((⟨#[97, 32, 98]⟩ : ByteArray))] : List ByteArray) [.string (⟨#[]⟩ : ByteArray), .string (⟨#[65]⟩ : ByteArray), .string (⟨#[97, 49]⟩ : ByteArray), .string (⟨#[97, 98, 99, 100, 101]⟩ : ByteArray), .string (⟨#[98, 123]⟩ : ByteArray), .string (⟨#[97, 32, 98]⟩ : ByteArray)] ?hr (Reps.one (show Kd.M Kd.string _ _ _ ((⟨#[]⟩ : ByteArray)) [.string (⟨#[]⟩ : ByteArray)] from rfl) (Reps.one (show Kd.M Kd.string _ _ _ ((⟨#[65]⟩ : ByteArray)) [.string (⟨#[65]⟩ : ByteArray)] from rfl) (Reps.one (show Kd.M Kd.string _ _ _ ((⟨#[97, 49]⟩ : ByteArray)) [.string (⟨#[97, 49]⟩ : ByteArray)] from rfl) (Reps.one (show Kd.M Kd.string _ _ _ ((⟨#[97, 98, 99, 100, 101]⟩ : ByteArray)) [.string (⟨#[97, 98, 99, 100, 101]⟩ : ByteArray)] from rfl) (Reps.one (show Kd.M Kd.string _ _ _ ((⟨#[98, 123]⟩ : ByteArray)) [.string (⟨#[98, 123]⟩ : ByteArray)] from rfl) (Reps.one (show Kd.M Kd.string _ _ _ ((⟨#[97, 32, 98]⟩ : ByteArray)) [.string (⟨#[97, 32, 98]⟩ : ByteArray)] from rfl) (Reps.none _ _))))))) (by simp) B ?_; (case hd | hg => rfl); (case hr => go_simp; first | done | rfl); intro z10 hz10 AL10 kL10 w51 hb B RL10 QL10; have MRL10 := mrf QL10 KK; replace HI := hib HI hb; replace KK := kkb KK hb; clear hb QL10)
  | (go_at_call 79; (with_reducible refine cg1 (spec_l20Rd_pick.D 6 w _ g bs p1 HI.out B.out HC.out (by omega) (by omega)) fun x52 p52 hx52 hp52 w52 hk B HI2 => ?_); replace RL10 := rkr RL10 HI (by decide) hk; replace KK := kkr KK hk; replace HI := HI2; clear hk; skip; have hi52 : x52 < (z10.length : Int) := (by rw [← hz10]; have := hx52.2.1 (by omega); simpa using this); obtain ⟨ad52, hA52, y52⟩ := Kd.at_string (rc RL10) x52 hx52.1 hi52; have hj52 := hx52.1; generalize rdOf ByteArray.empty z10 x52 = s52 at *; cases hA52; have j52 := eq_true hj52; have i52 := eq_true hi52)
  | (go_at_call 79; (with_reducible refine cg1 (spec_l20Rd_pick.D 12 w _ g bs p1 HI.out B.out HC.out (by omega) (by omega)) fun x101 p101 hx101 hp101 w101 hk B HI2 => ?_); replace KK := kkr KK hk; replace HI := HI2; clear hk; skip)
  | ((with_reducible refine gate_dst (N := 18) rfl ?_); refine lt Kd.string 9 ?hg (N := 18) ?hd ([((⟨#[122, 122, 122, 122]⟩ : ByteArray)), ((⟨#[122, 122, 122]⟩ : ByteArray)), ((⟨#[97, 122, 122, 122]⟩ : ByteArray)), ((⟨#[122]⟩ : ByteArray)), ((⟨#[97, 97, 97, 97]⟩ : ByteArray))] : List ByteArray) [.string (⟨#[122, 122, 122, 122]⟩ : ByteArray), .string (⟨#[122, 122, 122]⟩ : ByteArray), .string (⟨#[97, 122, 122, 122]⟩ : ByteArray), .string (⟨#[122]⟩ : ByteArray), .string (⟨#[97, 97, 97, 97]⟩ : ByteArray)] ?hr (Reps.one (show Kd.M Kd.string _ _ _ ((⟨#[122, 122, 122, 122]⟩ : ByteArray)) [.string (⟨#[122, 122, 122, 122]⟩ : ByteArray)] from rfl) (Reps.one (show Kd.M Kd.string _ _ _ ((⟨#[122, 122, 122]⟩ : ByteArray)) [.string (⟨#[122, 122, 122]⟩ : ByteArray)] from rfl) (Reps.one (show Kd.M Kd.string _ _ _ ((⟨#[97, 122, 122, 122]⟩ : ByteArray)) [.string (⟨#[97, 122, 122, 122]⟩ : ByteArray)] from rfl) (Reps.one (show Kd.M Kd.string _ _ _ ((⟨#[122]⟩ : ByteArray)) [.string (⟨#[122]⟩ : ByteArray)] from rfl) (Reps.one (show Kd.M Kd.string _ _ _ ((⟨#[97, 97, 97, 97]⟩ : ByteArray)) [.string (⟨#[97, 97, 97, 97]⟩ : ByteArray)] from rfl) (Reps.none _ _)))))) (by simp) B ?_; (case hd | hg => rfl); (case hr => go_simp; first | done | rfl); intro z18 hz18 AL18 kL18 w201 hb B RL18 QL18; have MRL18 := mrf QL18 KK; replace HI := hib HI hb; replace KK := kkb KK hb; clear hb QL18)
  | (go_at_call 79; (with_reducible refine cg1 (spec_l20Rd_pick.D 5 w _ g bs p101 HI.out B.out HC.out (by omega) (by omega)) fun x202 p202 hx202 hp202 w202 hk B HI2 => ?_); replace RL18 := rkr RL18 HI (by decide) hk; replace KK := kkr KK hk; replace HI := HI2; clear hk; skip; have hi202 : x202 < (z18.length : Int) := (by rw [← hz18]; have := hx202.2.1 (by omega); simpa using this); obtain ⟨ad202, hA202, y202⟩ := Kd.at_string (rc RL18) x202 hx202.1 hi202; have hj202 := hx202.1; generalize rdOf ByteArray.empty z18 x202 = s202 at *; cases hA202; have j202 := eq_true hj202; have i202 := eq_true hi202)
  | (go_at_call 79; (with_reducible refine cg1 (spec_l20Rd_pick.D 2 w _ g bs p101 HI.out B.out HC.out (by omega) (by omega)) fun x251 p251 hx251 hp251 w251 hk B HI2 => ?_); replace KK := kkr KK hk; replace HI := HI2; clear hk; skip; refine Stop.out ?_))
 all_goals try (go_ret; exact ⟨_, _, rfl, trivial, ⟨by omega, by omega⟩, HI.out, B.out, KK.out⟩; done)
 refine ⟨?_⟩
 have hc0 := hx251.1
 have hc1 := hx251.2.1 (by omega)
 obtain ⟨m0, hm0⟩ : ∃ m : Nat, 1 + x251 = (m : Int) := ⟨(1 + x251).toNat, by omega⟩
 go_wp2
 go_loopg [5, 6] (m0 + 1) (fun kx v5 v6 wr => ∃ (m : Nat) (s : ByteArray) (pp : Int), v5 = .string s ∧ v6 = .int .i64 (m : Int) ∧ m < kx ∧ m ≤ 2 ∧ s.size + m ≤ 4 ∧ (p ≤ pp ∧ pp + (m : Int) ≤ p + 6) ∧ Aside0 (IsS119 w wr g bs pp) ∧ Aside0 (Kept W0 wr (RB g)) ∧ Aside0 (Below w.heap.size w wr))
 case atStart => exact ⟨m0, _, _, rfl, congrArg (Value.int .i64) (by omega), by omega, by omega, by show 0 + m0 ≤ 4; omega, by omega, HI, KK, B⟩
 case round =>
  clear HI KK B hm0
  obtain ⟨m, s, pp, rfl, rfl, hm, hm2, hsz, hpp, HI, KK, B⟩ := hrel
  by_cases hp : 0 < m
  ·obtain ⟨d, rfl⟩ : ∃ d, gk = d + 1 := ⟨gk - 1, by omega⟩
   have cj : decide ((0 : Int) < (m : Int)) = true := decide_eq_true (by omega)
   go_wp2_with (first
    | (go_at_call 79; (with_reducible refine cg1 (spec_l20Rd_pick.D 4 w _ g bs pp HI.out B.out HC.out (by omega) (by omega)) fun x301 p301 hx301 hp301 w301 hk B HI2 => ?_); replace KK := kkr KK hk; replace HI := HI2; clear hk; skip)
    | ((with_reducible refine gate_dst (N := 35) rfl ?_); refine lt (Kd.int .u8) 5 ?hg (N := 35) ?hd ([((97 + x301))] : List Int) [.int .u8 ((97 + x301))] ?hr (Reps.one (show Kd.M (Kd.int .u8) _ _ _ ((97 + x301)) [.int .u8 ((97 + x301))] from rfl) (Reps.none _ _)) (by simp) B ?_; (case hd | hg => rfl); (case hr => go_simp; first | done | rfl); intro z35 hz35 AL35 kL35 w302 hb B RL35 QL35; have MRL35 := mrf QL35 KK; replace HI := hib HI hb; replace KK := kkb KK hb; clear hb QL35; have hcv35 := own_string (P := Try.prog) Try.underlying38 Try.underlying5 Try.underlying9 (Kd.own_of_R RL35.out); have hsz35 : (strOfNums z35).size = 1 := (by rw [← hz35]; rw [strOfNums_size]; rfl); have hle35 : decide (s.size + (strOfNums z35).size ≤ 9223372036854775807) = true := decide_eq_true (by omega)))
   go_roundg d
   case measure => omega
   case rel => exact ⟨m - 1, _, _, rfl, congrArg (Value.int .i64) (by omega), by omega, by omega, by rw [ByteArray.size_append, hsz35]; omega, by omega, HI, KK, B⟩
  ·have cj : decide ((0 : Int) < (m : Int)) = false := decide_eq_false (by omega)
   go_wp2
   go_ret
   exact ⟨_, _, rfl, trivial, ⟨by omega, by omega⟩, HI.out, B.out, KK.out⟩

theorem atP_step {l : List S61} {j : Nat} {c : ByteArray} (h : ∀ i (hi : i < l.length), i < j → ltB l[i].f0 c = true) (hj : j ≤ l.length) (hs : ∀ hl : j < l.length, ltB l[j].f0 c = false) : atP l c = j := take_len l j hj h hs
theorem spec_l4Place.M (A0 : Option Addr) (c0 : Nat) (l : List S61) (c : ByteArray) (w : World) (hr0 : Kd.C k61 w A0 l.length l) : Calls Try.prog 123 #[.slice A0 l.length c0, .string c] w fun e w' => e = .returned (.int .i64 ((atP l c : Nat) : Int)) ∧ Below w.heap.size w w' := by
 have B := Aside0.mk (Below.refl w.heap.size w)
 have HR0 := Aside0.mk hr0
 have L63 := Aside0.mk hr0.2.1
 clear hr0
 go_enter Try.func123, Try.ntmps123
 go_wp2
 go_loopg [5] (l.length + 1) (fun kx v5 wr => ∃ j : Nat, v5 = .int .i64 (j : Int) ∧ j ≤ l.length ∧ l.length < j + kx ∧ Aside0 (Below w.heap.size w wr) ∧ Aside0 (∀ i (hi : i < l.length), i < j → ltB l[i].f0 c = true))
 case atStart => exact ⟨0, rfl, by omega, by omega, B, ⟨fun i _ h => absurd h (Nat.not_lt_zero _)⟩⟩
 case round =>
  clear B
  obtain ⟨j, rfl, hj, hk, B, H⟩ := hrel
  have h63 := L63.out
  by_cases hlt : j < l.length
  ·obtain ⟨d, rfl⟩ : ∃ d, gk = d + 1 := ⟨gk - 1, by omega⟩
   have cj : decide ((j : Int) < (l.length : Int)) = true := decide_eq_true (by omega)
   obtain ⟨ad, hA, y0, y1⟩ := at_T61 (cb HR0 B) (j : Int) (by omega) (by omega)
   cases hA
   rw [Int.toNat_natCast] at y0 y1
   have j1 := eq_true (show (j : Int) < (l.length : Int) by omega)
   have j2 := eq_true hlt
   have hy : rd_T61 l (j : Int) = l[j] := pr_nat hlt
   generalize rd_T61 l (j : Int) = y at *
   have HY := Aside0.mk hy
   clear hy
   cases hb : Op.bytesLess y.f0.toList c.toList with
   | true =>
    go_wp2
    go_roundg d
    case measure => omega
    case rel => exact ⟨j + 1, congrArg (Value.int .i64) (Int.natCast_succ _).symm, by omega, by omega, B, ⟨fun i hi h => by
     rcases Nat.lt_or_eq_of_le (show i ≤ j by omega) with h' | h'
     ·exact H.out i hi h'
     ·subst h'; rw [← HY.out]; exact hb⟩⟩
   | false =>
    have hr := atP_step H.out hj (fun _ => by rw [← HY.out]; exact hb)
    go_wp2
    go_ret
    exact ⟨by rw [hr]; rfl, B.out⟩
  ·have cj : decide ((j : Int) < (l.length : Int)) = false := decide_eq_false (by omega)
   have hr := atP_step H.out hj (fun h => absurd h hlt)
   go_wp2
   go_ret
   exact ⟨by rw [hr]; rfl, B.out⟩

theorem spec_PairPut.M (A0 : Option Addr) (c0 : Nat) (l : List S61) (c : ByteArray) (v : Int) (w : World) (hr0 : Kd.C k61 w A0 l.length l) (hc0 : l.length ≤ c0) : Calls Try.prog 114 #[.slice A0 l.length c0, .string c, .int .i64 v] w fun e w' => ∃ v0, e = .returned (.tuple #[v0, .bool (putM l c v).2]) ∧ Kd.R k61 61 w' w.heap.size (fun _ => True) v0 (putM l c v).1 ∧ Below w.heap.size w w' := by
 have B := Aside0.mk (Below.refl w.heap.size w)
 have hu := Try.underlying61
 have HR0 := Aside0.mk hr0
 have HC0 := Aside0.mk hc0
 have L63 := Aside0.mk hr0.2.1
 clear hr0
 obtain ⟨i0, hif, _, hsz0, _⟩ := info_parts info61
 by_cases hvv : (prB l && (keyB c && l1B v 0 999)) = true
 ·have hu0 : putM l c v = if hitM l c then ((l.take (atP l c) ++ [⟨c, v⟩]) ++ l.drop (atP l c + 1), true) else if 48 ≤ l.length then (l, false) else ((l.take (atP l c) ++ [⟨c, v⟩]) ++ l.drop (atP l c), true) := if_pos hvv
  simp only [Bool.and_eq_true] at hvv
  obtain ⟨hv, hkv, hlv⟩ := hvv
  have h48 := prB_len hv
  have hat := atP_le l c
  cases hh : hitM l c with
  | true =>
   clear hif hsz0 hc0
   have hlt2 : decide (((atP l c : Nat) : Int) < (l.length : Int)) = true := decide_eq_true (by have := hit_true hh; omega)
   obtain ⟨hlt, hf0, hf⟩ := hit_true hh
   have j1 := eq_true (show ((atP l c : Nat) : Int) < (l.length : Int) by omega)
   have j2 := eq_true hlt
   have hM : putM l c v = ((l.take (atP l c) ++ [⟨c, v⟩]) ++ l.drop (atP l c + 1), true) := by rw [hu0, if_pos hh]
   go_enter Try.func114, Try.ntmps114
   go_wp2_with (first
    | ((with_reducible refine gate_dst (N := 10) rfl ?_); refine lt k61 61 ?hg (N := 10) ?hd ([] : List S61) [] ?hr (Reps.none _ _) (by simp) B ?_; (case hd | hg => rfl); (case hr => go_simp; first | done | rfl); intro z10 hz10 AL10 kL10 w1 hb B RL10 QL10; clear hb QL10)
    | (go_at_call 48; with_reducible refine cl (spec_PairsValid.M _ _ l _ (cb HR0 B)) B fun w2 hb B => ?_; replace RL10 := rn RL10 hb; clear hb)
    | (go_at_call 89; with_reducible refine cl (spec_KeyValid.M c _) B fun w3 hb B => ?_; replace RL10 := rn RL10 hb; clear hb)
    | (go_at_call 90; with_reducible refine cl (spec_l1In.M v 0 999 _) B fun w4 hb B => ?_; replace RL10 := rn RL10 hb; clear hb)
    | (go_at_call 123; with_reducible refine cl (spec_l4Place.M _ _ l c _ (cb HR0 B)) B fun w5 hb B => ?_; replace RL10 := rn RL10 hb; clear hb; (obtain ⟨ad, hA, y0, y1⟩ := at_T61 (cb HR0 B) ((atP l c : Nat) : Int) (Int.natCast_nonneg _) (Int.ofNat_lt.mpr hlt); cases hA; rw [Int.toNat_natCast] at y0 y1))
    | ((with_reducible refine gate_builtin (b := .append) (xs := #[.tmp 41, .tmp 42]) rfl ?_); at_builtin; refine apx k61 61 rfl (.tmp 41) (.tmp 42) 31 (.agg #[.string (⟨#[]⟩ : ByteArray), .int .i64 (0)]) 24 rfl Try.underlying31 info61 rfl (by decide) (by omega) rfl rfl RL10 (cb HR0 B) (fun x cs h => by rw [k61_open h]; exact k61_mkM _ _ _ x) (by rw [← hz10]; simp only [List.length_append, List.length_nil, List.length_cons, List.length_take, List.length_drop]; omega) B ?_; intro z43 hz43 AL43 kL43 w6 hg B RL43 hat; clear hg hat; (obtain ⟨g0, hA0, hg0⟩ := rform RL43 (by rw [← hz43, ← hz10, List.nil_append]; omega); subst hA0; have HLT : atP l c < z43.length := (by rw [← hz43, ← hz10, List.nil_append]; exact hlt); obtain ⟨cs, hcl, hMM, hcc, hfz⟩ := rcells z61 RL43 (atP l c) HLT; have hsz : k61.sz = 2 := rfl; obtain ⟨u0, hu0⟩ : ∃ u, cs[1]? = some u := ⟨_, List.getElem?_eq_getElem (by rw [hcl]; decide)⟩; have q0 := hcc 1 u0 hu0; have q1 := hfz 1; rw [hsz] at q0 q1; have j3 := eq_true (show ((atP l c : Nat) : Int) < (z43.length : Int) by omega); have j4 := eq_true HLT))
    | ((with_reducible refine gate_store (t := 3) (p := 48) rfl ?_); refine es (t := 3) (p := 48) (v := ?vo7) ?hg ?ho ?hn (atP l c) 1 [.int .i64 (v)] ⟨(z43.getD (atP l c) z61).f0, v⟩ ?hr RL43 HLT hcl hcc (Nat.le_of_ble_eq_true rfl) (by rw [k61_openM hMM]; exact k61_mkM _ _ _ _) B hg0 ?_; (case ho | hg | hn => rfl); (case hr => go_simp; first | done | rfl); intro w7 hgr B RL43; clear hgr))
   go_ret2; have hZ : z43.set (atP l c) ⟨(z43.getD (atP l c) z61).f0, v⟩ = (l.take (atP l c) ++ [⟨c, v⟩]) ++ l.drop (atP l c + 1) := (by rw [← hz43, ← hz10, List.nil_append, show (l.getD (atP l c) z61).f0 = c from hf0, List.set_eq_take_append_cons_drop, if_pos hlt]; simp); exact ⟨_, by rw [hM]; rfl, by rw [hM, ← hZ]; exact RL43.out, B.out⟩
  | false =>
   by_cases h8 : 48 ≤ l.length
   ·have d8 : decide ((48 : Int) ≤ (l.length : Int)) = true := decide_eq_true (by omega)
    have d9 := eq_true h8
    clear hif hsz0 hc0
    have hM : putM l c v = (l, false) := by rw [hu0, if_neg (by rw [hh]; simp), if_pos h8]
    by_cases hlt : atP l c < l.length
    ·skip
     have hf := hit_false hh hlt
     have j1 := eq_true (show ((atP l c : Nat) : Int) < (l.length : Int) by omega)
     have j2 := eq_true hlt
     have hlt2 : decide (((atP l c : Nat) : Int) < (l.length : Int)) = true := decide_eq_true (by omega)
     go_enter Try.func114, Try.ntmps114
     go_wp2_with (first
      | ((with_reducible refine gate_dst (N := 10) rfl ?_); refine lt k61 61 ?hg (N := 10) ?hd ([] : List S61) [] ?hr (Reps.none _ _) (by simp) B ?_; (case hd | hg => rfl); (case hr => go_simp; first | done | rfl); intro z10 hz10 AL10 kL10 w1 hb B RL10 QL10; clear hb QL10)
      | (go_at_call 48; with_reducible refine cl (spec_PairsValid.M _ _ l _ (cb HR0 B)) B fun w2 hb B => ?_; replace RL10 := rn RL10 hb; clear hb)
      | (go_at_call 89; with_reducible refine cl (spec_KeyValid.M c _) B fun w3 hb B => ?_; replace RL10 := rn RL10 hb; clear hb)
      | (go_at_call 90; with_reducible refine cl (spec_l1In.M v 0 999 _) B fun w4 hb B => ?_; replace RL10 := rn RL10 hb; clear hb)
      | (go_at_call 123; with_reducible refine cl (spec_l4Place.M _ _ l c _ (cb HR0 B)) B fun w5 hb B => ?_; replace RL10 := rn RL10 hb; clear hb; (obtain ⟨ad, hA, y0, y1⟩ := at_T61 (cb HR0 B) ((atP l c : Nat) : Int) (Int.natCast_nonneg _) (Int.ofNat_lt.mpr hlt); cases hA; rw [Int.toNat_natCast] at y0 y1))
      | ((with_reducible refine gate_builtin (b := .append) (xs := #[.tmp 53, .tmp 54]) rfl ?_); at_builtin; refine apx k61 61 rfl (.tmp 53) (.tmp 54) 31 (.agg #[.string (⟨#[]⟩ : ByteArray), .int .i64 (0)]) 24 rfl Try.underlying31 info61 rfl (by decide) (by omega) rfl rfl RL10 (cb HR0 B) (fun x cs h => by rw [k61_open h]; exact k61_mkM _ _ _ x) (by rw [← hz10]; simp only [List.length_append, List.length_nil, List.length_cons, List.length_take, List.length_drop]; omega) B ?_; intro z55 hz55 AL55 kL55 w6 hg B RL55 hat; clear hg hat))
     go_ret2; have hZ : z55 = l := (by rw [← hz55, ← hz10]; try simp); exact ⟨_, by rw [hM]; rfl, by rw [hM, ← hZ]; exact RL55.out, B.out⟩
    ·skip
     have hlt2 : decide (((atP l c : Nat) : Int) < (l.length : Int)) = false := decide_eq_false (by omega)
     go_enter Try.func114, Try.ntmps114
     go_wp2_with (first
      | ((with_reducible refine gate_dst (N := 10) rfl ?_); refine lt k61 61 ?hg (N := 10) ?hd ([] : List S61) [] ?hr (Reps.none _ _) (by simp) B ?_; (case hd | hg => rfl); (case hr => go_simp; first | done | rfl); intro z10 hz10 AL10 kL10 w1 hb B RL10 QL10; clear hb QL10)
      | (go_at_call 48; with_reducible refine cl (spec_PairsValid.M _ _ l _ (cb HR0 B)) B fun w2 hb B => ?_; replace RL10 := rn RL10 hb; clear hb)
      | (go_at_call 89; with_reducible refine cl (spec_KeyValid.M c _) B fun w3 hb B => ?_; replace RL10 := rn RL10 hb; clear hb)
      | (go_at_call 90; with_reducible refine cl (spec_l1In.M v 0 999 _) B fun w4 hb B => ?_; replace RL10 := rn RL10 hb; clear hb)
      | (go_at_call 123; with_reducible refine cl (spec_l4Place.M _ _ l c _ (cb HR0 B)) B fun w5 hb B => ?_; replace RL10 := rn RL10 hb; clear hb)
      | ((with_reducible refine gate_builtin (b := .append) (xs := #[.tmp 53, .tmp 54]) rfl ?_); at_builtin; refine apx k61 61 rfl (.tmp 53) (.tmp 54) 31 (.agg #[.string (⟨#[]⟩ : ByteArray), .int .i64 (0)]) 24 rfl Try.underlying31 info61 rfl (by decide) (by omega) rfl rfl RL10 (cb HR0 B) (fun x cs h => by rw [k61_open h]; exact k61_mkM _ _ _ x) (by rw [← hz10]; simp only [List.length_append, List.length_nil, List.length_cons, List.length_take, List.length_drop]; omega) B ?_; intro z55 hz55 AL55 kL55 w6 hg B RL55 hat; clear hg hat))
     go_ret2; have hZ : z55 = l := (by rw [← hz55, ← hz10]; try simp); exact ⟨_, by rw [hM]; rfl, by rw [hM, ← hZ]; exact RL55.out, B.out⟩
   ·have d8 : decide ((48 : Int) ≤ (l.length : Int)) = false := decide_eq_false (by omega)
    have d9 := eq_false h8
    have hcut1 := cut_to (P := Try.prog) 31 61 .i64 Try.underlying31 hif A0 l.length c0 ((atP l c : Nat) : Int) (by omega) (by omega) hc0
    rw [Int.toNat_natCast] at hcut1
    have C1 := Aside0.mk (fun {W : World} (h : Kd.C k61 W A0 l.length l) => show Kd.C k61 W A0 (atP l c) (l.take (atP l c)) from by
     have := Kd.C_take h (m := atP l c) (by omega)
     rwa [List.length_take, Nat.min_eq_left (by omega)] at this)
    have hcut2 := cut_from (P := Try.prog) 31 61 .i64 Try.underlying31 hif 2 hsz0 A0 l.length c0 (((atP l c : Nat) : Int)) (by omega) (by omega)
    rw [show (((atP l c : Nat) : Int)).toNat = atP l c by omega] at hcut2
    obtain ⟨A2, hA2⟩ : ∃ A2, A2 = (if c0 = atP l c then A0 else A0.map (·.add ((atP l c) * 2))) := ⟨_, rfl⟩
    rw [← hA2] at hcut2
    have C2 := Aside0.mk (fun {W : World} (h : Kd.C k61 W A0 l.length l) => show Kd.C k61 W A2 (l.length - (atP l c)) (l.drop (atP l c)) from by
     have := Kd.C_drop h (m := atP l c) (c := c0) (by omega) hc0
     rw [List.length_drop] at this
     rw [hA2]
     exact this)
    clear hA2
    clear hif hsz0 hc0
    have hM : putM l c v = ((l.take (atP l c) ++ [⟨c, v⟩]) ++ l.drop (atP l c), true) := by rw [hu0, if_neg (by rw [hh]; simp), if_neg h8]
    by_cases hlt : atP l c < l.length
    ·skip
     have hf := hit_false hh hlt
     have j1 := eq_true (show ((atP l c : Nat) : Int) < (l.length : Int) by omega)
     have j2 := eq_true hlt
     have hlt2 : decide (((atP l c : Nat) : Int) < (l.length : Int)) = true := decide_eq_true (by omega)
     go_enter Try.func114, Try.ntmps114
     go_wp2_with (first
      | ((with_reducible refine gate_dst (N := 10) rfl ?_); refine lt k61 61 ?hg (N := 10) ?hd ([] : List S61) [] ?hr (Reps.none _ _) (by simp) B ?_; (case hd | hg => rfl); (case hr => go_simp; first | done | rfl); intro z10 hz10 AL10 kL10 w1 hb B RL10 QL10; clear hb QL10)
      | (go_at_call 48; with_reducible refine cl (spec_PairsValid.M _ _ l _ (cb HR0 B)) B fun w2 hb B => ?_; replace RL10 := rn RL10 hb; clear hb)
      | (go_at_call 89; with_reducible refine cl (spec_KeyValid.M c _) B fun w3 hb B => ?_; replace RL10 := rn RL10 hb; clear hb)
      | (go_at_call 90; with_reducible refine cl (spec_l1In.M v 0 999 _) B fun w4 hb B => ?_; replace RL10 := rn RL10 hb; clear hb)
      | (go_at_call 123; with_reducible refine cl (spec_l4Place.M _ _ l c _ (cb HR0 B)) B fun w5 hb B => ?_; replace RL10 := rn RL10 hb; clear hb; (obtain ⟨ad, hA, y0, y1⟩ := at_T61 (cb HR0 B) ((atP l c : Nat) : Int) (Int.natCast_nonneg _) (Int.ofNat_lt.mpr hlt); cases hA; rw [Int.toNat_natCast] at y0 y1))
      | ((with_reducible refine gate_builtin (b := .append) (xs := #[.tmp 56, .tmp 59]) rfl ?_); at_builtin; refine apx k61 61 rfl (.tmp 56) (.tmp 59) 31 (.agg #[.string (⟨#[]⟩ : ByteArray), .int .i64 (0)]) 24 rfl Try.underlying31 info61 rfl (by decide) (by omega) rfl rfl RL10 (C1.out (cb HR0 B)) (fun x cs h => by rw [k61_open h]; exact k61_mkM _ _ _ x) (by rw [← hz10]; simp only [List.length_append, List.length_nil, List.length_cons, List.length_take, List.length_drop]; omega) B ?_; intro z60 hz60 AL60 kL60 w6 hg B RL60 hat; clear hg hat)
      | ((with_reducible refine gate_dst (N := 65) rfl ?_); refine lt k61 61 ?hg (N := 65) ?hd ([⟨c, v⟩] : List S61) [.string c, .int .i64 (v)] ?hr (Reps.c2 (k61_mkM _ _ _ ⟨c, v⟩) (Reps.none _ _)) (by simp) B ?_; (case hd | hg => rfl); (case hr => go_simp; first | done | rfl); intro z65 hz65 AL65 kL65 w7 hb B RL65 QL65; replace RL60 := rn RL60 hb; clear hb QL65)
      | ((with_reducible refine gate_builtin (b := .append) (xs := #[.tmp 61, .tmp 65]) rfl ?_); at_builtin; refine apx k61 61 rfl (.tmp 61) (.tmp 65) 31 (.agg #[.string (⟨#[]⟩ : ByteArray), .int .i64 (0)]) 24 rfl Try.underlying31 info61 rfl (by decide) (by omega) rfl rfl RL60 (rc RL65) (fun x cs h => by rw [k61_open h]; exact k61_mkM _ _ _ x) (by rw [← hz65, ← hz60, ← hz10]; simp only [List.length_append, List.length_nil, List.length_cons, List.length_take, List.length_drop]; omega) B ?_; intro z66 hz66 AL66 kL66 w8 hg B RL66 hat; clear hg hat)
      | ((with_reducible refine gate_builtin (b := .append) (xs := #[.tmp 67, .tmp 70]) rfl ?_); at_builtin; refine apx k61 61 rfl (.tmp 67) (.tmp 70) 31 (.agg #[.string (⟨#[]⟩ : ByteArray), .int .i64 (0)]) 24 rfl Try.underlying31 info61 rfl (by decide) (by omega) rfl rfl RL66 (C2.out (cb HR0 B)) (fun x cs h => by rw [k61_open h]; exact k61_mkM _ _ _ x) (by rw [← hz66, ← hz65, ← hz60, ← hz10]; simp only [List.length_append, List.length_nil, List.length_cons, List.length_take, List.length_drop]; omega) B ?_; intro z71 hz71 AL71 kL71 w9 hg B RL71 hat; clear hg hat))
     go_ret2; have hZ : z71 = (l.take (atP l c) ++ [⟨c, v⟩]) ++ l.drop (atP l c) := (by rw [← hz71, ← hz66, ← hz65, ← hz60, ← hz10]; try simp); exact ⟨_, by rw [hM]; rfl, by rw [hM, ← hZ]; exact RL71.out, B.out⟩
    ·skip
     have hlt2 : decide (((atP l c : Nat) : Int) < (l.length : Int)) = false := decide_eq_false (by omega)
     go_enter Try.func114, Try.ntmps114
     go_wp2_with (first
      | ((with_reducible refine gate_dst (N := 10) rfl ?_); refine lt k61 61 ?hg (N := 10) ?hd ([] : List S61) [] ?hr (Reps.none _ _) (by simp) B ?_; (case hd | hg => rfl); (case hr => go_simp; first | done | rfl); intro z10 hz10 AL10 kL10 w1 hb B RL10 QL10; clear hb QL10)
      | (go_at_call 48; with_reducible refine cl (spec_PairsValid.M _ _ l _ (cb HR0 B)) B fun w2 hb B => ?_; replace RL10 := rn RL10 hb; clear hb)
      | (go_at_call 89; with_reducible refine cl (spec_KeyValid.M c _) B fun w3 hb B => ?_; replace RL10 := rn RL10 hb; clear hb)
      | (go_at_call 90; with_reducible refine cl (spec_l1In.M v 0 999 _) B fun w4 hb B => ?_; replace RL10 := rn RL10 hb; clear hb)
      | (go_at_call 123; with_reducible refine cl (spec_l4Place.M _ _ l c _ (cb HR0 B)) B fun w5 hb B => ?_; replace RL10 := rn RL10 hb; clear hb)
      | ((with_reducible refine gate_builtin (b := .append) (xs := #[.tmp 56, .tmp 59]) rfl ?_); at_builtin; refine apx k61 61 rfl (.tmp 56) (.tmp 59) 31 (.agg #[.string (⟨#[]⟩ : ByteArray), .int .i64 (0)]) 24 rfl Try.underlying31 info61 rfl (by decide) (by omega) rfl rfl RL10 (C1.out (cb HR0 B)) (fun x cs h => by rw [k61_open h]; exact k61_mkM _ _ _ x) (by rw [← hz10]; simp only [List.length_append, List.length_nil, List.length_cons, List.length_take, List.length_drop]; omega) B ?_; intro z60 hz60 AL60 kL60 w6 hg B RL60 hat; clear hg hat)
      | ((with_reducible refine gate_dst (N := 65) rfl ?_); refine lt k61 61 ?hg (N := 65) ?hd ([⟨c, v⟩] : List S61) [.string c, .int .i64 (v)] ?hr (Reps.c2 (k61_mkM _ _ _ ⟨c, v⟩) (Reps.none _ _)) (by simp) B ?_; (case hd | hg => rfl); (case hr => go_simp; first | done | rfl); intro z65 hz65 AL65 kL65 w7 hb B RL65 QL65; replace RL60 := rn RL60 hb; clear hb QL65)
      | ((with_reducible refine gate_builtin (b := .append) (xs := #[.tmp 61, .tmp 65]) rfl ?_); at_builtin; refine apx k61 61 rfl (.tmp 61) (.tmp 65) 31 (.agg #[.string (⟨#[]⟩ : ByteArray), .int .i64 (0)]) 24 rfl Try.underlying31 info61 rfl (by decide) (by omega) rfl rfl RL60 (rc RL65) (fun x cs h => by rw [k61_open h]; exact k61_mkM _ _ _ x) (by rw [← hz65, ← hz60, ← hz10]; simp only [List.length_append, List.length_nil, List.length_cons, List.length_take, List.length_drop]; omega) B ?_; intro z66 hz66 AL66 kL66 w8 hg B RL66 hat; clear hg hat)
      | ((with_reducible refine gate_builtin (b := .append) (xs := #[.tmp 67, .tmp 70]) rfl ?_); at_builtin; refine apx k61 61 rfl (.tmp 67) (.tmp 70) 31 (.agg #[.string (⟨#[]⟩ : ByteArray), .int .i64 (0)]) 24 rfl Try.underlying31 info61 rfl (by decide) (by omega) rfl rfl RL66 (C2.out (cb HR0 B)) (fun x cs h => by rw [k61_open h]; exact k61_mkM _ _ _ x) (by rw [← hz66, ← hz65, ← hz60, ← hz10]; simp only [List.length_append, List.length_nil, List.length_cons, List.length_take, List.length_drop]; omega) B ?_; intro z71 hz71 AL71 kL71 w9 hg B RL71 hat; clear hg hat))
     go_ret2; have hZ : z71 = (l.take (atP l c) ++ [⟨c, v⟩]) ++ l.drop (atP l c) := (by rw [← hz71, ← hz66, ← hz65, ← hz60, ← hz10]; try simp); exact ⟨_, by rw [hM]; rfl, by rw [hM, ← hZ]; exact RL71.out, B.out⟩
 ·have hM : putM l c v = ([], false) := if_neg hvv
  have hvn : prB l = false ∨ keyB c = false ∨ l1B v 0 999 = false := by grind
  clear hif hsz0 hc0
  go_enter Try.func114, Try.ntmps114
  go_wp2_with (first
   | ((with_reducible refine gate_dst (N := 10) rfl ?_); refine lt k61 61 ?hg (N := 10) ?hd ([] : List S61) [] ?hr (Reps.none _ _) (by simp) B ?_; (case hd | hg => rfl); (case hr => go_simp; first | done | rfl); intro z10 hz10 AL10 kL10 w1 hb B RL10 QL10; clear hb QL10)
   | (go_at_call 48; with_reducible refine cl (spec_PairsValid.M _ _ l _ (cb HR0 B)) B fun w2 hb B => ?_; replace RL10 := rn RL10 hb; clear hb)
   | (go_at_call 89; with_reducible refine cl (spec_KeyValid.M c _) B fun w3 hb B => ?_; replace RL10 := rn RL10 hb; clear hb)
   | (go_at_call 90; with_reducible refine cl (spec_l1In.M v 0 999 _) B fun w4 hb B => ?_; replace RL10 := rn RL10 hb; clear hb))
  all_goals first
   | (go_ret2; have hZ : z10 = [] := (by rw [← hz10]; try simp); exact ⟨_, by rw [hM]; rfl, by rw [hM, ← hZ]; exact RL10.out, B.out⟩)
   | (exfalso; grind)

/-! A pair put makes one more at most. -/
theorem putM_len (l : List S61) (c : ByteArray) (v : Int) : (putM l c v).1.length ≤ l.length + 1 := by
  unfold putM
  have hat := atP_le l c
  split
  · split
    · simp only [List.length_append, List.length_take, List.length_drop, List.length_cons, List.length_nil]; omega
    · split
      · simp only; omega
      · simp only [List.length_append, List.length_take, List.length_drop, List.length_cons, List.length_nil]; omega
  · simp

end Go.Proofs.Ytenfiihcdhnamaa.PFnStateCut
