/- Walks over models, part 3: lawFnStateCut. -/
import Derived.Test.YtenfiihcdhnamaaPFnStateCutx0
import Derived.Deep.RegionHeld3
import Derived.Lib.Strings
import Derived.Laws.BytesArg
import Derived.Test.YtenfiihcdhnamaaPFnStateCutx19
import Derived.Test.YtenfiihcdhnamaaPFnStateCutx56
import Derived.Test.YtenfiihcdhnamaaPFnStateCutx18
import Derived.Test.YtenfiihcdhnamaaPFnStateCutx39
import Derived.Test.YtenfiihcdhnamaaPFnStateCutx40
import Derived.Test.YtenfiihcdhnamaaPFnStateCutx38
import Derived.Test.YtenfiihcdhnamaaPFnStateCutx46
import Derived.Test.YtenfiihcdhnamaaPFnStateCutx45
import Derived.Test.YtenfiihcdhnamaaMFnStateCut0
import Derived.Test.YtenfiihcdhnamaaMFnStateCut1
import Derived.Test.YtenfiihcdhnamaaMFnStateCut2
namespace Go.Proofs.Ytenfiihcdhnamaa.PFnStateCut
open Go.RowKit Go.Proofs.YtenfiihcdhnamaaW.PrintWords Go.Proofs.YtenfiihcdhnamaaW.PrintLast Go.Proofs.YtenfiihcdhnamaaW.PrintMore
set_option linter.unusedVariables false
set_option linter.unusedSimpArgs false
set_option maxHeartbeats 4000000
set_option maxRecDepth 100000
attribute [local go_sem] leq_str geq_str gtr_str
def laws_FnStateCut.T15 : Bool × List (List Nat × List Nat) := (true, [([], []), ([0], [0]), ([], []), ([2], [2]), ([], []), ([3, 4], [3, 4]), ([5], [5]), ([6], [6]), ([1, 7], [1, 7]), ([8, 8, 0, 1, 2, 3, 4, 5, 6, 7, 8], [8])])
def laws_FnStateCut.B15 : List Nat := [0, 1, 0, 4, 0, 28, 60, 124, 255, 511]
theorem laws_FnStateCut.tab15 : rtab .any (opsOf Try.f8 15) = laws_FnStateCut.T15 := by kernel_rfl
theorem laws_FnStateCut.bits15 : waitsOk laws_FnStateCut.T15.2 laws_FnStateCut.B15 = true := by kernel_rfl
def laws_FnStateCut.T16 : Bool × List (List Nat × List Nat) := (true, [([], []), ([0], [0]), ([], []), ([2], [2]), ([], []), ([3, 4], [3, 4]), ([5], [5]), ([6], [6]), ([1, 7], [1, 7]), ([8, 8, 0, 1, 2, 3, 4, 5, 6, 7, 8], [8])])
def laws_FnStateCut.B16 : List Nat := [0, 1, 0, 4, 0, 28, 60, 124, 255, 511]
theorem laws_FnStateCut.tab16 : rtab .any (opsOf Try.f8 16) = laws_FnStateCut.T16 := by kernel_rfl
theorem laws_FnStateCut.bits16 : waitsOk laws_FnStateCut.T16.2 laws_FnStateCut.B16 = true := by kernel_rfl
def laws_FnStateCut.T17 : Bool × List (List Nat × List Nat) := (true, [([], []), ([0], [0]), ([], []), ([2], [2]), ([], []), ([3, 4], [3, 4]), ([5], [5]), ([6], [6]), ([1, 7], [1, 7]), ([8, 8], [8]), ([9], [9]), ([9], [9]), ([11, 9], [9, 11]), ([9], [9]), ([12, 13, 9], [9, 12, 13]), ([14, 9], [9, 14]), ([15, 9], [9, 15]), ([10, 16, 9], [9, 10, 16]), ([17, 9, 9], [9, 17]), ([18], [18]), ([19, 18], [18, 19]), ([18, 20, 9], [9, 18, 20]), ([9, 21], [9, 21]), ([22, 18], [22]), ([23], [23]), ([24, 23], [23, 24]), ([23], [23]), ([26, 23], [23, 26]), ([23], [23]), ([27, 28, 23], [23, 27, 28]), ([29, 23], [23, 29]), ([30, 23], [23, 30]), ([25, 31, 23, 23], [23, 25, 31]), ([32, 32, 23], [23, 32]), ([33], [33]), ([33], [33]), ([35, 33], [33, 35]), ([33], [33]), ([36, 37, 33], [33, 36, 37]), ([38, 33], [33, 38]), ([39, 33], [33, 39]), ([34, 40, 33], [33, 34, 40]), ([41, 33, 33], [33, 41]), ([42], [42]), ([43, 42], [42, 43]), ([42, 44, 33], [33, 42, 44]), ([33, 45, 23], [23, 33, 45]), ([23, 46], [23, 46])])
def laws_FnStateCut.B17 : List Nat := [0, 1, 0, 4, 0, 28, 60, 124, 255, 511, 1023, 1023, 3071, 1023, 15359, 31743, 64511, 131071, 262143, 524287, 1048575, 2097151, 4194303, 8388607, 16777215, 33554431, 16777215, 83886079, 16777215, 486539263, 1023410175, 2097151999, 4294967295, 8589934591, 17179869183, 17179869183, 51539607551, 17179869183, 257698037759, 532575944703, 1082331758591, 2199023255551, 4398046511103, 8796093022207, 17592186044415, 35184372088831, 70368744177663, 140737488355327]
theorem laws_FnStateCut.tab17 : rtab .any (opsOf Try.f8 17) = laws_FnStateCut.T17 := by kernel_rfl
theorem laws_FnStateCut.bits17 : waitsOk laws_FnStateCut.T17.2 laws_FnStateCut.B17 = true := by kernel_rfl
theorem laws_FnStateCut.M (A0 : Option Addr) (c0 : Nat) (l : List Int) (w : World) (hr0 : Kd.C (Kd.int .u8) w A0 l.length l) (hc0 : l.length ≤ c0) (hs : ∀ x ∈ l, (Lit.int .u8 x).wf = true) : Calls Try.prog 8 #[.slice A0 l.length c0] w fun e w' => e = .returned (.bool true) ∧ Below w.heap.size w w' := by
 have B := Aside0.mk (Below.refl w.heap.size w)
 have HR0 := Aside0.mk hr0
 have HC0 := Aside0.mk hc0
 clear hr0 hc0
 have hu := Try.underlying34
 have hu2 := Try.underlying30
 have HSL := Aside0.mk hs
 clear hs
 go_enter Try.func8, Try.ntmps8
 go_wp2_with (first
  | (go_at_call 34; (with_reducible refine cdst (spec_DrawStateCut.D A0 c0 l w HR0.out HC0.out HSL.out) B fun a b t c ps ss AP kP AS kS w0 hq hb B RP RS => ?_); clear hb; refine Stop.out ?_))
 ·go_ret
  exact ⟨rfl, B.out⟩
 refine ⟨?_⟩
 obtain ⟨hl1, hl2⟩ := hq
 have hb1 : ps.length ≤ 2097152 := by omega
 have hb2 : ss.length ≤ 2097152 := by omega
 cases hj : cutOk ⟨a, b, ps, ss, t, c⟩ with
 | false =>
  obtain ⟨zp, hzp⟩ : ∃ z : List S61, z = [] := ⟨[], rfl⟩
  obtain ⟨zs, hzs⟩ : ∃ z : List S100, z = [] := ⟨[], rfl⟩
  have HM := Aside0.mk (show csM ⟨a, b, ps, ss, t, c⟩ = (⟨⟨#[]⟩, ⟨#[]⟩, zp, zs, false, ⟨#[]⟩⟩, ⟨⟨#[]⟩, ⟨#[]⟩, zp, zs, false, ⟨#[]⟩⟩, false) by rw [hzp, hzs]; exact cs_bad hj)
  have hb5 : zp.length ≤ 2097152 := by rw [hzp]; exact Nat.zero_le _
  have hb6 : zs.length ≤ 2097152 := by rw [hzs]; exact Nat.zero_le _
  have HZP := Aside0.mk hzp
  have HZS := Aside0.mk hzs
  clear hzp hzs hj hl1 hl2
  go_wp2_with (first
   | ((with_reducible refine gate_dst (N := 3) rfl ?_); refine bx ?hg (N := 3) ?hd (cs := #[.string (⟨#[]⟩ : ByteArray), .string (⟨#[]⟩ : ByteArray), .slice none 0 0, .slice none 0 0, .bool false, .string (⟨#[]⟩ : ByteArray)]) (t := 34) ?hr B ?_; (case hd | hg => rfl); (case hr => go_simp; first | done | rfl); intro g3 w1 hb B F3 L3 E3; replace RP := rn RP hb; replace RS := rn RS hb; obtain ⟨c3_0, c3_1, c3_2, c3_3, c3_4, c3_5⟩ := cs6 F3; clear hb E3)
   | ((with_reducible refine gate_store (t := 34) (p := 3) rfl ?_); obtain ⟨y0, y1, y2, y3, y4, y5, z0, z1, z2, z3, z4, z5⟩ := cz6 F3; refine sx (t := 34) (t' := 34) (p := 3) (v := ?vo2) ?hg ?ho ?hn 0 [.string a, .string b, .slice AP ps.length kP, .slice AS ss.length kS, .bool t, .string c] [.string a, .string b, .slice AP ps.length kP, .slice AS ss.length kS, .bool t, .string c] ?hr B F3 L3 rfl (Nat.le_of_ble_eq_true rfl) ?_; (case ho | hg | hn => rfl); (case hr => go_simp; first | done | rfl); intro w2 hk B G; replace RP := rk RP F3 (by decide) hk; replace RS := rk RS F3 (by decide) hk; replace F3 := G; clear c3_0 c3_1 c3_2 c3_3 c3_4 c3_5; obtain ⟨c3_0, c3_1, c3_2, c3_3, c3_4, c3_5⟩ := cs6 F3; clear hk y0 z0 y1 z1 y2 z2 y3 z3 y4 z4 y5 z5)
   | (go_at_call 31; with_reducible refine c4r (impl_StateCut.Mr a b _ _ ps _ _ ss t c (⟨#[]⟩ : ByteArray) (⟨#[]⟩ : ByteArray) zp zs false (⟨#[]⟩ : ByteArray) (⟨#[]⟩ : ByteArray) (⟨#[]⟩ : ByteArray) zp zs false (⟨#[]⟩ : ByteArray) false HM.out _ (rc RP) (rc RS) (rl RP) (rl RS)) B fun AP3 kP3 AS3 kS3 AO3 kO3 AT3 kT3 w3 hb B RP3 QP3 RS3 QS3 RO3 QO3 RT3 QT3 DP3_O3 DS3_T3 => ?_; replace F3 := bn F3 hb; replace RP := rn RP hb; replace RS := rn RS hb; clear QP3 QS3 QO3 QT3; clear c3_0 c3_1 c3_2 c3_3 c3_4 c3_5; obtain ⟨c3_0, c3_1, c3_2, c3_3, c3_4, c3_5⟩ := cs6 F3; clear hb)
   | ((with_reducible refine gate_dst (N := 4) rfl ?_); refine bx ?hg (N := 4) ?hd (cs := #[.string (⟨#[]⟩ : ByteArray), .string (⟨#[]⟩ : ByteArray), .slice none 0 0, .slice none 0 0, .bool false, .string (⟨#[]⟩ : ByteArray)]) (t := 34) ?hr B ?_; (case hd | hg => rfl); (case hr => go_simp; first | done | rfl); intro g4 w4 hb B F4 L4 E4; have N3_4 := ne1 E4 F3; replace F3 := bn F3 hb; replace RP := rn RP hb; replace RS := rn RS hb; replace RP3 := rn RP3 hb; replace RS3 := rn RS3 hb; replace RO3 := rn RO3 hb; replace RT3 := rn RT3 hb; clear c3_0 c3_1 c3_2 c3_3 c3_4 c3_5; obtain ⟨c3_0, c3_1, c3_2, c3_3, c3_4, c3_5⟩ := cs6 F3; obtain ⟨c4_0, c4_1, c4_2, c4_3, c4_4, c4_5⟩ := cs6 F4; clear hb E4)
   | ((with_reducible refine gate_dst (N := 5) rfl ?_); refine bx ?hg (N := 5) ?hd (cs := #[.string (⟨#[]⟩ : ByteArray), .string (⟨#[]⟩ : ByteArray), .slice none 0 0, .slice none 0 0, .bool false, .string (⟨#[]⟩ : ByteArray)]) (t := 34) ?hr B ?_; (case hd | hg => rfl); (case hr => go_simp; first | done | rfl); intro g5 w5 hb B F5 L5 E5; have N3_5 := ne1 E5 F3; have N4_5 := ne1 E5 F4; replace F3 := bn F3 hb; replace F4 := bn F4 hb; replace RP := rn RP hb; replace RS := rn RS hb; replace RP3 := rn RP3 hb; replace RS3 := rn RS3 hb; replace RO3 := rn RO3 hb; replace RT3 := rn RT3 hb; clear c3_0 c3_1 c3_2 c3_3 c3_4 c3_5; obtain ⟨c3_0, c3_1, c3_2, c3_3, c3_4, c3_5⟩ := cs6 F3; clear c4_0 c4_1 c4_2 c4_3 c4_4 c4_5; obtain ⟨c4_0, c4_1, c4_2, c4_3, c4_4, c4_5⟩ := cs6 F4; obtain ⟨c5_0, c5_1, c5_2, c5_3, c5_4, c5_5⟩ := cs6 F5; clear hb E5)
   | ((with_reducible refine gate_store (t := 34) (p := 4) rfl ?_); obtain ⟨y0, y1, y2, y3, y4, y5, z0, z1, z2, z3, z4, z5⟩ := cz6 F4; refine sx (t := 34) (t' := 34) (p := 4) (v := ?vo6) ?hg ?ho ?hn 0 [.string (⟨#[]⟩ : ByteArray), .string (⟨#[]⟩ : ByteArray), .slice AP3 zp.length kP3, .slice AS3 zs.length kS3, .bool false, .string (⟨#[]⟩ : ByteArray)] [.string (⟨#[]⟩ : ByteArray), .string (⟨#[]⟩ : ByteArray), .slice AP3 zp.length kP3, .slice AS3 zs.length kS3, .bool false, .string (⟨#[]⟩ : ByteArray)] ?hr B F4 L4 rfl (Nat.le_of_ble_eq_true rfl) ?_; (case ho | hg | hn => rfl); (case hr => go_simp; first | done | rfl); intro w6 hk B G; replace F3 := bk F3 hk N3_4.out; replace F5 := bk F5 hk N4_5.out.symm; replace RP := rk RP F4 (by decide) hk; replace RS := rk RS F4 (by decide) hk; replace RP3 := rk RP3 F4 (by decide) hk; replace RS3 := rk RS3 F4 (by decide) hk; replace RO3 := rk RO3 F4 (by decide) hk; replace RT3 := rk RT3 F4 (by decide) hk; replace F4 := G; clear c3_0 c3_1 c3_2 c3_3 c3_4 c3_5; obtain ⟨c3_0, c3_1, c3_2, c3_3, c3_4, c3_5⟩ := cs6 F3; clear c4_0 c4_1 c4_2 c4_3 c4_4 c4_5; obtain ⟨c4_0, c4_1, c4_2, c4_3, c4_4, c4_5⟩ := cs6 F4; clear c5_0 c5_1 c5_2 c5_3 c5_4 c5_5; obtain ⟨c5_0, c5_1, c5_2, c5_3, c5_4, c5_5⟩ := cs6 F5; clear hk y0 z0 y1 z1 y2 z2 y3 z3 y4 z4 y5 z5)
   | ((with_reducible refine gate_store (t := 34) (p := 5) rfl ?_); obtain ⟨y0, y1, y2, y3, y4, y5, z0, z1, z2, z3, z4, z5⟩ := cz6 F5; refine sx (t := 34) (t' := 34) (p := 5) (v := ?vo7) ?hg ?ho ?hn 0 [.string (⟨#[]⟩ : ByteArray), .string (⟨#[]⟩ : ByteArray), .slice AO3 zp.length kO3, .slice AT3 zs.length kT3, .bool false, .string (⟨#[]⟩ : ByteArray)] [.string (⟨#[]⟩ : ByteArray), .string (⟨#[]⟩ : ByteArray), .slice AO3 zp.length kO3, .slice AT3 zs.length kT3, .bool false, .string (⟨#[]⟩ : ByteArray)] ?hr B F5 L5 rfl (Nat.le_of_ble_eq_true rfl) ?_; (case ho | hg | hn => rfl); (case hr => go_simp; first | done | rfl); intro w7 hk B G; replace F3 := bk F3 hk N3_5.out; replace F4 := bk F4 hk N4_5.out; replace RP := rk RP F5 (by decide) hk; replace RS := rk RS F5 (by decide) hk; replace RP3 := rk RP3 F5 (by decide) hk; replace RS3 := rk RS3 F5 (by decide) hk; replace RO3 := rk RO3 F5 (by decide) hk; replace RT3 := rk RT3 F5 (by decide) hk; replace F5 := G; clear c3_0 c3_1 c3_2 c3_3 c3_4 c3_5; obtain ⟨c3_0, c3_1, c3_2, c3_3, c3_4, c3_5⟩ := cs6 F3; clear c4_0 c4_1 c4_2 c4_3 c4_4 c4_5; obtain ⟨c4_0, c4_1, c4_2, c4_3, c4_4, c4_5⟩ := cs6 F4; clear c5_0 c5_1 c5_2 c5_3 c5_4 c5_5; obtain ⟨c5_0, c5_1, c5_2, c5_3, c5_4, c5_5⟩ := cs6 F5; clear hk y0 z0 y1 z1 y2 z2 y3 z3 y4 z4 y5 z5)
   | (go_at_call 30; with_reducible refine c4r (spec_StateCut.Mr a b _ _ ps _ _ ss t c (⟨#[]⟩ : ByteArray) (⟨#[]⟩ : ByteArray) zp zs false (⟨#[]⟩ : ByteArray) (⟨#[]⟩ : ByteArray) (⟨#[]⟩ : ByteArray) zp zs false (⟨#[]⟩ : ByteArray) false HM.out _ (rc RP) (rc RS) (rl RP) (rl RS)) B fun AP8 kP8 AS8 kS8 AO8 kO8 AT8 kT8 w8 hb B RP8 QP8 RS8 QS8 RO8 QO8 RT8 QT8 DP8_O8 DS8_T8 => ?_; replace F4 := bn F4 hb; replace F5 := bn F5 hb; replace RP3 := rn RP3 hb; replace RS3 := rn RS3 hb; replace RO3 := rn RO3 hb; replace RT3 := rn RT3 hb; clear QP8 QS8 QO8 QT8; clear c4_0 c4_1 c4_2 c4_3 c4_4 c4_5; obtain ⟨c4_0, c4_1, c4_2, c4_3, c4_4, c4_5⟩ := cs6 F4; clear c5_0 c5_1 c5_2 c5_3 c5_4 c5_5; obtain ⟨c5_0, c5_1, c5_2, c5_3, c5_4, c5_5⟩ := cs6 F5; clear hb)
   | ((with_reducible refine gate_dst (N := 7) rfl ?_); refine bx ?hg (N := 7) ?hd (cs := #[.string (⟨#[]⟩ : ByteArray), .string (⟨#[]⟩ : ByteArray), .slice none 0 0, .slice none 0 0, .bool false, .string (⟨#[]⟩ : ByteArray)]) (t := 34) ?hr B ?_; (case hd | hg => rfl); (case hr => go_simp; first | done | rfl); intro g7 w9 hb B F7 L7 E7; have N4_7 := ne1 E7 F4; have N5_7 := ne1 E7 F5; replace F4 := bn F4 hb; replace F5 := bn F5 hb; replace RP3 := rn RP3 hb; replace RS3 := rn RS3 hb; replace RO3 := rn RO3 hb; replace RT3 := rn RT3 hb; replace RP8 := rn RP8 hb; replace RS8 := rn RS8 hb; replace RO8 := rn RO8 hb; replace RT8 := rn RT8 hb; clear c4_0 c4_1 c4_2 c4_3 c4_4 c4_5; obtain ⟨c4_0, c4_1, c4_2, c4_3, c4_4, c4_5⟩ := cs6 F4; clear c5_0 c5_1 c5_2 c5_3 c5_4 c5_5; obtain ⟨c5_0, c5_1, c5_2, c5_3, c5_4, c5_5⟩ := cs6 F5; obtain ⟨c7_0, c7_1, c7_2, c7_3, c7_4, c7_5⟩ := cs6 F7; clear hb E7)
   | ((with_reducible refine gate_dst (N := 8) rfl ?_); refine bx ?hg (N := 8) ?hd (cs := #[.string (⟨#[]⟩ : ByteArray), .string (⟨#[]⟩ : ByteArray), .slice none 0 0, .slice none 0 0, .bool false, .string (⟨#[]⟩ : ByteArray)]) (t := 34) ?hr B ?_; (case hd | hg => rfl); (case hr => go_simp; first | done | rfl); intro g8 w10 hb B F8 L8 E8; have N4_8 := ne1 E8 F4; have N5_8 := ne1 E8 F5; have N7_8 := ne1 E8 F7; replace F4 := bn F4 hb; replace F5 := bn F5 hb; replace F7 := bn F7 hb; replace RP3 := rn RP3 hb; replace RS3 := rn RS3 hb; replace RO3 := rn RO3 hb; replace RT3 := rn RT3 hb; replace RP8 := rn RP8 hb; replace RS8 := rn RS8 hb; replace RO8 := rn RO8 hb; replace RT8 := rn RT8 hb; clear c4_0 c4_1 c4_2 c4_3 c4_4 c4_5; obtain ⟨c4_0, c4_1, c4_2, c4_3, c4_4, c4_5⟩ := cs6 F4; clear c5_0 c5_1 c5_2 c5_3 c5_4 c5_5; obtain ⟨c5_0, c5_1, c5_2, c5_3, c5_4, c5_5⟩ := cs6 F5; clear c7_0 c7_1 c7_2 c7_3 c7_4 c7_5; obtain ⟨c7_0, c7_1, c7_2, c7_3, c7_4, c7_5⟩ := cs6 F7; obtain ⟨c8_0, c8_1, c8_2, c8_3, c8_4, c8_5⟩ := cs6 F8; clear hb E8)
   | ((with_reducible refine gate_store (t := 34) (p := 7) rfl ?_); obtain ⟨y0, y1, y2, y3, y4, y5, z0, z1, z2, z3, z4, z5⟩ := cz6 F7; refine sx (t := 34) (t' := 34) (p := 7) (v := ?vo11) ?hg ?ho ?hn 0 [.string (⟨#[]⟩ : ByteArray), .string (⟨#[]⟩ : ByteArray), .slice AP8 zp.length kP8, .slice AS8 zs.length kS8, .bool false, .string (⟨#[]⟩ : ByteArray)] [.string (⟨#[]⟩ : ByteArray), .string (⟨#[]⟩ : ByteArray), .slice AP8 zp.length kP8, .slice AS8 zs.length kS8, .bool false, .string (⟨#[]⟩ : ByteArray)] ?hr B F7 L7 rfl (Nat.le_of_ble_eq_true rfl) ?_; (case ho | hg | hn => rfl); (case hr => go_simp; first | done | rfl); intro w11 hk B G; replace F4 := bk F4 hk N4_7.out; replace F5 := bk F5 hk N5_7.out; replace F8 := bk F8 hk N7_8.out.symm; replace RP3 := rk RP3 F7 (by decide) hk; replace RS3 := rk RS3 F7 (by decide) hk; replace RO3 := rk RO3 F7 (by decide) hk; replace RT3 := rk RT3 F7 (by decide) hk; replace RP8 := rk RP8 F7 (by decide) hk; replace RS8 := rk RS8 F7 (by decide) hk; replace RO8 := rk RO8 F7 (by decide) hk; replace RT8 := rk RT8 F7 (by decide) hk; replace F7 := G; clear c4_0 c4_1 c4_2 c4_3 c4_4 c4_5; obtain ⟨c4_0, c4_1, c4_2, c4_3, c4_4, c4_5⟩ := cs6 F4; clear c5_0 c5_1 c5_2 c5_3 c5_4 c5_5; obtain ⟨c5_0, c5_1, c5_2, c5_3, c5_4, c5_5⟩ := cs6 F5; clear c7_0 c7_1 c7_2 c7_3 c7_4 c7_5; obtain ⟨c7_0, c7_1, c7_2, c7_3, c7_4, c7_5⟩ := cs6 F7; clear c8_0 c8_1 c8_2 c8_3 c8_4 c8_5; obtain ⟨c8_0, c8_1, c8_2, c8_3, c8_4, c8_5⟩ := cs6 F8; clear hk y0 z0 y1 z1 y2 z2 y3 z3 y4 z4 y5 z5)
   | ((with_reducible refine gate_store (t := 34) (p := 8) rfl ?_); obtain ⟨y0, y1, y2, y3, y4, y5, z0, z1, z2, z3, z4, z5⟩ := cz6 F8; refine sx (t := 34) (t' := 34) (p := 8) (v := ?vo12) ?hg ?ho ?hn 0 [.string (⟨#[]⟩ : ByteArray), .string (⟨#[]⟩ : ByteArray), .slice AO8 zp.length kO8, .slice AT8 zs.length kT8, .bool false, .string (⟨#[]⟩ : ByteArray)] [.string (⟨#[]⟩ : ByteArray), .string (⟨#[]⟩ : ByteArray), .slice AO8 zp.length kO8, .slice AT8 zs.length kT8, .bool false, .string (⟨#[]⟩ : ByteArray)] ?hr B F8 L8 rfl (Nat.le_of_ble_eq_true rfl) ?_; (case ho | hg | hn => rfl); (case hr => go_simp; first | done | rfl); intro w12 hk B G; replace F4 := bk F4 hk N4_8.out; replace F5 := bk F5 hk N5_8.out; replace F7 := bk F7 hk N7_8.out; replace RP3 := rk RP3 F8 (by decide) hk; replace RS3 := rk RS3 F8 (by decide) hk; replace RO3 := rk RO3 F8 (by decide) hk; replace RT3 := rk RT3 F8 (by decide) hk; replace RP8 := rk RP8 F8 (by decide) hk; replace RS8 := rk RS8 F8 (by decide) hk; replace RO8 := rk RO8 F8 (by decide) hk; replace RT8 := rk RT8 F8 (by decide) hk; replace F8 := G; clear c4_0 c4_1 c4_2 c4_3 c4_4 c4_5; obtain ⟨c4_0, c4_1, c4_2, c4_3, c4_4, c4_5⟩ := cs6 F4; clear c5_0 c5_1 c5_2 c5_3 c5_4 c5_5; obtain ⟨c5_0, c5_1, c5_2, c5_3, c5_4, c5_5⟩ := cs6 F5; clear c7_0 c7_1 c7_2 c7_3 c7_4 c7_5; obtain ⟨c7_0, c7_1, c7_2, c7_3, c7_4, c7_5⟩ := cs6 F7; clear c8_0 c8_1 c8_2 c8_3 c8_4 c8_5; obtain ⟨c8_0, c8_1, c8_2, c8_3, c8_4, c8_5⟩ := cs6 F8; clear hk y0 z0 y1 z1 y2 z2 y3 z3 y4 z4 y5 z5)
   | (go_at_call 35; with_reducible refine cl (laws_sameState.M (⟨#[]⟩ : ByteArray) (⟨#[]⟩ : ByteArray) _ _ _ _ zp _ _ _ _ zs false (⟨#[]⟩ : ByteArray) _ (rc RP3) (rc RP8) (rc RS3) (rc RS8) (rl RP3) (rl RP8) (rl RS3) (rl RS8) (by assumption) (by assumption)) B fun w13 hb B => ?_; replace F4 := bn F4 hb; replace F5 := bn F5 hb; replace F8 := bn F8 hb; replace RP3 := rn RP3 hb; replace RS3 := rn RS3 hb; replace RO3 := rn RO3 hb; replace RT3 := rn RT3 hb; replace RO8 := rn RO8 hb; replace RT8 := rn RT8 hb; clear c4_0 c4_1 c4_2 c4_3 c4_4 c4_5; obtain ⟨c4_0, c4_1, c4_2, c4_3, c4_4, c4_5⟩ := cs6 F4; clear c5_0 c5_1 c5_2 c5_3 c5_4 c5_5; obtain ⟨c5_0, c5_1, c5_2, c5_3, c5_4, c5_5⟩ := cs6 F5; clear c8_0 c8_1 c8_2 c8_3 c8_4 c8_5; obtain ⟨c8_0, c8_1, c8_2, c8_3, c8_4, c8_5⟩ := cs6 F8; clear hb)
   | (go_at_call 35; with_reducible refine cl (laws_sameState.M (⟨#[]⟩ : ByteArray) (⟨#[]⟩ : ByteArray) _ _ _ _ zp _ _ _ _ zs false (⟨#[]⟩ : ByteArray) _ (rc RO3) (rc RO8) (rc RT3) (rc RT8) (rl RO3) (rl RO8) (rl RT3) (rl RT8) (by assumption) (by assumption)) B fun w14 hb B => ?_; replace F4 := bn F4 hb; replace F5 := bn F5 hb; replace RP3 := rn RP3 hb; replace RS3 := rn RS3 hb; replace RO3 := rn RO3 hb; replace RT3 := rn RT3 hb; clear c4_0 c4_1 c4_2 c4_3 c4_4 c4_5; obtain ⟨c4_0, c4_1, c4_2, c4_3, c4_4, c4_5⟩ := cs6 F4; clear c5_0 c5_1 c5_2 c5_3 c5_4 c5_5; obtain ⟨c5_0, c5_1, c5_2, c5_3, c5_4, c5_5⟩ := cs6 F5; clear hb)
   | (go_at_call 36; with_reducible refine cl (laws_noState.E _ _ _ _ _ _ HZP.out HZS.out _ (rc RP3) (rc RS3)) B fun w15 hb B => ?_; replace F5 := bn F5 hb; replace RO3 := rn RO3 hb; replace RT3 := rn RT3 hb; clear c5_0 c5_1 c5_2 c5_3 c5_4 c5_5; obtain ⟨c5_0, c5_1, c5_2, c5_3, c5_4, c5_5⟩ := cs6 F5; clear hb)
   | (go_at_call 36; with_reducible refine cl (laws_noState.E _ _ _ _ _ _ HZP.out HZS.out _ (rc RO3) (rc RT3)) B fun w16 hb B => ?_; clear hb)
   | (go_at_call 17; with_reducible refine cl (laws_alive.M _) B fun w17 hb B => ?_; clear hb))
  all_goals go_ret
  all_goals exact ⟨by simp_all, B.out⟩
 | true =>
  obtain ⟨h1, h2, -, -, -, -, h3, h4⟩ := cut_law hj
  have hcs : csM ⟨a, b, ps, ss, t, c⟩ = (⟨a, c, inM ps a c, ss, false, ⟨#[]⟩⟩, ⟨c, b, inM ps c b, ss, false, ⟨#[]⟩⟩, true) := if_pos hj
  rw [hcs] at h1 h2 h3 h4
  have hi1 := inM_len ps a c
  have hi2 := inM_len ps c b
  obtain ⟨p1, hp1⟩ : ∃ p, inM ps a c = p := ⟨_, rfl⟩
  obtain ⟨p2, hp2⟩ : ∃ p, inM ps c b = p := ⟨_, rfl⟩
  rw [hp1, hp2] at hcs
  have HM := Aside0.mk hcs
  have HV := Aside0.mk (show stB a c p1 ss false ⟨#[]⟩ = true by rw [← hp1]; exact h1)
  have HW := Aside0.mk (show stB c b p2 ss false ⟨#[]⟩ = true by rw [← hp2]; exact h2)
  have HJ := Aside0.mk (show sjM ⟨a, c, p1, ss, true, ⟨#[]⟩⟩ ⟨c, b, p2, ss, true, ⟨#[]⟩⟩ = (⟨a, b, ps, ss, false, ⟨#[]⟩⟩, true) by rw [← hp1, ← hp2]; exact h4)
  have HO := Aside0.mk (show ∀ p ∈ ps, (hasB a c p.f0 = true → getM p1 p.f0 = p.f1 ∧ getM p2 p.f0 = -1) ∧ (hasB c b p.f0 = true → getM p2 p.f0 = p.f1 ∧ getM p1 p.f0 = -1) by rw [← hp1, ← hp2]; exact h3)
  have hb5 : p1.length ≤ 2097152 := by rw [← hp1]; omega
  have hb6 : p2.length ≤ 2097152 := by rw [← hp2]; omega
  clear h1 h2 h3 h4 hcs hi1 hi2 hp1 hp2 hj hl1 hl2
  go_wp2_with (first
   | ((with_reducible refine gate_dst (N := 3) rfl ?_); refine bx ?hg (N := 3) ?hd (cs := #[.string (⟨#[]⟩ : ByteArray), .string (⟨#[]⟩ : ByteArray), .slice none 0 0, .slice none 0 0, .bool false, .string (⟨#[]⟩ : ByteArray)]) (t := 34) ?hr B ?_; (case hd | hg => rfl); (case hr => go_simp; first | done | rfl); intro g3 w1001 hb B F3 L3 E3; replace RP := rn RP hb; replace RS := rn RS hb; obtain ⟨c3_0, c3_1, c3_2, c3_3, c3_4, c3_5⟩ := cs6 F3; clear hb E3)
   | ((with_reducible refine gate_store (t := 34) (p := 3) rfl ?_); obtain ⟨y0, y1, y2, y3, y4, y5, z0, z1, z2, z3, z4, z5⟩ := cz6 F3; refine sx (t := 34) (t' := 34) (p := 3) (v := ?vo1002) ?hg ?ho ?hn 0 [.string a, .string b, .slice AP ps.length kP, .slice AS ss.length kS, .bool t, .string c] [.string a, .string b, .slice AP ps.length kP, .slice AS ss.length kS, .bool t, .string c] ?hr B F3 L3 rfl (Nat.le_of_ble_eq_true rfl) ?_; (case ho | hg | hn => rfl); (case hr => go_simp; first | done | rfl); intro w1002 hk B G; replace RP := rk RP F3 (by decide) hk; replace RS := rk RS F3 (by decide) hk; replace F3 := G; clear c3_0 c3_1 c3_2 c3_3 c3_4 c3_5; obtain ⟨c3_0, c3_1, c3_2, c3_3, c3_4, c3_5⟩ := cs6 F3; clear hk y0 z0 y1 z1 y2 z2 y3 z3 y4 z4 y5 z5)
   | (go_at_call 31; with_reducible refine c4r (impl_StateCut.Mr a b _ _ ps _ _ ss t c a c p1 ss false (⟨#[]⟩ : ByteArray) c b p2 ss false (⟨#[]⟩ : ByteArray) true HM.out _ (rc RP) (rc RS) (rl RP) (rl RS)) B fun AP1003 kP1003 AS1003 kS1003 AO1003 kO1003 AT1003 kT1003 w1003 hb B RP1003 QP1003 RS1003 QS1003 RO1003 QO1003 RT1003 QT1003 DP1003_O1003 DS1003_T1003 => ?_; replace F3 := bn F3 hb; replace RP := rn RP hb; replace RS := rn RS hb; clear QP1003 QS1003 QO1003 QT1003; clear c3_0 c3_1 c3_2 c3_3 c3_4 c3_5; obtain ⟨c3_0, c3_1, c3_2, c3_3, c3_4, c3_5⟩ := cs6 F3; clear hb)
   | ((with_reducible refine gate_dst (N := 4) rfl ?_); refine bx ?hg (N := 4) ?hd (cs := #[.string (⟨#[]⟩ : ByteArray), .string (⟨#[]⟩ : ByteArray), .slice none 0 0, .slice none 0 0, .bool false, .string (⟨#[]⟩ : ByteArray)]) (t := 34) ?hr B ?_; (case hd | hg => rfl); (case hr => go_simp; first | done | rfl); intro g4 w1004 hb B F4 L4 E4; have N3_4 := ne1 E4 F3; replace F3 := bn F3 hb; replace RP := rn RP hb; replace RS := rn RS hb; replace RP1003 := rn RP1003 hb; replace RS1003 := rn RS1003 hb; replace RO1003 := rn RO1003 hb; replace RT1003 := rn RT1003 hb; clear c3_0 c3_1 c3_2 c3_3 c3_4 c3_5; obtain ⟨c3_0, c3_1, c3_2, c3_3, c3_4, c3_5⟩ := cs6 F3; obtain ⟨c4_0, c4_1, c4_2, c4_3, c4_4, c4_5⟩ := cs6 F4; clear hb E4)
   | ((with_reducible refine gate_dst (N := 5) rfl ?_); refine bx ?hg (N := 5) ?hd (cs := #[.string (⟨#[]⟩ : ByteArray), .string (⟨#[]⟩ : ByteArray), .slice none 0 0, .slice none 0 0, .bool false, .string (⟨#[]⟩ : ByteArray)]) (t := 34) ?hr B ?_; (case hd | hg => rfl); (case hr => go_simp; first | done | rfl); intro g5 w1005 hb B F5 L5 E5; have N3_5 := ne1 E5 F3; have N4_5 := ne1 E5 F4; replace F3 := bn F3 hb; replace F4 := bn F4 hb; replace RP := rn RP hb; replace RS := rn RS hb; replace RP1003 := rn RP1003 hb; replace RS1003 := rn RS1003 hb; replace RO1003 := rn RO1003 hb; replace RT1003 := rn RT1003 hb; clear c3_0 c3_1 c3_2 c3_3 c3_4 c3_5; obtain ⟨c3_0, c3_1, c3_2, c3_3, c3_4, c3_5⟩ := cs6 F3; clear c4_0 c4_1 c4_2 c4_3 c4_4 c4_5; obtain ⟨c4_0, c4_1, c4_2, c4_3, c4_4, c4_5⟩ := cs6 F4; obtain ⟨c5_0, c5_1, c5_2, c5_3, c5_4, c5_5⟩ := cs6 F5; clear hb E5)
   | ((with_reducible refine gate_store (t := 34) (p := 4) rfl ?_); obtain ⟨y0, y1, y2, y3, y4, y5, z0, z1, z2, z3, z4, z5⟩ := cz6 F4; refine sx (t := 34) (t' := 34) (p := 4) (v := ?vo1006) ?hg ?ho ?hn 0 [.string a, .string c, .slice AP1003 p1.length kP1003, .slice AS1003 ss.length kS1003, .bool false, .string (⟨#[]⟩ : ByteArray)] [.string a, .string c, .slice AP1003 p1.length kP1003, .slice AS1003 ss.length kS1003, .bool false, .string (⟨#[]⟩ : ByteArray)] ?hr B F4 L4 rfl (Nat.le_of_ble_eq_true rfl) ?_; (case ho | hg | hn => rfl); (case hr => go_simp; first | done | rfl); intro w1006 hk B G; replace F3 := bk F3 hk N3_4.out; replace F5 := bk F5 hk N4_5.out.symm; replace RP := rk RP F4 (by decide) hk; replace RS := rk RS F4 (by decide) hk; replace RP1003 := rk RP1003 F4 (by decide) hk; replace RS1003 := rk RS1003 F4 (by decide) hk; replace RO1003 := rk RO1003 F4 (by decide) hk; replace RT1003 := rk RT1003 F4 (by decide) hk; replace F4 := G; clear c3_0 c3_1 c3_2 c3_3 c3_4 c3_5; obtain ⟨c3_0, c3_1, c3_2, c3_3, c3_4, c3_5⟩ := cs6 F3; clear c4_0 c4_1 c4_2 c4_3 c4_4 c4_5; obtain ⟨c4_0, c4_1, c4_2, c4_3, c4_4, c4_5⟩ := cs6 F4; clear c5_0 c5_1 c5_2 c5_3 c5_4 c5_5; obtain ⟨c5_0, c5_1, c5_2, c5_3, c5_4, c5_5⟩ := cs6 F5; clear hk y0 z0 y1 z1 y2 z2 y3 z3 y4 z4 y5 z5)
   | ((with_reducible refine gate_store (t := 34) (p := 5) rfl ?_); obtain ⟨y0, y1, y2, y3, y4, y5, z0, z1, z2, z3, z4, z5⟩ := cz6 F5; refine sx (t := 34) (t' := 34) (p := 5) (v := ?vo1007) ?hg ?ho ?hn 0 [.string c, .string b, .slice AO1003 p2.length kO1003, .slice AT1003 ss.length kT1003, .bool false, .string (⟨#[]⟩ : ByteArray)] [.string c, .string b, .slice AO1003 p2.length kO1003, .slice AT1003 ss.length kT1003, .bool false, .string (⟨#[]⟩ : ByteArray)] ?hr B F5 L5 rfl (Nat.le_of_ble_eq_true rfl) ?_; (case ho | hg | hn => rfl); (case hr => go_simp; first | done | rfl); intro w1007 hk B G; replace F3 := bk F3 hk N3_5.out; replace F4 := bk F4 hk N4_5.out; replace RP := rk RP F5 (by decide) hk; replace RS := rk RS F5 (by decide) hk; replace RP1003 := rk RP1003 F5 (by decide) hk; replace RS1003 := rk RS1003 F5 (by decide) hk; replace RO1003 := rk RO1003 F5 (by decide) hk; replace RT1003 := rk RT1003 F5 (by decide) hk; replace F5 := G; clear c3_0 c3_1 c3_2 c3_3 c3_4 c3_5; obtain ⟨c3_0, c3_1, c3_2, c3_3, c3_4, c3_5⟩ := cs6 F3; clear c4_0 c4_1 c4_2 c4_3 c4_4 c4_5; obtain ⟨c4_0, c4_1, c4_2, c4_3, c4_4, c4_5⟩ := cs6 F4; clear c5_0 c5_1 c5_2 c5_3 c5_4 c5_5; obtain ⟨c5_0, c5_1, c5_2, c5_3, c5_4, c5_5⟩ := cs6 F5; clear hk y0 z0 y1 z1 y2 z2 y3 z3 y4 z4 y5 z5)
   | (go_at_call 30; with_reducible refine c4r (spec_StateCut.Mr a b _ _ ps _ _ ss t c a c p1 ss false (⟨#[]⟩ : ByteArray) c b p2 ss false (⟨#[]⟩ : ByteArray) true HM.out _ (rc RP) (rc RS) (rl RP) (rl RS)) B fun AP1008 kP1008 AS1008 kS1008 AO1008 kO1008 AT1008 kT1008 w1008 hb B RP1008 QP1008 RS1008 QS1008 RO1008 QO1008 RT1008 QT1008 DP1008_O1008 DS1008_T1008 => ?_; replace F3 := bn F3 hb; replace F4 := bn F4 hb; replace F5 := bn F5 hb; replace RP := rn RP hb; replace RS := rn RS hb; replace RP1003 := rn RP1003 hb; replace RS1003 := rn RS1003 hb; replace RO1003 := rn RO1003 hb; replace RT1003 := rn RT1003 hb; clear QP1008 QS1008 QO1008 QT1008; clear c3_0 c3_1 c3_2 c3_3 c3_4 c3_5; obtain ⟨c3_0, c3_1, c3_2, c3_3, c3_4, c3_5⟩ := cs6 F3; clear c4_0 c4_1 c4_2 c4_3 c4_4 c4_5; obtain ⟨c4_0, c4_1, c4_2, c4_3, c4_4, c4_5⟩ := cs6 F4; clear c5_0 c5_1 c5_2 c5_3 c5_4 c5_5; obtain ⟨c5_0, c5_1, c5_2, c5_3, c5_4, c5_5⟩ := cs6 F5; clear hb)
   | ((with_reducible refine gate_dst (N := 7) rfl ?_); refine bx ?hg (N := 7) ?hd (cs := #[.string (⟨#[]⟩ : ByteArray), .string (⟨#[]⟩ : ByteArray), .slice none 0 0, .slice none 0 0, .bool false, .string (⟨#[]⟩ : ByteArray)]) (t := 34) ?hr B ?_; (case hd | hg => rfl); (case hr => go_simp; first | done | rfl); intro g7 w1009 hb B F7 L7 E7; have N3_7 := ne1 E7 F3; have N4_7 := ne1 E7 F4; have N5_7 := ne1 E7 F5; replace F3 := bn F3 hb; replace F4 := bn F4 hb; replace F5 := bn F5 hb; replace RP := rn RP hb; replace RS := rn RS hb; replace RP1003 := rn RP1003 hb; replace RS1003 := rn RS1003 hb; replace RO1003 := rn RO1003 hb; replace RT1003 := rn RT1003 hb; replace RP1008 := rn RP1008 hb; replace RS1008 := rn RS1008 hb; replace RO1008 := rn RO1008 hb; replace RT1008 := rn RT1008 hb; clear c3_0 c3_1 c3_2 c3_3 c3_4 c3_5; obtain ⟨c3_0, c3_1, c3_2, c3_3, c3_4, c3_5⟩ := cs6 F3; clear c4_0 c4_1 c4_2 c4_3 c4_4 c4_5; obtain ⟨c4_0, c4_1, c4_2, c4_3, c4_4, c4_5⟩ := cs6 F4; clear c5_0 c5_1 c5_2 c5_3 c5_4 c5_5; obtain ⟨c5_0, c5_1, c5_2, c5_3, c5_4, c5_5⟩ := cs6 F5; obtain ⟨c7_0, c7_1, c7_2, c7_3, c7_4, c7_5⟩ := cs6 F7; clear hb E7)
   | ((with_reducible refine gate_dst (N := 8) rfl ?_); refine bx ?hg (N := 8) ?hd (cs := #[.string (⟨#[]⟩ : ByteArray), .string (⟨#[]⟩ : ByteArray), .slice none 0 0, .slice none 0 0, .bool false, .string (⟨#[]⟩ : ByteArray)]) (t := 34) ?hr B ?_; (case hd | hg => rfl); (case hr => go_simp; first | done | rfl); intro g8 w1010 hb B F8 L8 E8; have N3_8 := ne1 E8 F3; have N4_8 := ne1 E8 F4; have N5_8 := ne1 E8 F5; have N7_8 := ne1 E8 F7; replace F3 := bn F3 hb; replace F4 := bn F4 hb; replace F5 := bn F5 hb; replace F7 := bn F7 hb; replace RP := rn RP hb; replace RS := rn RS hb; replace RP1003 := rn RP1003 hb; replace RS1003 := rn RS1003 hb; replace RO1003 := rn RO1003 hb; replace RT1003 := rn RT1003 hb; replace RP1008 := rn RP1008 hb; replace RS1008 := rn RS1008 hb; replace RO1008 := rn RO1008 hb; replace RT1008 := rn RT1008 hb; clear c3_0 c3_1 c3_2 c3_3 c3_4 c3_5; obtain ⟨c3_0, c3_1, c3_2, c3_3, c3_4, c3_5⟩ := cs6 F3; clear c4_0 c4_1 c4_2 c4_3 c4_4 c4_5; obtain ⟨c4_0, c4_1, c4_2, c4_3, c4_4, c4_5⟩ := cs6 F4; clear c5_0 c5_1 c5_2 c5_3 c5_4 c5_5; obtain ⟨c5_0, c5_1, c5_2, c5_3, c5_4, c5_5⟩ := cs6 F5; clear c7_0 c7_1 c7_2 c7_3 c7_4 c7_5; obtain ⟨c7_0, c7_1, c7_2, c7_3, c7_4, c7_5⟩ := cs6 F7; obtain ⟨c8_0, c8_1, c8_2, c8_3, c8_4, c8_5⟩ := cs6 F8; clear hb E8)
   | ((with_reducible refine gate_store (t := 34) (p := 7) rfl ?_); obtain ⟨y0, y1, y2, y3, y4, y5, z0, z1, z2, z3, z4, z5⟩ := cz6 F7; refine sx (t := 34) (t' := 34) (p := 7) (v := ?vo1011) ?hg ?ho ?hn 0 [.string a, .string c, .slice AP1008 p1.length kP1008, .slice AS1008 ss.length kS1008, .bool false, .string (⟨#[]⟩ : ByteArray)] [.string a, .string c, .slice AP1008 p1.length kP1008, .slice AS1008 ss.length kS1008, .bool false, .string (⟨#[]⟩ : ByteArray)] ?hr B F7 L7 rfl (Nat.le_of_ble_eq_true rfl) ?_; (case ho | hg | hn => rfl); (case hr => go_simp; first | done | rfl); intro w1011 hk B G; replace F3 := bk F3 hk N3_7.out; replace F4 := bk F4 hk N4_7.out; replace F5 := bk F5 hk N5_7.out; replace F8 := bk F8 hk N7_8.out.symm; replace RP := rk RP F7 (by decide) hk; replace RS := rk RS F7 (by decide) hk; replace RP1003 := rk RP1003 F7 (by decide) hk; replace RS1003 := rk RS1003 F7 (by decide) hk; replace RO1003 := rk RO1003 F7 (by decide) hk; replace RT1003 := rk RT1003 F7 (by decide) hk; replace RP1008 := rk RP1008 F7 (by decide) hk; replace RS1008 := rk RS1008 F7 (by decide) hk; replace RO1008 := rk RO1008 F7 (by decide) hk; replace RT1008 := rk RT1008 F7 (by decide) hk; replace F7 := G; clear c3_0 c3_1 c3_2 c3_3 c3_4 c3_5; obtain ⟨c3_0, c3_1, c3_2, c3_3, c3_4, c3_5⟩ := cs6 F3; clear c4_0 c4_1 c4_2 c4_3 c4_4 c4_5; obtain ⟨c4_0, c4_1, c4_2, c4_3, c4_4, c4_5⟩ := cs6 F4; clear c5_0 c5_1 c5_2 c5_3 c5_4 c5_5; obtain ⟨c5_0, c5_1, c5_2, c5_3, c5_4, c5_5⟩ := cs6 F5; clear c7_0 c7_1 c7_2 c7_3 c7_4 c7_5; obtain ⟨c7_0, c7_1, c7_2, c7_3, c7_4, c7_5⟩ := cs6 F7; clear c8_0 c8_1 c8_2 c8_3 c8_4 c8_5; obtain ⟨c8_0, c8_1, c8_2, c8_3, c8_4, c8_5⟩ := cs6 F8; clear hk y0 z0 y1 z1 y2 z2 y3 z3 y4 z4 y5 z5)
   | ((with_reducible refine gate_store (t := 34) (p := 8) rfl ?_); obtain ⟨y0, y1, y2, y3, y4, y5, z0, z1, z2, z3, z4, z5⟩ := cz6 F8; refine sx (t := 34) (t' := 34) (p := 8) (v := ?vo1012) ?hg ?ho ?hn 0 [.string c, .string b, .slice AO1008 p2.length kO1008, .slice AT1008 ss.length kT1008, .bool false, .string (⟨#[]⟩ : ByteArray)] [.string c, .string b, .slice AO1008 p2.length kO1008, .slice AT1008 ss.length kT1008, .bool false, .string (⟨#[]⟩ : ByteArray)] ?hr B F8 L8 rfl (Nat.le_of_ble_eq_true rfl) ?_; (case ho | hg | hn => rfl); (case hr => go_simp; first | done | rfl); intro w1012 hk B G; replace F3 := bk F3 hk N3_8.out; replace F4 := bk F4 hk N4_8.out; replace F5 := bk F5 hk N5_8.out; replace F7 := bk F7 hk N7_8.out; replace RP := rk RP F8 (by decide) hk; replace RS := rk RS F8 (by decide) hk; replace RP1003 := rk RP1003 F8 (by decide) hk; replace RS1003 := rk RS1003 F8 (by decide) hk; replace RO1003 := rk RO1003 F8 (by decide) hk; replace RT1003 := rk RT1003 F8 (by decide) hk; replace RP1008 := rk RP1008 F8 (by decide) hk; replace RS1008 := rk RS1008 F8 (by decide) hk; replace RO1008 := rk RO1008 F8 (by decide) hk; replace RT1008 := rk RT1008 F8 (by decide) hk; replace F8 := G; clear c3_0 c3_1 c3_2 c3_3 c3_4 c3_5; obtain ⟨c3_0, c3_1, c3_2, c3_3, c3_4, c3_5⟩ := cs6 F3; clear c4_0 c4_1 c4_2 c4_3 c4_4 c4_5; obtain ⟨c4_0, c4_1, c4_2, c4_3, c4_4, c4_5⟩ := cs6 F4; clear c5_0 c5_1 c5_2 c5_3 c5_4 c5_5; obtain ⟨c5_0, c5_1, c5_2, c5_3, c5_4, c5_5⟩ := cs6 F5; clear c7_0 c7_1 c7_2 c7_3 c7_4 c7_5; obtain ⟨c7_0, c7_1, c7_2, c7_3, c7_4, c7_5⟩ := cs6 F7; clear c8_0 c8_1 c8_2 c8_3 c8_4 c8_5; obtain ⟨c8_0, c8_1, c8_2, c8_3, c8_4, c8_5⟩ := cs6 F8; clear hk y0 z0 y1 z1 y2 z2 y3 z3 y4 z4 y5 z5)
   | (go_at_call 35; with_reducible refine cl (laws_sameState.M a c _ _ _ _ p1 _ _ _ _ ss false (⟨#[]⟩ : ByteArray) _ (rc RP1003) (rc RP1008) (rc RS1003) (rc RS1008) (rl RP1003) (rl RP1008) (rl RS1003) (rl RS1008) (by assumption) (by assumption)) B fun w1013 hb B => ?_; replace F3 := bn F3 hb; replace F4 := bn F4 hb; replace F5 := bn F5 hb; replace F8 := bn F8 hb; replace RP := rn RP hb; replace RS := rn RS hb; replace RP1003 := rn RP1003 hb; replace RS1003 := rn RS1003 hb; replace RO1003 := rn RO1003 hb; replace RT1003 := rn RT1003 hb; replace RO1008 := rn RO1008 hb; replace RT1008 := rn RT1008 hb; clear c3_0 c3_1 c3_2 c3_3 c3_4 c3_5; obtain ⟨c3_0, c3_1, c3_2, c3_3, c3_4, c3_5⟩ := cs6 F3; clear c4_0 c4_1 c4_2 c4_3 c4_4 c4_5; obtain ⟨c4_0, c4_1, c4_2, c4_3, c4_4, c4_5⟩ := cs6 F4; clear c5_0 c5_1 c5_2 c5_3 c5_4 c5_5; obtain ⟨c5_0, c5_1, c5_2, c5_3, c5_4, c5_5⟩ := cs6 F5; clear c8_0 c8_1 c8_2 c8_3 c8_4 c8_5; obtain ⟨c8_0, c8_1, c8_2, c8_3, c8_4, c8_5⟩ := cs6 F8; clear hb)
   | (go_at_call 35; with_reducible refine cl (laws_sameState.M c b _ _ _ _ p2 _ _ _ _ ss false (⟨#[]⟩ : ByteArray) _ (rc RO1003) (rc RO1008) (rc RT1003) (rc RT1008) (rl RO1003) (rl RO1008) (rl RT1003) (rl RT1008) (by assumption) (by assumption)) B fun w1014 hb B => ?_; replace F3 := bn F3 hb; replace F4 := bn F4 hb; replace F5 := bn F5 hb; replace RP := rn RP hb; replace RS := rn RS hb; replace RP1003 := rn RP1003 hb; replace RS1003 := rn RS1003 hb; replace RO1003 := rn RO1003 hb; replace RT1003 := rn RT1003 hb; clear c3_0 c3_1 c3_2 c3_3 c3_4 c3_5; obtain ⟨c3_0, c3_1, c3_2, c3_3, c3_4, c3_5⟩ := cs6 F3; clear c4_0 c4_1 c4_2 c4_3 c4_4 c4_5; obtain ⟨c4_0, c4_1, c4_2, c4_3, c4_4, c4_5⟩ := cs6 F4; clear c5_0 c5_1 c5_2 c5_3 c5_4 c5_5; obtain ⟨c5_0, c5_1, c5_2, c5_3, c5_4, c5_5⟩ := cs6 F5; clear hb)
   | (go_at_call 14; with_reducible refine cl (clv (impl_StateValid.M a c _ _ p1 _ _ ss false (⟨#[]⟩ : ByteArray) _ (rc RP1003) (rc RS1003)) (congrArg Value.bool HV.out)) B fun w1015 hb B => ?_; replace F3 := bn F3 hb; replace F4 := bn F4 hb; replace F5 := bn F5 hb; replace RP := rn RP hb; replace RS := rn RS hb; replace RP1003 := rn RP1003 hb; replace RS1003 := rn RS1003 hb; replace RO1003 := rn RO1003 hb; replace RT1003 := rn RT1003 hb; clear c3_0 c3_1 c3_2 c3_3 c3_4 c3_5; obtain ⟨c3_0, c3_1, c3_2, c3_3, c3_4, c3_5⟩ := cs6 F3; clear c4_0 c4_1 c4_2 c4_3 c4_4 c4_5; obtain ⟨c4_0, c4_1, c4_2, c4_3, c4_4, c4_5⟩ := cs6 F4; clear c5_0 c5_1 c5_2 c5_3 c5_4 c5_5; obtain ⟨c5_0, c5_1, c5_2, c5_3, c5_4, c5_5⟩ := cs6 F5; clear hb)
   | (go_at_call 14; with_reducible refine cl (clv (impl_StateValid.M c b _ _ p2 _ _ ss false (⟨#[]⟩ : ByteArray) _ (rc RO1003) (rc RT1003)) (congrArg Value.bool HW.out)) B fun w1016 hb B => ?_; replace F3 := bn F3 hb; replace F4 := bn F4 hb; replace F5 := bn F5 hb; replace RP := rn RP hb; replace RS := rn RS hb; replace RP1003 := rn RP1003 hb; replace RS1003 := rn RS1003 hb; replace RO1003 := rn RO1003 hb; replace RT1003 := rn RT1003 hb; clear c3_0 c3_1 c3_2 c3_3 c3_4 c3_5; obtain ⟨c3_0, c3_1, c3_2, c3_3, c3_4, c3_5⟩ := cs6 F3; clear c4_0 c4_1 c4_2 c4_3 c4_4 c4_5; obtain ⟨c4_0, c4_1, c4_2, c4_3, c4_4, c4_5⟩ := cs6 F4; clear c5_0 c5_1 c5_2 c5_3 c5_4 c5_5; obtain ⟨c5_0, c5_1, c5_2, c5_3, c5_4, c5_5⟩ := cs6 F5; clear hb)
   | (go_at_call 37; with_reducible refine cl (laws_sameSessions.M _ _ _ _ ss ss rfl _ (rc RS1003) (rl RS1003) (rc RS) (rl RS) (by assumption)) B fun w1017 hb B => ?_; replace F3 := bn F3 hb; replace F4 := bn F4 hb; replace F5 := bn F5 hb; replace RP := rn RP hb; replace RS := rn RS hb; replace RP1003 := rn RP1003 hb; replace RS1003 := rn RS1003 hb; replace RO1003 := rn RO1003 hb; replace RT1003 := rn RT1003 hb; clear c3_0 c3_1 c3_2 c3_3 c3_4 c3_5; obtain ⟨c3_0, c3_1, c3_2, c3_3, c3_4, c3_5⟩ := cs6 F3; clear c5_0 c5_1 c5_2 c5_3 c5_4 c5_5; obtain ⟨c5_0, c5_1, c5_2, c5_3, c5_4, c5_5⟩ := cs6 F5; clear hb)
   | (go_at_call 37; with_reducible refine cl (laws_sameSessions.M _ _ _ _ ss ss rfl _ (rc RT1003) (rl RT1003) (rc RS) (rl RS) (by assumption)) B fun w1018 hb B => ?_; replace F3 := bn F3 hb; replace F4 := bn F4 hb; replace F5 := bn F5 hb; replace RP := rn RP hb; replace RS := rn RS hb; replace RP1003 := rn RP1003 hb; replace RS1003 := rn RS1003 hb; replace RO1003 := rn RO1003 hb; replace RT1003 := rn RT1003 hb; clear hb))
  go_loopg [10] (ps.length + 1) (fun kx v10 wr => ∃ j : Nat, v10 = .int .i64 (j : Int) ∧ j ≤ ps.length ∧ ps.length < j + kx ∧ Aside0 (Below w.heap.size w wr) ∧ Aside0 (wr.heap[g3]? = some (.cells #[.string a, .string b, .slice AP ps.length kP, .slice AS ss.length kS, .bool t, .string c] 34 (0, 0))) ∧ Aside0 (wr.heap[g4]? = some (.cells #[.string a, .string c, .slice AP1003 p1.length kP1003, .slice AS1003 ss.length kS1003, .bool false, .string (⟨#[]⟩ : ByteArray)] 34 (0, 0))) ∧ Aside0 (wr.heap[g5]? = some (.cells #[.string c, .string b, .slice AO1003 p2.length kO1003, .slice AT1003 ss.length kT1003, .bool false, .string (⟨#[]⟩ : ByteArray)] 34 (0, 0))) ∧ Aside0 (Ow k61 61 wr w.heap.size (.slice AP ps.length kP) ps) ∧ Aside0 (Ow k100 100 wr w.heap.size (.slice AS ss.length kS) ss) ∧ Aside0 (Ow k61 61 wr w.heap.size (.slice AP1003 p1.length kP1003) p1) ∧ Aside0 (Ow k100 100 wr w.heap.size (.slice AS1003 ss.length kS1003) ss) ∧ Aside0 (Ow k61 61 wr w.heap.size (.slice AO1003 p2.length kO1003) p2) ∧ Aside0 (Ow k100 100 wr w.heap.size (.slice AT1003 ss.length kT1003) ss))
  case atStart => exact ⟨0, rfl, by omega, by omega, B, F3, F4, F5, RP, RS, RP1003, RS1003, RO1003, RT1003⟩
  case round =>
   clear B F3 F4 F5 RP RS RP1003 RS1003 RO1003 RT1003
   obtain ⟨j, rfl, hj4, hk, B, F3, F4, F5, RP, RS, RP1003, RS1003, RO1003, RT1003⟩ := hrel
   obtain ⟨c3_0, c3_1, c3_2, c3_3, c3_4, c3_5⟩ := cs6 F3
   obtain ⟨c4_0, c4_1, c4_2, c4_3, c4_4, c4_5⟩ := cs6 F4
   obtain ⟨c5_0, c5_1, c5_2, c5_3, c5_4, c5_5⟩ := cs6 F5
   by_cases hlt : j < ps.length
   ·have hpo := HO.out (rd_T61 ps (j : Int)) (by rw [pr_nat hlt]; exact List.getElem_mem hlt)
    obtain ⟨d, rfl⟩ : ∃ d, gk = d + 1 := ⟨gk - 1, by omega⟩
    have cj : decide ((j : Int) < (ps.length : Int)) = true := decide_eq_true (by omega)
    obtain ⟨ad, hA, y0, y1⟩ := at_T61 (rc RP) (j : Int) (by omega) (by omega)
    cases hA
    rw [Int.toNat_natCast] at y0 y1
    have j1 := eq_true (show (j : Int) < (ps.length : Int) by omega)
    have j2 := eq_true hlt
    generalize hy : rd_T61 ps (j : Int) = y at *
    obtain ⟨hpa, hpb⟩ := hpo
    have d1 : hasB a c y.f0 = true → (getM p1 y.f0 != y.f1) = false := fun h => by rw [(hpa h).1]; simp
    have d2 : hasB a c y.f0 = true → (getM p2 y.f0 != -1) = false := fun h => by rw [(hpa h).2]; rfl
    have d3 : hasB c b y.f0 = true → (getM p2 y.f0 != y.f1) = false := fun h => by rw [(hpb h).1]; simp
    have d4 : hasB c b y.f0 = true → (getM p1 y.f0 != -1) = false := fun h => by rw [(hpb h).2]; rfl
    clear hpa hpb
    try go_wp2
    all_goals (
     refine rg (n := 10) (S := fun W => W.heap[g4]? = some (.cells #[.string a, .string c, .slice AP1003 p1.length kP1003, .slice AS1003 ss.length kS1003, .bool false, .string (⟨#[]⟩ : ByteArray)] 34 (0, 0)) ∧ W.heap[g3]? = some (.cells #[.string a, .string b, .slice (some ad) ps.length kP, .slice AS ss.length kS, .bool t, .string c] 34 (0, 0)) ∧ Kd.C k61 W (some ad) ps.length ps) (ds := []) #[false, false, false, false, false, false, false, false, false, false] (by kernel_rfl) rfl rfl ⟨F4.out, F3.out, (rc RP)⟩ id B (fun w2001 hb B hHeld => ?_)
     refine with_tabW laws_FnStateCut.tab15 laws_FnStateCut.bits15 (fun HT_ HW_ => ?_)
     replace F3 := bn F3 hb
     replace F4 := bn F4 hb
     replace F5 := bn F5 hb
     replace RP := rn RP hb
     replace RS := rn RS hb
     replace RP1003 := rn RP1003 hb
     replace RS1003 := rn RS1003 hb
     replace RO1003 := rn RO1003 hb
     replace RT1003 := rn RT1003 hb
     clear hb
     refine pv 0 (some 97) (v := ?_) (bits 10 1) HT_ (by kernel_rfl) rfl rfl (fun _ _ _ h => h) (by kernel_rfl) ?_ ?_; rotate_left; (intro w'; go_simp; with_reducible rfl)
     refine tv 1 (some 98) (v := ?_) (bits 10 3) HT_ HW_ (by kernel_rfl) rfl rfl (fun _ _ _ h => h) (by kernel_rfl) hHeld ?_ ?_; rotate_left; (intro w' hS; obtain ⟨s0, s1, s2⟩ := hS; obtain ⟨q0, q1, q2, q3, q4, q5⟩ := cs6 (Aside0.mk s0); go_simp; with_reducible rfl)
     refine pv 2 (some 99) (v := ?_) (bits 10 7) HT_ (by kernel_rfl) rfl rfl (fun _ _ _ h => h) (by kernel_rfl) ?_ ?_; rotate_left; (intro w'; go_simp; with_reducible rfl)
     refine tv 3 (some 100) (v := ?_) (bits 10 15) HT_ HW_ (by kernel_rfl) rfl rfl (fun _ _ _ h => h) (by kernel_rfl) hHeld ?_ ?_; rotate_left; (intro w' hS; obtain ⟨s0, s1, s2⟩ := hS; obtain ⟨q0, q1, q2, q3, q4, q5⟩ := cs6 (Aside0.mk s1); go_simp; with_reducible rfl)
     refine pv 4 (some 101) (v := ?_) (bits 10 31) HT_ (by kernel_rfl) rfl rfl (fun _ _ _ h => h) (by kernel_rfl) ?_ ?_; rotate_left; (intro w'; go_simp; with_reducible rfl)
     refine pv 5 (some 102) (v := ?_) (bits 10 63) HT_ (by kernel_rfl) rfl rfl (fun _ _ _ h => h) (by kernel_rfl) ?_ ?_; rotate_left; (intro w'; go_simp; with_reducible rfl)
     refine pv 6 (some 103) (v := ?_) (bits 10 127) HT_ (by kernel_rfl) rfl rfl (fun _ _ _ h => h) (by kernel_rfl) ?_ ?_; rotate_left; (intro w'; go_simp; with_reducible rfl)
     refine tv 7 (some 104) (v := ?_) (bits 10 255) HT_ HW_ (by kernel_rfl) rfl rfl (fun _ _ _ h => h) (by kernel_rfl) hHeld ?_ ?_; rotate_left; (intro w' hS; obtain ⟨s0, s1, s2⟩ := hS; obtain ⟨_, hA, q0, q1⟩ := at_T61 s2 (j : Int) (by omega) (by omega); cases hA; rw [Int.toNat_natCast] at q0 q1; rw [hy] at q0 q1; go_simp; with_reducible rfl)
     refine norm_ (a' := ?_) ?_ ?_
     rotate_left
     ·simp only [Act.put, za, zb, zc, i64_w, i32_w]
      rfl
     refine one_ (i := 8) (N := some 105) (bits 10 511) rfl rfl (one_of HT_.out (by kernel_rfl)) (by decide) (fun K hK => ?_)
     refine goes_ Try.func38 (by kernel_rfl) rfl #[.slice AP1003 p1.length kP1003, .string y.f0] (by rfl) rfl rfl (by (try simp only [List.map_toArray, List.map_cons, List.map_nil]); rfl) ?_
     with_reducible refine cl (impl_PairGet.M _ _ p1 y.f0 _ (rc RP1003) (rl RP1003)) B fun w2002 hb B => ?_
     replace F3 := bn F3 hb
     replace F4 := bn F4 hb
     replace F5 := bn F5 hb
     replace RP := rn RP hb
     replace RS := rn RS hb
     replace RP1003 := rn RP1003 hb
     replace RS1003 := rn RS1003 hb
     replace RO1003 := rn RO1003 hb
     replace RT1003 := rn RT1003 hb
     clear hb
     refine ⟨_, rfl, ?_⟩
     refine hK.out _ _ ⟨F4.out, F3.out, (rc RP)⟩ (fun hHeld => ?_)
     clear hK K
     refine norm_ (a' := ?_) ?_ ?_
     rotate_left
     ·show Act.put _ (some 105) _ = _
      simp only [Act.put, za, zb, zc, i64_w, i32_w]
      rfl
     refine pv 9 (some 11) (v := ?_) (bits 10 1023) HT_ (by kernel_rfl) rfl rfl (fun _ _ _ h => h) (by kernel_rfl) ?_ ?_; rotate_left; (intro w'; go_simp; with_reducible rfl)
     refine norm_ (a' := ?_) ?_ ?_
     rotate_left
     ·simp only [Act.put, za, zb, zc, i64_w, i32_w]
      rfl
     refine done_ (done_of HT_.out (by kernel_rfl)) ?_
     clear c3_0 c3_1 c3_2 c3_3 c3_4 c3_5
     obtain ⟨c3_0, c3_1, c3_2, c3_3, c3_4, c3_5⟩ := cs6 F3
     clear c4_0 c4_1 c4_2 c4_3 c4_4 c4_5
     obtain ⟨c4_0, c4_1, c4_2, c4_3, c4_4, c4_5⟩ := cs6 F4
     clear c5_0 c5_1 c5_2 c5_3 c5_4 c5_5
     obtain ⟨c5_0, c5_1, c5_2, c5_3, c5_4, c5_5⟩ := cs6 F5)
    all_goals try go_wp2
    all_goals (
     refine rg (n := 10) (S := fun W => W.heap[g5]? = some (.cells #[.string c, .string b, .slice AO1003 p2.length kO1003, .slice AT1003 ss.length kT1003, .bool false, .string (⟨#[]⟩ : ByteArray)] 34 (0, 0)) ∧ W.heap[g3]? = some (.cells #[.string a, .string b, .slice (some ad) ps.length kP, .slice AS ss.length kS, .bool t, .string c] 34 (0, 0)) ∧ Kd.C k61 W (some ad) ps.length ps) (ds := []) #[false, false, false, false, false, false, false, false, false, false] (by kernel_rfl) rfl rfl ⟨F5.out, F3.out, (rc RP)⟩ id B (fun w2003 hb B hHeld => ?_)
     refine with_tabW laws_FnStateCut.tab16 laws_FnStateCut.bits16 (fun HT_ HW_ => ?_)
     replace F3 := bn F3 hb
     replace F4 := bn F4 hb
     replace F5 := bn F5 hb
     replace RP := rn RP hb
     replace RS := rn RS hb
     replace RP1003 := rn RP1003 hb
     replace RS1003 := rn RS1003 hb
     replace RO1003 := rn RO1003 hb
     replace RT1003 := rn RT1003 hb
     clear hb
     refine pv 0 (some 106) (v := ?_) (bits 10 1) HT_ (by kernel_rfl) rfl rfl (fun _ _ _ h => h) (by kernel_rfl) ?_ ?_; rotate_left; (intro w'; go_simp; with_reducible rfl)
     refine tv 1 (some 107) (v := ?_) (bits 10 3) HT_ HW_ (by kernel_rfl) rfl rfl (fun _ _ _ h => h) (by kernel_rfl) hHeld ?_ ?_; rotate_left; (intro w' hS; obtain ⟨s0, s1, s2⟩ := hS; obtain ⟨q0, q1, q2, q3, q4, q5⟩ := cs6 (Aside0.mk s0); go_simp; with_reducible rfl)
     refine pv 2 (some 108) (v := ?_) (bits 10 7) HT_ (by kernel_rfl) rfl rfl (fun _ _ _ h => h) (by kernel_rfl) ?_ ?_; rotate_left; (intro w'; go_simp; with_reducible rfl)
     refine tv 3 (some 109) (v := ?_) (bits 10 15) HT_ HW_ (by kernel_rfl) rfl rfl (fun _ _ _ h => h) (by kernel_rfl) hHeld ?_ ?_; rotate_left; (intro w' hS; obtain ⟨s0, s1, s2⟩ := hS; obtain ⟨q0, q1, q2, q3, q4, q5⟩ := cs6 (Aside0.mk s1); go_simp; with_reducible rfl)
     refine pv 4 (some 110) (v := ?_) (bits 10 31) HT_ (by kernel_rfl) rfl rfl (fun _ _ _ h => h) (by kernel_rfl) ?_ ?_; rotate_left; (intro w'; go_simp; with_reducible rfl)
     refine pv 5 (some 111) (v := ?_) (bits 10 63) HT_ (by kernel_rfl) rfl rfl (fun _ _ _ h => h) (by kernel_rfl) ?_ ?_; rotate_left; (intro w'; go_simp; with_reducible rfl)
     refine pv 6 (some 112) (v := ?_) (bits 10 127) HT_ (by kernel_rfl) rfl rfl (fun _ _ _ h => h) (by kernel_rfl) ?_ ?_; rotate_left; (intro w'; go_simp; with_reducible rfl)
     refine tv 7 (some 113) (v := ?_) (bits 10 255) HT_ HW_ (by kernel_rfl) rfl rfl (fun _ _ _ h => h) (by kernel_rfl) hHeld ?_ ?_; rotate_left; (intro w' hS; obtain ⟨s0, s1, s2⟩ := hS; obtain ⟨_, hA, q0, q1⟩ := at_T61 s2 (j : Int) (by omega) (by omega); cases hA; rw [Int.toNat_natCast] at q0 q1; rw [hy] at q0 q1; go_simp; with_reducible rfl)
     refine norm_ (a' := ?_) ?_ ?_
     rotate_left
     ·simp only [Act.put, za, zb, zc, i64_w, i32_w]
      rfl
     refine one_ (i := 8) (N := some 114) (bits 10 511) rfl rfl (one_of HT_.out (by kernel_rfl)) (by decide) (fun K hK => ?_)
     refine goes_ Try.func38 (by kernel_rfl) rfl #[.slice AO1003 p2.length kO1003, .string y.f0] (by rfl) rfl rfl (by (try simp only [List.map_toArray, List.map_cons, List.map_nil]); rfl) ?_
     with_reducible refine cl (impl_PairGet.M _ _ p2 y.f0 _ (rc RO1003) (rl RO1003)) B fun w2004 hb B => ?_
     replace F3 := bn F3 hb
     replace F4 := bn F4 hb
     replace F5 := bn F5 hb
     replace RP := rn RP hb
     replace RS := rn RS hb
     replace RP1003 := rn RP1003 hb
     replace RS1003 := rn RS1003 hb
     replace RO1003 := rn RO1003 hb
     replace RT1003 := rn RT1003 hb
     clear hb
     refine ⟨_, rfl, ?_⟩
     refine hK.out _ _ ⟨F5.out, F3.out, (rc RP)⟩ (fun hHeld => ?_)
     clear hK K
     refine norm_ (a' := ?_) ?_ ?_
     rotate_left
     ·show Act.put _ (some 114) _ = _
      simp only [Act.put, za, zb, zc, i64_w, i32_w]
      rfl
     refine pv 9 (some 12) (v := ?_) (bits 10 1023) HT_ (by kernel_rfl) rfl rfl (fun _ _ _ h => h) (by kernel_rfl) ?_ ?_; rotate_left; (intro w'; go_simp; with_reducible rfl)
     refine norm_ (a' := ?_) ?_ ?_
     rotate_left
     ·simp only [Act.put, za, zb, zc, i64_w, i32_w]
      rfl
     refine done_ (done_of HT_.out (by kernel_rfl)) ?_
     clear c3_0 c3_1 c3_2 c3_3 c3_4 c3_5
     obtain ⟨c3_0, c3_1, c3_2, c3_3, c3_4, c3_5⟩ := cs6 F3
     clear c4_0 c4_1 c4_2 c4_3 c4_4 c4_5
     obtain ⟨c4_0, c4_1, c4_2, c4_3, c4_4, c4_5⟩ := cs6 F4
     clear c5_0 c5_1 c5_2 c5_3 c5_4 c5_5
     obtain ⟨c5_0, c5_1, c5_2, c5_3, c5_4, c5_5⟩ := cs6 F5)
    all_goals try go_wp2
    all_goals (
     refine rg (n := 48) (S := fun W => W.heap[g4]? = some (.cells #[.string a, .string c, .slice AP1003 p1.length kP1003, .slice AS1003 ss.length kS1003, .bool false, .string (⟨#[]⟩ : ByteArray)] 34 (0, 0)) ∧ W.heap[g3]? = some (.cells #[.string a, .string b, .slice (some ad) ps.length kP, .slice AS ss.length kS, .bool t, .string c] 34 (0, 0)) ∧ Kd.C k61 W (some ad) ps.length ps ∧ W.heap[g5]? = some (.cells #[.string c, .string b, .slice AO1003 p2.length kO1003, .slice AT1003 ss.length kT1003, .bool false, .string (⟨#[]⟩ : ByteArray)] 34 (0, 0))) (ds := []) #[false, false, false, false, false, false, false, false, false, false, false, false, false, false, false, false, false, false, false, false, false, false, false, false, false, false, false, false, false, false, false, false, false, false, false, false, false, false, false, false, false, false, false, false, false, false, false, false] (by kernel_rfl) rfl rfl ⟨F4.out, F3.out, (rc RP), F5.out⟩ id B (fun w2005 hb B hHeld => ?_)
     refine with_tabW laws_FnStateCut.tab17 laws_FnStateCut.bits17 (fun HT_ HW_ => ?_)
     replace F3 := bn F3 hb
     replace F4 := bn F4 hb
     replace F5 := bn F5 hb
     replace RP := rn RP hb
     replace RS := rn RS hb
     replace RP1003 := rn RP1003 hb
     replace RS1003 := rn RS1003 hb
     replace RO1003 := rn RO1003 hb
     replace RT1003 := rn RT1003 hb
     clear hb
     refine pv 0 (some 115) (v := ?_) (bits 48 1) HT_ (by kernel_rfl) rfl rfl (fun _ _ _ h => h) (by kernel_rfl) ?_ ?_; rotate_left; (intro w'; go_simp; with_reducible rfl)
     refine tv 1 (some 116) (v := ?_) (bits 48 3) HT_ HW_ (by kernel_rfl) rfl rfl (fun _ _ _ h => h) (by kernel_rfl) hHeld ?_ ?_; rotate_left; (intro w' hS; obtain ⟨s0, s1, s2, s3⟩ := hS; obtain ⟨q0, q1, q2, q3, q4, q5⟩ := cs6 (Aside0.mk s0); go_simp; with_reducible rfl)
     refine pv 2 (some 117) (v := ?_) (bits 48 7) HT_ (by kernel_rfl) rfl rfl (fun _ _ _ h => h) (by kernel_rfl) ?_ ?_; rotate_left; (intro w'; go_simp; with_reducible rfl)
     refine tv 3 (some 118) (v := ?_) (bits 48 15) HT_ HW_ (by kernel_rfl) rfl rfl (fun _ _ _ h => h) (by kernel_rfl) hHeld ?_ ?_; rotate_left; (intro w' hS; obtain ⟨s0, s1, s2, s3⟩ := hS; obtain ⟨q0, q1, q2, q3, q4, q5⟩ := cs6 (Aside0.mk s1); go_simp; with_reducible rfl)
     refine pv 4 (some 119) (v := ?_) (bits 48 31) HT_ (by kernel_rfl) rfl rfl (fun _ _ _ h => h) (by kernel_rfl) ?_ ?_; rotate_left; (intro w'; go_simp; with_reducible rfl)
     refine pv 5 (some 120) (v := ?_) (bits 48 63) HT_ (by kernel_rfl) rfl rfl (fun _ _ _ h => h) (by kernel_rfl) ?_ ?_; rotate_left; (intro w'; go_simp; with_reducible rfl)
     refine pv 6 (some 121) (v := ?_) (bits 48 127) HT_ (by kernel_rfl) rfl rfl (fun _ _ _ h => h) (by kernel_rfl) ?_ ?_; rotate_left; (intro w'; go_simp; with_reducible rfl)
     refine tv 7 (some 122) (v := ?_) (bits 48 255) HT_ HW_ (by kernel_rfl) rfl rfl (fun _ _ _ h => h) (by kernel_rfl) hHeld ?_ ?_; rotate_left; (intro w' hS; obtain ⟨s0, s1, s2, s3⟩ := hS; obtain ⟨_, hA, q0, q1⟩ := at_T61 s2 (j : Int) (by omega) (by omega); cases hA; rw [Int.toNat_natCast] at q0 q1; rw [hy] at q0 q1; go_simp; with_reducible rfl)
     refine norm_ (a' := ?_) ?_ ?_
     rotate_left
     ·simp only [Act.put, za, zb, zc, i64_w, i32_w]
      rfl
     refine one_ (i := 8) (N := some 123) (bits 48 511) rfl rfl (one_of HT_.out (by kernel_rfl)) (by decide) (fun K hK => ?_)
     rcases hq1 : (hasB a c y.f0) with _ | _
     ·refine goes_ Try.func39 (by kernel_rfl) rfl #[.agg #[.string a, .string c], .string y.f0] (by rfl) rfl rfl (by (try simp only [List.map_toArray, List.map_cons, List.map_nil]); rfl) ?_
      with_reducible refine cl (clv (impl_IntervalHas.M a c y.f0 _) (congrArg Value.bool hq1)) B fun w2006 hb B => ?_
      replace F3 := bn F3 hb
      replace F4 := bn F4 hb
      replace F5 := bn F5 hb
      replace RP := rn RP hb
      replace RS := rn RS hb
      replace RP1003 := rn RP1003 hb
      replace RS1003 := rn RS1003 hb
      replace RO1003 := rn RO1003 hb
      replace RT1003 := rn RT1003 hb
      clear hb
      refine ⟨_, rfl, ?_⟩
      refine hK.out _ _ ⟨F4.out, F3.out, (rc RP), F5.out⟩ (fun hHeld => ?_)
      clear hK K
      refine norm_ (a' := ?_) ?_ ?_
      rotate_left
      ·show Act.put _ (some 123) _ = _
       simp only [Act.put, za, zb, zc, i64_w, i32_w]
       rfl
      refine pv 9 (some 124) (v := ?_) (bits 48 1023) HT_ (by kernel_rfl) rfl rfl (fun _ _ _ h => h) (by kernel_rfl) ?_ ?_; rotate_left; (intro w'; go_simp; with_reducible rfl)
      refine sv 10 (some 125) (bits 48 2047) HT_ (by kernel_rfl) rfl rfl (fun _ _ _ h => h) (by kernel_rfl) ?_
      refine sv 11 (some 126) (bits 48 4095) HT_ (by kernel_rfl) rfl rfl (fun _ _ _ h => h) (by kernel_rfl) ?_
      refine sv 12 (some 127) (bits 48 8191) HT_ (by kernel_rfl) rfl rfl (fun _ _ _ h => h) (by kernel_rfl) ?_
      refine sv 13 (some 128) (bits 48 16383) HT_ (by kernel_rfl) rfl rfl (fun _ _ _ h => h) (by kernel_rfl) ?_
      refine sv 14 (some 129) (bits 48 32767) HT_ (by kernel_rfl) rfl rfl (fun _ _ _ h => h) (by kernel_rfl) ?_
      refine sv 15 (some 130) (bits 48 65535) HT_ (by kernel_rfl) rfl rfl (fun _ _ _ h => h) (by kernel_rfl) ?_
      refine sv 16 (some 131) (bits 48 131071) HT_ (by kernel_rfl) rfl rfl (fun _ _ _ h => h) (by kernel_rfl) ?_
      refine sv 17 (some 132) (bits 48 262143) HT_ (by kernel_rfl) rfl rfl (fun _ _ _ h => h) (by kernel_rfl) ?_
      refine sv 18 (some 133) (bits 48 524287) HT_ (by kernel_rfl) rfl rfl (fun _ _ _ h => h) (by kernel_rfl) ?_
      refine sv 19 (some 134) (bits 48 1048575) HT_ (by kernel_rfl) rfl rfl (fun _ _ _ h => h) (by kernel_rfl) ?_
      refine sv 20 (some 135) (bits 48 2097151) HT_ (by kernel_rfl) rfl rfl (fun _ _ _ h => h) (by kernel_rfl) ?_
      refine sv 21 (some 136) (bits 48 4194303) HT_ (by kernel_rfl) rfl rfl (fun _ _ _ h => h) (by kernel_rfl) ?_
      refine pv 22 (some 137) (v := ?_) (bits 48 8388607) HT_ (by kernel_rfl) rfl rfl (fun _ _ _ h => h) (by kernel_rfl) ?_ ?_; rotate_left; (intro w'; go_simp; with_reducible rfl)
      refine pv 23 (some 138) (v := ?_) (bits 48 16777215) HT_ (by kernel_rfl) rfl rfl (fun _ _ _ h => h) (by kernel_rfl) ?_ ?_; rotate_left; (intro w'; go_simp; with_reducible rfl)
      refine pv 24 (some 139) (v := ?_) (bits 48 33554431) HT_ (by kernel_rfl) rfl rfl (fun _ _ _ h => h) (by kernel_rfl) ?_ ?_; rotate_left; (intro w'; go_simp; with_reducible rfl)
      refine tv 25 (some 140) (v := ?_) (bits 48 67108863) HT_ HW_ (by kernel_rfl) rfl rfl (fun _ _ _ h => h) (by kernel_rfl) hHeld ?_ ?_; rotate_left; (intro w' hS; obtain ⟨s0, s1, s2, s3⟩ := hS; obtain ⟨q0, q1, q2, q3, q4, q5⟩ := cs6 (Aside0.mk s3); go_simp; with_reducible rfl)
      refine pv 26 (some 141) (v := ?_) (bits 48 134217727) HT_ (by kernel_rfl) rfl rfl (fun _ _ _ h => h) (by kernel_rfl) ?_ ?_; rotate_left; (intro w'; go_simp; with_reducible rfl)
      refine tv 27 (some 142) (v := ?_) (bits 48 268435455) HT_ HW_ (by kernel_rfl) rfl rfl (fun _ _ _ h => h) (by kernel_rfl) hHeld ?_ ?_; rotate_left; (intro w' hS; obtain ⟨s0, s1, s2, s3⟩ := hS; obtain ⟨q0, q1, q2, q3, q4, q5⟩ := cs6 (Aside0.mk s1); go_simp; with_reducible rfl)
      refine pv 28 (some 143) (v := ?_) (bits 48 536870911) HT_ (by kernel_rfl) rfl rfl (fun _ _ _ h => h) (by kernel_rfl) ?_ ?_; rotate_left; (intro w'; go_simp; with_reducible rfl)
      refine pv 29 (some 144) (v := ?_) (bits 48 1073741823) HT_ (by kernel_rfl) rfl rfl (fun _ _ _ h => h) (by kernel_rfl) ?_ ?_; rotate_left; (intro w'; go_simp; with_reducible rfl)
      refine pv 30 (some 145) (v := ?_) (bits 48 2147483647) HT_ (by kernel_rfl) rfl rfl (fun _ _ _ h => h) (by kernel_rfl) ?_ ?_; rotate_left; (intro w'; go_simp; with_reducible rfl)
      refine tv 31 (some 146) (v := ?_) (bits 48 4294967295) HT_ HW_ (by kernel_rfl) rfl rfl (fun _ _ _ h => h) (by kernel_rfl) hHeld ?_ ?_; rotate_left; (intro w' hS; obtain ⟨s0, s1, s2, s3⟩ := hS; obtain ⟨_, hA, q0, q1⟩ := at_T61 s2 (j : Int) (by omega) (by omega); cases hA; rw [Int.toNat_natCast] at q0 q1; rw [hy] at q0 q1; go_simp; with_reducible rfl)
      refine norm_ (a' := ?_) ?_ ?_
      rotate_left
      ·simp only [Act.put, za, zb, zc, i64_w, i32_w]
       rfl
      refine one_ (i := 32) (N := some 147) (bits 48 8589934591) rfl rfl (one_of HT_.out (by kernel_rfl)) (by decide) (fun K hK => ?_)
      rcases hq2 : (hasB c b y.f0) with _ | _
      ·refine goes_ Try.func39 (by kernel_rfl) rfl #[.agg #[.string c, .string b], .string y.f0] (by rfl) rfl rfl (by (try simp only [List.map_toArray, List.map_cons, List.map_nil]); rfl) ?_
       with_reducible refine cl (clv (impl_IntervalHas.M c b y.f0 _) (congrArg Value.bool hq2)) B fun w2007 hb B => ?_
       replace F3 := bn F3 hb
       replace F4 := bn F4 hb
       replace F5 := bn F5 hb
       replace RP := rn RP hb
       replace RS := rn RS hb
       replace RP1003 := rn RP1003 hb
       replace RS1003 := rn RS1003 hb
       replace RO1003 := rn RO1003 hb
       replace RT1003 := rn RT1003 hb
       clear hb
       refine ⟨_, rfl, ?_⟩
       refine hK.out _ _ ⟨F4.out, F3.out, (rc RP), F5.out⟩ (fun hHeld => ?_)
       clear hK K
       refine norm_ (a' := ?_) ?_ ?_
       rotate_left
       ·show Act.put _ (some 147) _ = _
        simp only [Act.put, za, zb, zc, i64_w, i32_w]
        rfl
       refine pv 33 (some 148) (v := ?_) (bits 48 17179869183) HT_ (by kernel_rfl) rfl rfl (fun _ _ _ h => h) (by kernel_rfl) ?_ ?_; rotate_left; (intro w'; go_simp; with_reducible rfl)
       refine sv 34 (some 149) (bits 48 34359738367) HT_ (by kernel_rfl) rfl rfl (fun _ _ _ h => h) (by kernel_rfl) ?_
       refine sv 35 (some 150) (bits 48 68719476735) HT_ (by kernel_rfl) rfl rfl (fun _ _ _ h => h) (by kernel_rfl) ?_
       refine sv 36 (some 151) (bits 48 137438953471) HT_ (by kernel_rfl) rfl rfl (fun _ _ _ h => h) (by kernel_rfl) ?_
       refine sv 37 (some 152) (bits 48 274877906943) HT_ (by kernel_rfl) rfl rfl (fun _ _ _ h => h) (by kernel_rfl) ?_
       refine sv 38 (some 153) (bits 48 549755813887) HT_ (by kernel_rfl) rfl rfl (fun _ _ _ h => h) (by kernel_rfl) ?_
       refine sv 39 (some 154) (bits 48 1099511627775) HT_ (by kernel_rfl) rfl rfl (fun _ _ _ h => h) (by kernel_rfl) ?_
       refine sv 40 (some 155) (bits 48 2199023255551) HT_ (by kernel_rfl) rfl rfl (fun _ _ _ h => h) (by kernel_rfl) ?_
       refine sv 41 (some 156) (bits 48 4398046511103) HT_ (by kernel_rfl) rfl rfl (fun _ _ _ h => h) (by kernel_rfl) ?_
       refine sv 42 (some 157) (bits 48 8796093022207) HT_ (by kernel_rfl) rfl rfl (fun _ _ _ h => h) (by kernel_rfl) ?_
       refine sv 43 (some 158) (bits 48 17592186044415) HT_ (by kernel_rfl) rfl rfl (fun _ _ _ h => h) (by kernel_rfl) ?_
       refine sv 44 (some 159) (bits 48 35184372088831) HT_ (by kernel_rfl) rfl rfl (fun _ _ _ h => h) (by kernel_rfl) ?_
       refine sv 45 (some 160) (bits 48 70368744177663) HT_ (by kernel_rfl) rfl rfl (fun _ _ _ h => h) (by kernel_rfl) ?_
       refine pv 46 (some 161) (v := ?_) (bits 48 140737488355327) HT_ (by kernel_rfl) rfl rfl (fun _ _ _ h => h) (by kernel_rfl) ?_ ?_; rotate_left; (intro w'; go_simp; with_reducible rfl)
       refine pv 47 (some 162) (v := ?_) (bits 48 281474976710655) HT_ (by kernel_rfl) rfl rfl (fun _ _ _ h => h) (by kernel_rfl) ?_ ?_; rotate_left; (intro w'; go_simp; with_reducible rfl)
       refine norm_ (a' := ?_) ?_ ?_
       rotate_left
       ·simp only [Act.put, za, zb, zc, i64_w, i32_w]
        rfl
       refine done_ (done_of HT_.out (by kernel_rfl)) ?_
       clear c3_0 c3_1 c3_2 c3_3 c3_4 c3_5
       obtain ⟨c3_0, c3_1, c3_2, c3_3, c3_4, c3_5⟩ := cs6 F3
       clear c4_0 c4_1 c4_2 c4_3 c4_4 c4_5
       obtain ⟨c4_0, c4_1, c4_2, c4_3, c4_4, c4_5⟩ := cs6 F4
       clear c5_0 c5_1 c5_2 c5_3 c5_4 c5_5
       obtain ⟨c5_0, c5_1, c5_2, c5_3, c5_4, c5_5⟩ := cs6 F5
       try go_wp2
       go_roundg d
       case measure => omega
       case rel => exact ⟨j + 1, congrArg (Value.int .i64) (by omega), by omega, by omega, B, F3, F4, F5, RP, RS, RP1003, RS1003, RO1003, RT1003⟩
      ·have e3 := d3 hq2
       have e4 := d4 hq2
       refine goes_ Try.func39 (by kernel_rfl) rfl #[.agg #[.string c, .string b], .string y.f0] (by rfl) rfl rfl (by (try simp only [List.map_toArray, List.map_cons, List.map_nil]); rfl) ?_
       with_reducible refine cl (clv (impl_IntervalHas.M c b y.f0 _) (congrArg Value.bool hq2)) B fun w2007 hb B => ?_
       replace F3 := bn F3 hb
       replace F4 := bn F4 hb
       replace F5 := bn F5 hb
       replace RP := rn RP hb
       replace RS := rn RS hb
       replace RP1003 := rn RP1003 hb
       replace RS1003 := rn RS1003 hb
       replace RO1003 := rn RO1003 hb
       replace RT1003 := rn RT1003 hb
       clear hb
       refine ⟨_, rfl, ?_⟩
       refine hK.out _ _ ⟨F4.out, F3.out, (rc RP), F5.out⟩ (fun hHeld => ?_)
       clear hK K
       refine norm_ (a' := ?_) ?_ ?_
       rotate_left
       ·show Act.put _ (some 147) _ = _
        simp only [Act.put, za, zb, zc, i64_w, i32_w]
        rfl
       refine pv 33 (some 148) (v := ?_) (bits 48 17179869183) HT_ (by kernel_rfl) rfl rfl (fun _ _ _ h => h) (by kernel_rfl) ?_ ?_; rotate_left; (intro w'; go_simp; with_reducible rfl)
       refine pv 34 (some 149) (v := ?_) (bits 48 34359738367) HT_ (by kernel_rfl) rfl rfl (fun _ _ _ h => h) (by kernel_rfl) ?_ ?_; rotate_left; (intro w'; go_simp; with_reducible rfl)
       refine pv 35 (some 150) (v := ?_) (bits 48 68719476735) HT_ (by kernel_rfl) rfl rfl (fun _ _ _ h => h) (by kernel_rfl) ?_ ?_; rotate_left; (intro w'; go_simp; with_reducible rfl)
       refine tv 36 (some 151) (v := ?_) (bits 48 137438953471) HT_ HW_ (by kernel_rfl) rfl rfl (fun _ _ _ h => h) (by kernel_rfl) hHeld ?_ ?_; rotate_left; (intro w' hS; obtain ⟨s0, s1, s2, s3⟩ := hS; obtain ⟨q0, q1, q2, q3, q4, q5⟩ := cs6 (Aside0.mk s1); go_simp; with_reducible rfl)
       refine pv 37 (some 152) (v := ?_) (bits 48 274877906943) HT_ (by kernel_rfl) rfl rfl (fun _ _ _ h => h) (by kernel_rfl) ?_ ?_; rotate_left; (intro w'; go_simp; with_reducible rfl)
       refine pv 38 (some 153) (v := ?_) (bits 48 549755813887) HT_ (by kernel_rfl) rfl rfl (fun _ _ _ h => h) (by kernel_rfl) ?_ ?_; rotate_left; (intro w'; go_simp; with_reducible rfl)
       refine pv 39 (some 154) (v := ?_) (bits 48 1099511627775) HT_ (by kernel_rfl) rfl rfl (fun _ _ _ h => h) (by kernel_rfl) ?_ ?_; rotate_left; (intro w'; go_simp; with_reducible rfl)
       refine tv 40 (some 155) (v := ?_) (bits 48 2199023255551) HT_ HW_ (by kernel_rfl) rfl rfl (fun _ _ _ h => h) (by kernel_rfl) hHeld ?_ ?_; rotate_left; (intro w' hS; obtain ⟨s0, s1, s2, s3⟩ := hS; obtain ⟨_, hA, q0, q1⟩ := at_T61 s2 (j : Int) (by omega) (by omega); cases hA; rw [Int.toNat_natCast] at q0 q1; rw [hy] at q0 q1; go_simp; with_reducible rfl)
       refine pv 41 (some 156) (v := ?_) (bits 48 4398046511103) HT_ (by kernel_rfl) rfl rfl (fun _ _ _ h => h) (by kernel_rfl) ?_ ?_; rotate_left; (intro w'; go_simp; with_reducible rfl)
       refine pv 42 (some 157) (v := ?_) (bits 48 8796093022207) HT_ (by kernel_rfl) rfl rfl (fun _ _ _ h => h) (by kernel_rfl) ?_ ?_; rotate_left; (intro w'; go_simp; with_reducible rfl)
       refine pv 43 (some 158) (v := ?_) (bits 48 17592186044415) HT_ (by kernel_rfl) rfl rfl (fun _ _ _ h => h) (by kernel_rfl) ?_ ?_; rotate_left; (intro w'; go_simp; with_reducible rfl)
       refine pv 44 (some 159) (v := ?_) (bits 48 35184372088831) HT_ (by kernel_rfl) rfl rfl (fun _ _ _ h => h) (by kernel_rfl) ?_ ?_; rotate_left; (intro w'; go_simp; with_reducible rfl)
       refine pv 45 (some 160) (v := ?_) (bits 48 70368744177663) HT_ (by kernel_rfl) rfl rfl (fun _ _ _ h => h) (by kernel_rfl) ?_ ?_; rotate_left; (intro w'; go_simp; with_reducible rfl)
       refine pv 46 (some 161) (v := ?_) (bits 48 140737488355327) HT_ (by kernel_rfl) rfl rfl (fun _ _ _ h => h) (by kernel_rfl) ?_ ?_; rotate_left; (intro w'; go_simp; with_reducible rfl)
       refine pv 47 (some 162) (v := ?_) (bits 48 281474976710655) HT_ (by kernel_rfl) rfl rfl (fun _ _ _ h => h) (by kernel_rfl) ?_ ?_; rotate_left; (intro w'; go_simp; with_reducible rfl)
       refine norm_ (a' := ?_) ?_ ?_
       rotate_left
       ·simp only [Act.put, za, zb, zc, i64_w, i32_w]
        rfl
       refine done_ (done_of HT_.out (by kernel_rfl)) ?_
       clear c3_0 c3_1 c3_2 c3_3 c3_4 c3_5
       obtain ⟨c3_0, c3_1, c3_2, c3_3, c3_4, c3_5⟩ := cs6 F3
       clear c4_0 c4_1 c4_2 c4_3 c4_4 c4_5
       obtain ⟨c4_0, c4_1, c4_2, c4_3, c4_4, c4_5⟩ := cs6 F4
       clear c5_0 c5_1 c5_2 c5_3 c5_4 c5_5
       obtain ⟨c5_0, c5_1, c5_2, c5_3, c5_4, c5_5⟩ := cs6 F5
       try go_wp2
       go_roundg d
       case measure => omega
       case rel => exact ⟨j + 1, congrArg (Value.int .i64) (by omega), by omega, by omega, B, F3, F4, F5, RP, RS, RP1003, RS1003, RO1003, RT1003⟩
     ·have e1 := d1 hq1
      have e2 := d2 hq1
      refine goes_ Try.func39 (by kernel_rfl) rfl #[.agg #[.string a, .string c], .string y.f0] (by rfl) rfl rfl (by (try simp only [List.map_toArray, List.map_cons, List.map_nil]); rfl) ?_
      with_reducible refine cl (clv (impl_IntervalHas.M a c y.f0 _) (congrArg Value.bool hq1)) B fun w2006 hb B => ?_
      replace F3 := bn F3 hb
      replace F4 := bn F4 hb
      replace F5 := bn F5 hb
      replace RP := rn RP hb
      replace RS := rn RS hb
      replace RP1003 := rn RP1003 hb
      replace RS1003 := rn RS1003 hb
      replace RO1003 := rn RO1003 hb
      replace RT1003 := rn RT1003 hb
      clear hb
      refine ⟨_, rfl, ?_⟩
      refine hK.out _ _ ⟨F4.out, F3.out, (rc RP), F5.out⟩ (fun hHeld => ?_)
      clear hK K
      refine norm_ (a' := ?_) ?_ ?_
      rotate_left
      ·show Act.put _ (some 123) _ = _
       simp only [Act.put, za, zb, zc, i64_w, i32_w]
       rfl
      refine pv 9 (some 124) (v := ?_) (bits 48 1023) HT_ (by kernel_rfl) rfl rfl (fun _ _ _ h => h) (by kernel_rfl) ?_ ?_; rotate_left; (intro w'; go_simp; with_reducible rfl)
      refine pv 10 (some 125) (v := ?_) (bits 48 2047) HT_ (by kernel_rfl) rfl rfl (fun _ _ _ h => h) (by kernel_rfl) ?_ ?_; rotate_left; (intro w'; go_simp; with_reducible rfl)
      refine pv 11 (some 126) (v := ?_) (bits 48 4095) HT_ (by kernel_rfl) rfl rfl (fun _ _ _ h => h) (by kernel_rfl) ?_ ?_; rotate_left; (intro w'; go_simp; with_reducible rfl)
      refine tv 12 (some 127) (v := ?_) (bits 48 8191) HT_ HW_ (by kernel_rfl) rfl rfl (fun _ _ _ h => h) (by kernel_rfl) hHeld ?_ ?_; rotate_left; (intro w' hS; obtain ⟨s0, s1, s2, s3⟩ := hS; obtain ⟨q0, q1, q2, q3, q4, q5⟩ := cs6 (Aside0.mk s1); go_simp; with_reducible rfl)
      refine pv 13 (some 128) (v := ?_) (bits 48 16383) HT_ (by kernel_rfl) rfl rfl (fun _ _ _ h => h) (by kernel_rfl) ?_ ?_; rotate_left; (intro w'; go_simp; with_reducible rfl)
      refine pv 14 (some 129) (v := ?_) (bits 48 32767) HT_ (by kernel_rfl) rfl rfl (fun _ _ _ h => h) (by kernel_rfl) ?_ ?_; rotate_left; (intro w'; go_simp; with_reducible rfl)
      refine pv 15 (some 130) (v := ?_) (bits 48 65535) HT_ (by kernel_rfl) rfl rfl (fun _ _ _ h => h) (by kernel_rfl) ?_ ?_; rotate_left; (intro w'; go_simp; with_reducible rfl)
      refine tv 16 (some 131) (v := ?_) (bits 48 131071) HT_ HW_ (by kernel_rfl) rfl rfl (fun _ _ _ h => h) (by kernel_rfl) hHeld ?_ ?_; rotate_left; (intro w' hS; obtain ⟨s0, s1, s2, s3⟩ := hS; obtain ⟨_, hA, q0, q1⟩ := at_T61 s2 (j : Int) (by omega) (by omega); cases hA; rw [Int.toNat_natCast] at q0 q1; rw [hy] at q0 q1; go_simp; with_reducible rfl)
      refine pv 17 (some 132) (v := ?_) (bits 48 262143) HT_ (by kernel_rfl) rfl rfl (fun _ _ _ h => h) (by kernel_rfl) ?_ ?_; rotate_left; (intro w'; go_simp; with_reducible rfl)
      refine pv 18 (some 133) (v := ?_) (bits 48 524287) HT_ (by kernel_rfl) rfl rfl (fun _ _ _ h => h) (by kernel_rfl) ?_ ?_; rotate_left; (intro w'; go_simp; with_reducible rfl)
      refine pv 19 (some 134) (v := ?_) (bits 48 1048575) HT_ (by kernel_rfl) rfl rfl (fun _ _ _ h => h) (by kernel_rfl) ?_ ?_; rotate_left; (intro w'; go_simp; with_reducible rfl)
      refine pv 20 (some 135) (v := ?_) (bits 48 2097151) HT_ (by kernel_rfl) rfl rfl (fun _ _ _ h => h) (by kernel_rfl) ?_ ?_; rotate_left; (intro w'; go_simp; with_reducible rfl)
      refine pv 21 (some 136) (v := ?_) (bits 48 4194303) HT_ (by kernel_rfl) rfl rfl (fun _ _ _ h => h) (by kernel_rfl) ?_ ?_; rotate_left; (intro w'; go_simp; with_reducible rfl)
      refine pv 22 (some 137) (v := ?_) (bits 48 8388607) HT_ (by kernel_rfl) rfl rfl (fun _ _ _ h => h) (by kernel_rfl) ?_ ?_; rotate_left; (intro w'; go_simp; with_reducible rfl)
      refine pv 23 (some 138) (v := ?_) (bits 48 16777215) HT_ (by kernel_rfl) rfl rfl (fun _ _ _ h => h) (by kernel_rfl) ?_ ?_; rotate_left; (intro w'; go_simp; with_reducible rfl)
      refine pv 24 (some 139) (v := ?_) (bits 48 33554431) HT_ (by kernel_rfl) rfl rfl (fun _ _ _ h => h) (by kernel_rfl) ?_ ?_; rotate_left; (intro w'; go_simp; with_reducible rfl)
      refine tv 25 (some 140) (v := ?_) (bits 48 67108863) HT_ HW_ (by kernel_rfl) rfl rfl (fun _ _ _ h => h) (by kernel_rfl) hHeld ?_ ?_; rotate_left; (intro w' hS; obtain ⟨s0, s1, s2, s3⟩ := hS; obtain ⟨q0, q1, q2, q3, q4, q5⟩ := cs6 (Aside0.mk s3); go_simp; with_reducible rfl)
      refine pv 26 (some 141) (v := ?_) (bits 48 134217727) HT_ (by kernel_rfl) rfl rfl (fun _ _ _ h => h) (by kernel_rfl) ?_ ?_; rotate_left; (intro w'; go_simp; with_reducible rfl)
      refine tv 27 (some 142) (v := ?_) (bits 48 268435455) HT_ HW_ (by kernel_rfl) rfl rfl (fun _ _ _ h => h) (by kernel_rfl) hHeld ?_ ?_; rotate_left; (intro w' hS; obtain ⟨s0, s1, s2, s3⟩ := hS; obtain ⟨q0, q1, q2, q3, q4, q5⟩ := cs6 (Aside0.mk s1); go_simp; with_reducible rfl)
      refine pv 28 (some 143) (v := ?_) (bits 48 536870911) HT_ (by kernel_rfl) rfl rfl (fun _ _ _ h => h) (by kernel_rfl) ?_ ?_; rotate_left; (intro w'; go_simp; with_reducible rfl)
      refine pv 29 (some 144) (v := ?_) (bits 48 1073741823) HT_ (by kernel_rfl) rfl rfl (fun _ _ _ h => h) (by kernel_rfl) ?_ ?_; rotate_left; (intro w'; go_simp; with_reducible rfl)
      refine pv 30 (some 145) (v := ?_) (bits 48 2147483647) HT_ (by kernel_rfl) rfl rfl (fun _ _ _ h => h) (by kernel_rfl) ?_ ?_; rotate_left; (intro w'; go_simp; with_reducible rfl)
      refine tv 31 (some 146) (v := ?_) (bits 48 4294967295) HT_ HW_ (by kernel_rfl) rfl rfl (fun _ _ _ h => h) (by kernel_rfl) hHeld ?_ ?_; rotate_left; (intro w' hS; obtain ⟨s0, s1, s2, s3⟩ := hS; obtain ⟨_, hA, q0, q1⟩ := at_T61 s2 (j : Int) (by omega) (by omega); cases hA; rw [Int.toNat_natCast] at q0 q1; rw [hy] at q0 q1; go_simp; with_reducible rfl)
      refine norm_ (a' := ?_) ?_ ?_
      rotate_left
      ·simp only [Act.put, za, zb, zc, i64_w, i32_w]
       rfl
      refine one_ (i := 32) (N := some 147) (bits 48 8589934591) rfl rfl (one_of HT_.out (by kernel_rfl)) (by decide) (fun K hK => ?_)
      rcases hq3 : (hasB c b y.f0) with _ | _
      ·refine goes_ Try.func39 (by kernel_rfl) rfl #[.agg #[.string c, .string b], .string y.f0] (by rfl) rfl rfl (by (try simp only [List.map_toArray, List.map_cons, List.map_nil]); rfl) ?_
       with_reducible refine cl (clv (impl_IntervalHas.M c b y.f0 _) (congrArg Value.bool hq3)) B fun w2008 hb B => ?_
       replace F3 := bn F3 hb
       replace F4 := bn F4 hb
       replace F5 := bn F5 hb
       replace RP := rn RP hb
       replace RS := rn RS hb
       replace RP1003 := rn RP1003 hb
       replace RS1003 := rn RS1003 hb
       replace RO1003 := rn RO1003 hb
       replace RT1003 := rn RT1003 hb
       clear hb
       refine ⟨_, rfl, ?_⟩
       refine hK.out _ _ ⟨F4.out, F3.out, (rc RP), F5.out⟩ (fun hHeld => ?_)
       clear hK K
       refine norm_ (a' := ?_) ?_ ?_
       rotate_left
       ·show Act.put _ (some 147) _ = _
        simp only [Act.put, za, zb, zc, i64_w, i32_w]
        rfl
       refine pv 33 (some 148) (v := ?_) (bits 48 17179869183) HT_ (by kernel_rfl) rfl rfl (fun _ _ _ h => h) (by kernel_rfl) ?_ ?_; rotate_left; (intro w'; go_simp; with_reducible rfl)
       refine sv 34 (some 149) (bits 48 34359738367) HT_ (by kernel_rfl) rfl rfl (fun _ _ _ h => h) (by kernel_rfl) ?_
       refine sv 35 (some 150) (bits 48 68719476735) HT_ (by kernel_rfl) rfl rfl (fun _ _ _ h => h) (by kernel_rfl) ?_
       refine sv 36 (some 151) (bits 48 137438953471) HT_ (by kernel_rfl) rfl rfl (fun _ _ _ h => h) (by kernel_rfl) ?_
       refine sv 37 (some 152) (bits 48 274877906943) HT_ (by kernel_rfl) rfl rfl (fun _ _ _ h => h) (by kernel_rfl) ?_
       refine sv 38 (some 153) (bits 48 549755813887) HT_ (by kernel_rfl) rfl rfl (fun _ _ _ h => h) (by kernel_rfl) ?_
       refine sv 39 (some 154) (bits 48 1099511627775) HT_ (by kernel_rfl) rfl rfl (fun _ _ _ h => h) (by kernel_rfl) ?_
       refine sv 40 (some 155) (bits 48 2199023255551) HT_ (by kernel_rfl) rfl rfl (fun _ _ _ h => h) (by kernel_rfl) ?_
       refine sv 41 (some 156) (bits 48 4398046511103) HT_ (by kernel_rfl) rfl rfl (fun _ _ _ h => h) (by kernel_rfl) ?_
       refine sv 42 (some 157) (bits 48 8796093022207) HT_ (by kernel_rfl) rfl rfl (fun _ _ _ h => h) (by kernel_rfl) ?_
       refine sv 43 (some 158) (bits 48 17592186044415) HT_ (by kernel_rfl) rfl rfl (fun _ _ _ h => h) (by kernel_rfl) ?_
       refine sv 44 (some 159) (bits 48 35184372088831) HT_ (by kernel_rfl) rfl rfl (fun _ _ _ h => h) (by kernel_rfl) ?_
       refine sv 45 (some 160) (bits 48 70368744177663) HT_ (by kernel_rfl) rfl rfl (fun _ _ _ h => h) (by kernel_rfl) ?_
       refine pv 46 (some 161) (v := ?_) (bits 48 140737488355327) HT_ (by kernel_rfl) rfl rfl (fun _ _ _ h => h) (by kernel_rfl) ?_ ?_; rotate_left; (intro w'; go_simp; with_reducible rfl)
       refine pv 47 (some 162) (v := ?_) (bits 48 281474976710655) HT_ (by kernel_rfl) rfl rfl (fun _ _ _ h => h) (by kernel_rfl) ?_ ?_; rotate_left; (intro w'; go_simp; with_reducible rfl)
       refine norm_ (a' := ?_) ?_ ?_
       rotate_left
       ·simp only [Act.put, za, zb, zc, i64_w, i32_w]
        rfl
       refine done_ (done_of HT_.out (by kernel_rfl)) ?_
       clear c3_0 c3_1 c3_2 c3_3 c3_4 c3_5
       obtain ⟨c3_0, c3_1, c3_2, c3_3, c3_4, c3_5⟩ := cs6 F3
       clear c4_0 c4_1 c4_2 c4_3 c4_4 c4_5
       obtain ⟨c4_0, c4_1, c4_2, c4_3, c4_4, c4_5⟩ := cs6 F4
       clear c5_0 c5_1 c5_2 c5_3 c5_4 c5_5
       obtain ⟨c5_0, c5_1, c5_2, c5_3, c5_4, c5_5⟩ := cs6 F5
       try go_wp2
       go_roundg d
       case measure => omega
       case rel => exact ⟨j + 1, congrArg (Value.int .i64) (by omega), by omega, by omega, B, F3, F4, F5, RP, RS, RP1003, RS1003, RO1003, RT1003⟩
      ·have e3 := d3 hq3
       have e4 := d4 hq3
       refine goes_ Try.func39 (by kernel_rfl) rfl #[.agg #[.string c, .string b], .string y.f0] (by rfl) rfl rfl (by (try simp only [List.map_toArray, List.map_cons, List.map_nil]); rfl) ?_
       with_reducible refine cl (clv (impl_IntervalHas.M c b y.f0 _) (congrArg Value.bool hq3)) B fun w2008 hb B => ?_
       replace F3 := bn F3 hb
       replace F4 := bn F4 hb
       replace F5 := bn F5 hb
       replace RP := rn RP hb
       replace RS := rn RS hb
       replace RP1003 := rn RP1003 hb
       replace RS1003 := rn RS1003 hb
       replace RO1003 := rn RO1003 hb
       replace RT1003 := rn RT1003 hb
       clear hb
       refine ⟨_, rfl, ?_⟩
       refine hK.out _ _ ⟨F4.out, F3.out, (rc RP), F5.out⟩ (fun hHeld => ?_)
       clear hK K
       refine norm_ (a' := ?_) ?_ ?_
       rotate_left
       ·show Act.put _ (some 147) _ = _
        simp only [Act.put, za, zb, zc, i64_w, i32_w]
        rfl
       refine pv 33 (some 148) (v := ?_) (bits 48 17179869183) HT_ (by kernel_rfl) rfl rfl (fun _ _ _ h => h) (by kernel_rfl) ?_ ?_; rotate_left; (intro w'; go_simp; with_reducible rfl)
       refine pv 34 (some 149) (v := ?_) (bits 48 34359738367) HT_ (by kernel_rfl) rfl rfl (fun _ _ _ h => h) (by kernel_rfl) ?_ ?_; rotate_left; (intro w'; go_simp; with_reducible rfl)
       refine pv 35 (some 150) (v := ?_) (bits 48 68719476735) HT_ (by kernel_rfl) rfl rfl (fun _ _ _ h => h) (by kernel_rfl) ?_ ?_; rotate_left; (intro w'; go_simp; with_reducible rfl)
       refine tv 36 (some 151) (v := ?_) (bits 48 137438953471) HT_ HW_ (by kernel_rfl) rfl rfl (fun _ _ _ h => h) (by kernel_rfl) hHeld ?_ ?_; rotate_left; (intro w' hS; obtain ⟨s0, s1, s2, s3⟩ := hS; obtain ⟨q0, q1, q2, q3, q4, q5⟩ := cs6 (Aside0.mk s1); go_simp; with_reducible rfl)
       refine pv 37 (some 152) (v := ?_) (bits 48 274877906943) HT_ (by kernel_rfl) rfl rfl (fun _ _ _ h => h) (by kernel_rfl) ?_ ?_; rotate_left; (intro w'; go_simp; with_reducible rfl)
       refine pv 38 (some 153) (v := ?_) (bits 48 549755813887) HT_ (by kernel_rfl) rfl rfl (fun _ _ _ h => h) (by kernel_rfl) ?_ ?_; rotate_left; (intro w'; go_simp; with_reducible rfl)
       refine pv 39 (some 154) (v := ?_) (bits 48 1099511627775) HT_ (by kernel_rfl) rfl rfl (fun _ _ _ h => h) (by kernel_rfl) ?_ ?_; rotate_left; (intro w'; go_simp; with_reducible rfl)
       refine tv 40 (some 155) (v := ?_) (bits 48 2199023255551) HT_ HW_ (by kernel_rfl) rfl rfl (fun _ _ _ h => h) (by kernel_rfl) hHeld ?_ ?_; rotate_left; (intro w' hS; obtain ⟨s0, s1, s2, s3⟩ := hS; obtain ⟨_, hA, q0, q1⟩ := at_T61 s2 (j : Int) (by omega) (by omega); cases hA; rw [Int.toNat_natCast] at q0 q1; rw [hy] at q0 q1; go_simp; with_reducible rfl)
       refine pv 41 (some 156) (v := ?_) (bits 48 4398046511103) HT_ (by kernel_rfl) rfl rfl (fun _ _ _ h => h) (by kernel_rfl) ?_ ?_; rotate_left; (intro w'; go_simp; with_reducible rfl)
       refine pv 42 (some 157) (v := ?_) (bits 48 8796093022207) HT_ (by kernel_rfl) rfl rfl (fun _ _ _ h => h) (by kernel_rfl) ?_ ?_; rotate_left; (intro w'; go_simp; with_reducible rfl)
       refine pv 43 (some 158) (v := ?_) (bits 48 17592186044415) HT_ (by kernel_rfl) rfl rfl (fun _ _ _ h => h) (by kernel_rfl) ?_ ?_; rotate_left; (intro w'; go_simp; with_reducible rfl)
       refine pv 44 (some 159) (v := ?_) (bits 48 35184372088831) HT_ (by kernel_rfl) rfl rfl (fun _ _ _ h => h) (by kernel_rfl) ?_ ?_; rotate_left; (intro w'; go_simp; with_reducible rfl)
       refine pv 45 (some 160) (v := ?_) (bits 48 70368744177663) HT_ (by kernel_rfl) rfl rfl (fun _ _ _ h => h) (by kernel_rfl) ?_ ?_; rotate_left; (intro w'; go_simp; with_reducible rfl)
       refine pv 46 (some 161) (v := ?_) (bits 48 140737488355327) HT_ (by kernel_rfl) rfl rfl (fun _ _ _ h => h) (by kernel_rfl) ?_ ?_; rotate_left; (intro w'; go_simp; with_reducible rfl)
       refine pv 47 (some 162) (v := ?_) (bits 48 281474976710655) HT_ (by kernel_rfl) rfl rfl (fun _ _ _ h => h) (by kernel_rfl) ?_ ?_; rotate_left; (intro w'; go_simp; with_reducible rfl)
       refine norm_ (a' := ?_) ?_ ?_
       rotate_left
       ·simp only [Act.put, za, zb, zc, i64_w, i32_w]
        rfl
       refine done_ (done_of HT_.out (by kernel_rfl)) ?_
       clear c3_0 c3_1 c3_2 c3_3 c3_4 c3_5
       obtain ⟨c3_0, c3_1, c3_2, c3_3, c3_4, c3_5⟩ := cs6 F3
       clear c4_0 c4_1 c4_2 c4_3 c4_4 c4_5
       obtain ⟨c4_0, c4_1, c4_2, c4_3, c4_4, c4_5⟩ := cs6 F4
       clear c5_0 c5_1 c5_2 c5_3 c5_4 c5_5
       obtain ⟨c5_0, c5_1, c5_2, c5_3, c5_4, c5_5⟩ := cs6 F5
       try go_wp2
       go_roundg d
       case measure => omega
       case rel => exact ⟨j + 1, congrArg (Value.int .i64) (by omega), by omega, by omega, B, F3, F4, F5, RP, RS, RP1003, RS1003, RO1003, RT1003⟩)
    all_goals try go_wp2
   ·have cj : decide ((j : Int) < (ps.length : Int)) = false := decide_eq_false (by omega)
    go_wp2_with (first
     | ((with_reducible refine gate_store (t := 4) (p := 163) rfl ?_); obtain ⟨y0, y1, y2, y3, y4, y5, z0, z1, z2, z3, z4, z5⟩ := cz6 F4; refine sx (t := 34) (t' := 4) (p := 163) (v := ?vo3001) ?hg ?ho ?hn 4 [.bool true] [.string a, .string c, .slice AP1003 p1.length kP1003, .slice AS1003 ss.length kS1003, .bool true, .string (⟨#[]⟩ : ByteArray)] ?hr B F4 L4 rfl (Nat.le_of_ble_eq_true rfl) ?_; (case ho | hg | hn => rfl); (case hr => go_simp; first | done | rfl); intro w3001 hk B G; replace F3 := bk F3 hk N3_4.out; replace F5 := bk F5 hk N4_5.out.symm; replace RP := rk RP F4 (by decide) hk; replace RS := rk RS F4 (by decide) hk; replace RP1003 := rk RP1003 F4 (by decide) hk; replace RS1003 := rk RS1003 F4 (by decide) hk; replace RO1003 := rk RO1003 F4 (by decide) hk; replace RT1003 := rk RT1003 F4 (by decide) hk; replace F4 := G; clear c3_0 c3_1 c3_2 c3_3 c3_4 c3_5; obtain ⟨c3_0, c3_1, c3_2, c3_3, c3_4, c3_5⟩ := cs6 F3; clear c4_0 c4_1 c4_2 c4_3 c4_4 c4_5; obtain ⟨c4_0, c4_1, c4_2, c4_3, c4_4, c4_5⟩ := cs6 F4; clear c5_0 c5_1 c5_2 c5_3 c5_4 c5_5; obtain ⟨c5_0, c5_1, c5_2, c5_3, c5_4, c5_5⟩ := cs6 F5; clear hk y0 z0 y1 z1 y2 z2 y3 z3 y4 z4 y5 z5)
     | ((with_reducible refine gate_store (t := 4) (p := 164) rfl ?_); obtain ⟨y0, y1, y2, y3, y4, y5, z0, z1, z2, z3, z4, z5⟩ := cz6 F5; refine sx (t := 34) (t' := 4) (p := 164) (v := ?vo3002) ?hg ?ho ?hn 4 [.bool true] [.string c, .string b, .slice AO1003 p2.length kO1003, .slice AT1003 ss.length kT1003, .bool true, .string (⟨#[]⟩ : ByteArray)] ?hr B F5 L5 rfl (Nat.le_of_ble_eq_true rfl) ?_; (case ho | hg | hn => rfl); (case hr => go_simp; first | done | rfl); intro w3002 hk B G; replace F3 := bk F3 hk N3_5.out; replace F4 := bk F4 hk N4_5.out; replace RP := rk RP F5 (by decide) hk; replace RS := rk RS F5 (by decide) hk; replace RP1003 := rk RP1003 F5 (by decide) hk; replace RS1003 := rk RS1003 F5 (by decide) hk; replace RO1003 := rk RO1003 F5 (by decide) hk; replace RT1003 := rk RT1003 F5 (by decide) hk; replace F5 := G; clear c3_0 c3_1 c3_2 c3_3 c3_4 c3_5; obtain ⟨c3_0, c3_1, c3_2, c3_3, c3_4, c3_5⟩ := cs6 F3; clear c4_0 c4_1 c4_2 c4_3 c4_4 c4_5; obtain ⟨c4_0, c4_1, c4_2, c4_3, c4_4, c4_5⟩ := cs6 F4; clear c5_0 c5_1 c5_2 c5_3 c5_4 c5_5; obtain ⟨c5_0, c5_1, c5_2, c5_3, c5_4, c5_5⟩ := cs6 F5; clear hk y0 z0 y1 z1 y2 z2 y3 z3 y4 z4 y5 z5)
     | (go_at_call 40; with_reducible refine c2r (impl_StateJoin.Mr a c _ _ p1 _ _ ss true (⟨#[]⟩ : ByteArray) c b _ _ p2 _ _ ss true (⟨#[]⟩ : ByteArray) a b ps ss false (⟨#[]⟩ : ByteArray) true HJ.out _ (rc RP1003) (rc RS1003) (rc RO1003) (rc RT1003) (rl RP1003) (rl RS1003) (rl RO1003) (rl RT1003)) B fun AP3003 kP3003 AS3003 kS3003 w3003 hb B RP3003 QP3003 RS3003 QS3003 => ?_; replace F3 := bn F3 hb; replace RP := rn RP hb; replace RS := rn RS hb; clear QP3003 QS3003; clear c3_0 c3_1 c3_2 c3_3 c3_4 c3_5; obtain ⟨c3_0, c3_1, c3_2, c3_3, c3_4, c3_5⟩ := cs6 F3; clear hb)
     | ((with_reducible refine gate_dst (N := 13) rfl ?_); refine bx ?hg (N := 13) ?hd (cs := #[.string (⟨#[]⟩ : ByteArray), .string (⟨#[]⟩ : ByteArray), .slice none 0 0, .slice none 0 0, .bool false, .string (⟨#[]⟩ : ByteArray)]) (t := 34) ?hr B ?_; (case hd | hg => rfl); (case hr => go_simp; first | done | rfl); intro g13 w3004 hb B F13 L13 E13; have N3_13 := ne1 E13 F3; replace F3 := bn F3 hb; replace RP := rn RP hb; replace RS := rn RS hb; replace RP3003 := rn RP3003 hb; replace RS3003 := rn RS3003 hb; clear c3_0 c3_1 c3_2 c3_3 c3_4 c3_5; obtain ⟨c3_0, c3_1, c3_2, c3_3, c3_4, c3_5⟩ := cs6 F3; obtain ⟨c13_0, c13_1, c13_2, c13_3, c13_4, c13_5⟩ := cs6 F13; clear hb E13)
     | ((with_reducible refine gate_store (t := 34) (p := 13) rfl ?_); obtain ⟨y0, y1, y2, y3, y4, y5, z0, z1, z2, z3, z4, z5⟩ := cz6 F13; refine sx (t := 34) (t' := 34) (p := 13) (v := ?vo3005) ?hg ?ho ?hn 0 [.string a, .string b, .slice AP3003 ps.length kP3003, .slice AS3003 ss.length kS3003, .bool false, .string (⟨#[]⟩ : ByteArray)] [.string a, .string b, .slice AP3003 ps.length kP3003, .slice AS3003 ss.length kS3003, .bool false, .string (⟨#[]⟩ : ByteArray)] ?hr B F13 L13 rfl (Nat.le_of_ble_eq_true rfl) ?_; (case ho | hg | hn => rfl); (case hr => go_simp; first | done | rfl); intro w3005 hk B G; replace F3 := bk F3 hk N3_13.out; replace RP := rk RP F13 (by decide) hk; replace RS := rk RS F13 (by decide) hk; replace RP3003 := rk RP3003 F13 (by decide) hk; replace RS3003 := rk RS3003 F13 (by decide) hk; replace F13 := G; clear c3_0 c3_1 c3_2 c3_3 c3_4 c3_5; obtain ⟨c3_0, c3_1, c3_2, c3_3, c3_4, c3_5⟩ := cs6 F3; clear c13_0 c13_1 c13_2 c13_3 c13_4 c13_5; obtain ⟨c13_0, c13_1, c13_2, c13_3, c13_4, c13_5⟩ := cs6 F13; clear hk y0 z0 y1 z1 y2 z2 y3 z3 y4 z4 y5 z5)
     | (go_at_call 28; with_reducible refine cl (laws_samePairs.M _ _ _ _ ps ps rfl _ (rc RP3003) (rl RP3003) (rc RP) (rl RP) (by assumption)) B fun w3006 hb B => ?_; replace F3 := bn F3 hb; replace F13 := bn F13 hb; replace RP := rn RP hb; replace RS := rn RS hb; replace RP3003 := rn RP3003 hb; replace RS3003 := rn RS3003 hb; clear c3_0 c3_1 c3_2 c3_3 c3_4 c3_5; obtain ⟨c3_0, c3_1, c3_2, c3_3, c3_4, c3_5⟩ := cs6 F3; clear c13_0 c13_1 c13_2 c13_3 c13_4 c13_5; obtain ⟨c13_0, c13_1, c13_2, c13_3, c13_4, c13_5⟩ := cs6 F13; clear hb)
     | (go_at_call 37; with_reducible refine cl (laws_sameSessions.M _ _ _ _ ss ss rfl _ (rc RS3003) (rl RS3003) (rc RS) (rl RS) (by assumption)) B fun w3007 hb B => ?_; clear hb))
    all_goals go_ret
    all_goals exact ⟨by first | rfl | (simp; done), B.out⟩
def laws_FnStateCut.f (k : Nat) (l : List Int) : Option Bool := if ∀ x ∈ l, (Lit.int .u8 x).wf = true then some true else none
theorem laws_FnStateCut.calls (k : Nat) (A0 : Option Addr) (c0 : Nat) (l : List Int) (r : Bool) (w : World) (hr0 : Kd.C (Kd.int .u8) w A0 l.length l) (hc0 : l.length ≤ c0) (h : laws_FnStateCut.f k l = some r) : Calls Try.prog 8 #[.slice A0 l.length c0] w fun e w' => e = .returned (.bool r) ∧ Below w.heap.size w w' := by
 unfold laws_FnStateCut.f at h
 split at h
 ·rename_i hc
  obtain rfl := Option.some.inj h
  exact laws_FnStateCut.M A0 c0 l w hr0 hc0 hc
 ·cases h

end Go.Proofs.Ytenfiihcdhnamaa.PFnStateCut
