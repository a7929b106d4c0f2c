/- Walks over models, part 2: rdpairs sfind isplace isseq ung ssput rdses rdspan rdsealed drstatecut iget ihas ij pj ijt replS isput isjoin sjl isjoinst sjri nostE. -/
import Derived.Test.YtenfiihcdhnamaaPFnStateCutx0
import Derived.Deep.RegionHeld3
import Derived.Lib.Strings
import Derived.Laws.BytesArg
import Derived.Test.YtenfiihcdhnamaaPFnStateCutx19
import Derived.Test.YtenfiihcdhnamaaPFnStateCutx56
import Derived.Test.YtenfiihcdhnamaaPFnStateCutx18
import Derived.Test.YtenfiihcdhnamaaPFnStateCutx39
import Derived.Test.YtenfiihcdhnamaaPFnStateCutx40
import Derived.Test.YtenfiihcdhnamaaPFnStateCutx38
import Derived.Test.YtenfiihcdhnamaaPFnStateCutx46
import Derived.Test.YtenfiihcdhnamaaPFnStateCutx45
import Derived.Test.YtenfiihcdhnamaaMFnStateCut0
import Derived.Test.YtenfiihcdhnamaaMFnStateCut1
namespace Go.Proofs.Ytenfiihcdhnamaa.PFnStateCut
open Go.RowKit Go.Proofs.YtenfiihcdhnamaaW.PrintWords Go.Proofs.YtenfiihcdhnamaaW.PrintLast Go.Proofs.YtenfiihcdhnamaaW.PrintMore
set_option linter.unusedVariables false
set_option linter.unusedSimpArgs false
set_option maxHeartbeats 4000000
set_option maxRecDepth 100000
attribute [local go_sem] leq_str geq_str gtr_str
theorem spec_l20Pairs.D (n : Int) (hn : n ≤ 1000000) (w W0 : World) (g : Nat) (bs : List Int) (p : Int) (hI : IsS119 w W0 g bs p) (hB : Below w.heap.size w W0) (hc : Dw.Code bs) (h0 : 0 ≤ p) (h1 : p ≤ 1099500000000) :
  Calls Try.prog 97 #[.pointer (some ⟨g, 0, none⟩), .int .i64 n] W0 fun e w' => ∃ v0 xs p', e = .returned (v0) ∧ (xs.length ≤ 300) ∧ Kd.R k61 61 w' w.heap.size (fun _ => True) v0 xs ∧ Fr W0 v0 ∧ Left w W0 g bs p 90 p' w' := by
 have hu := Try.underlying61
 have B := Aside0.mk hB
 have HI := Aside0.mk hI
 have HC := Aside0.mk hc
 have KK := Aside0.mk (Kept.refl W0 (RB g))
 clear hB hI hc
 go_enter Try.func97, Try.ntmps97
 go_wp2_with (first
  | ((with_reducible refine gate_dst (N := 12) rfl ?_); refine lt k61 61 ?hg (N := 12) ?hd ([] : List S61) [] ?hr (Reps.none _ _) (by simp) B ?_; (case hd | hg => rfl); (case hr => go_simp; first | done | rfl); intro z12 hz12 AL12 kL12 w1 hb B RL12 QL12; have MRL12 := mrf QL12 KK; replace HI := hib HI hb; replace KK := kkb KK hb; clear hb QL12; subst hz12)
  | (go_at_call 79; (with_reducible refine cg1 (spec_l20Rd_pick.D 9 w _ g bs p HI.out B.out HC.out (by omega) (by omega)) fun x2 p2 hx2 hp2 w2 hk B HI2 => ?_); replace RL12 := rkr RL12 HI (by decide) hk; replace KK := kkr KK hk; replace HI := HI2; clear hk; skip))
 have hx1 := hx2.1
 have hx2 := hx2.2.1 (by omega)
 obtain ⟨m0, rfl⟩ : ∃ m : Nat, x2 = (m : Int) := ⟨x2.toNat, by omega⟩
 go_loopg [5, 6] (m0 + 1) (fun kx v5 v6 wr => ∃ (m : Nat) (xs : List S61) (pp : Int), v6 = .int .i64 (m : Int) ∧ m < kx ∧ m ≤ 8 ∧ xs.length + m ≤ 8 ∧ (p ≤ pp ∧ pp + 9 * (m : Int) ≤ p + 80) ∧ Aside0 (IsS119 w wr g bs pp) ∧ Aside0 (Kept W0 wr (RB g)) ∧ Aside0 (Below w.heap.size w wr) ∧ Aside0 (Ow k61 61 wr w.heap.size v5 xs) ∧ Aside0 (Fr W0 v5))
 case atStart => exact ⟨m0, [], _, rfl, by omega, by omega, by simp only [List.length_nil]; omega, by omega, HI, KK, B, RL12, MRL12⟩
 case round =>
  clear HI KK B RL12 MRL12
  obtain ⟨m, xs, pp, rfl, hm, hm8, hxl, hpp, HI, KK, B, Rp5, MRp5⟩ := hrel
  obtain ⟨A5, k5, rfl⟩ := Kd.R_slice Rp5.out
  by_cases hm0 : 0 < m
  ·obtain ⟨d, rfl⟩ : ∃ d, gk = d + 1 := ⟨gk - 1, by omega⟩
   have cj : decide ((0 : Int) < (m : Int)) = true := decide_eq_true (by omega)
   have hw : wrap64 ((m : Int) - 1) = ((m - 1 : Nat) : Int) := by unfold wrap64; omega
   go_wp2_with (first
    | (go_at_call 78; (with_reducible refine cg1 (spec_l20Key.D 0 (by omega) w _ g bs pp HI.out B.out HC.out (by omega) (by omega)) fun x301 p301 hx301 hp301 w301 hk B HI2 => ?_); replace Rp5 := rkr Rp5 HI (by decide) hk; replace KK := kkr KK hk; replace HI := HI2; clear hk; skip)
    | (go_at_call 115; (with_reducible refine cg1 (spec_l20Value.D 0 (by omega) w _ g bs p301 HI.out B.out HC.out (by omega) (by omega)) fun x302 p302 hx302 hp302 w302 hk B HI2 => ?_); replace Rp5 := rkr Rp5 HI (by decide) hk; replace KK := kkr KK hk; replace HI := HI2; clear hk; skip)
    | (go_at_call 114; with_reducible refine crz (spec_PairPut.M _ _ xs x301 x302 _ (rc Rp5) (rl Rp5)) B fun zC303 hzC303 AC303 kC303 w303 hb B RC303 QC303 => ?_; have MRC303 := mrf QC303 KK; replace Rp5 := rn Rp5 hb; replace HI := hib HI hb; replace KK := kkb KK hb; clear QC303; clear hb))
   go_roundg d
   case measure => omega
   case rel => exact ⟨m - 1, zC303, _, congrArg (Value.int .i64) (by omega), by omega, by omega, by rw [← hzC303]; have := putM_len xs x301 x302; omega, by omega, HI, KK, B, RC303, MRC303⟩
  ·have cj : decide ((0 : Int) < (m : Int)) = false := decide_eq_false (by omega)
   go_wp2_with (first
    | (go_at_call 79; (with_reducible refine cg1 (spec_l20Rd_pick.D 16 w _ g bs pp HI.out B.out HC.out (by omega) (by omega)) fun x501 p501 hx501 hp501 w501 hk B HI2 => ?_); replace Rp5 := rkr Rp5 HI (by decide) hk; replace KK := kkr KK hk; replace HI := HI2; clear hk; skip))
   ·rename_i hb7
    clear hb7 hx501
    go_loopg [5, 9] 201 (fun kx v5 v9 wr => ∃ (i : Nat) (xs : List S61) (pp : Int), v9 = .int .i64 (i : Int) ∧ i ≤ 200 ∧ 200 < i + kx ∧ xs.length ≤ 48 ∧ (p ≤ pp ∧ pp ≤ p + 81) ∧ Aside0 (IsS119 w wr g bs pp) ∧ Aside0 (Kept W0 wr (RB g)) ∧ Aside0 (Below w.heap.size w wr) ∧ Aside0 (Ow k61 61 wr w.heap.size v5 xs) ∧ Aside0 (Fr W0 v5))
    case atStart => exact ⟨0, xs, _, rfl, by omega, by omega, by omega, by omega, HI, KK, B, Rp5, MRp5⟩
    case round =>
     clear HI KK B Rp5 MRp5 hxl hpp hp501
     obtain ⟨i, xs, pp, rfl, hi, hk2, hxl, hpp, HI, KK, B, Rp5, MRp5⟩ := hrel
     obtain ⟨A5, k5, rfl⟩ := Kd.R_slice Rp5.out
     by_cases hgo : xs.length < 48 ∧ i < 200
     ·obtain ⟨d, rfl⟩ : ∃ d, gk = d + 1 := ⟨gk - 1, by omega⟩
      have c1 : decide ((xs.length : Int) < 48) = true := decide_eq_true (by omega)
      have c2 : decide ((i : Int) < 200) = true := decide_eq_true (by omega)
      go_wp2_with (first
       | (go_at_call 116; with_reducible refine cx (spec_KeyAt.D _ _) B fun x701 hx701 w701 hb B => ?_; replace Rp5 := rn Rp5 hb; replace HI := hib HI hb; replace KK := kkb KK hb; clear hb)
       | (go_at_call 114; with_reducible refine crz (spec_PairPut.M _ _ xs x701 (i : Int) _ (rc Rp5) (rl Rp5)) B fun zC702 hzC702 AC702 kC702 w702 hb B RC702 QC702 => ?_; have MRC702 := mrf QC702 KK; replace Rp5 := rn Rp5 hb; replace HI := hib HI hb; replace KK := kkb KK hb; clear QC702; clear hb))
      go_roundg d
      case measure => omega
      case rel => exact ⟨i + 1, zC702, _, congrArg (Value.int .i64) (by omega), by omega, by omega, by rw [← hzC702]; have := putM_len xs x701 (i : Int); omega, by omega, HI, KK, B, RC702, MRC702⟩
     ·have cc : (decide ((xs.length : Int) < 48) && decide ((i : Int) < 200)) = false := by simp only [Bool.and_eq_false_iff, decide_eq_false_iff_not]; omega
      by_cases hl : xs.length < 48
      ·have c1 : decide ((xs.length : Int) < 48) = true := decide_eq_true (by omega)
       have c2 : decide ((i : Int) < 200) = false := decide_eq_false (by omega)
       go_wp2_with (first
        | (go_at_call 99; (with_reducible refine cg1 (spec_l20Rd_odd.D n (by omega) w _ g bs pp HI.out B.out HC.out (by omega) (by omega)) fun x901 p901 hx901 hp901 w901 hk B HI2 => ?_); replace Rp5 := rkr Rp5 HI (by decide) hk; replace KK := kkr KK hk; replace HI := HI2; clear hk; skip)
        | ((with_reducible refine gate_dst (N := 60) rfl ?_); refine lt k61 61 ?hg (N := 60) ?hd ([⟨(⟨#[]⟩ : ByteArray), 0⟩, ⟨(⟨#[122, 122, 122, 122]⟩ : ByteArray), -1⟩, ⟨(⟨#[122, 122, 122, 122]⟩ : ByteArray), 1000⟩, ⟨(⟨#[97]⟩ : ByteArray), 1⟩, ⟨(⟨#[65]⟩ : ByteArray), 0⟩] : List S61) [.string (⟨#[]⟩ : ByteArray), .int .i64 (0), .string (⟨#[122, 122, 122, 122]⟩ : ByteArray), .int .i64 (-1), .string (⟨#[122, 122, 122, 122]⟩ : ByteArray), .int .i64 (1000), .string (⟨#[97]⟩ : ByteArray), .int .i64 (1), .string (⟨#[65]⟩ : ByteArray), .int .i64 (0)] ?hr (Reps.c2 (k61_mkM _ _ _ ⟨(⟨#[]⟩ : ByteArray), 0⟩) (Reps.c2 (k61_mkM _ _ _ ⟨(⟨#[122, 122, 122, 122]⟩ : ByteArray), -1⟩) (Reps.c2 (k61_mkM _ _ _ ⟨(⟨#[122, 122, 122, 122]⟩ : ByteArray), 1000⟩) (Reps.c2 (k61_mkM _ _ _ ⟨(⟨#[97]⟩ : ByteArray), 1⟩) (Reps.c2 (k61_mkM _ _ _ ⟨(⟨#[65]⟩ : ByteArray), 0⟩) (Reps.none _ _)))))) (by simp) B ?_; (case hd | hg => rfl); (case hr => go_simp; first | done | rfl); intro z60 hz60 AL60 kL60 w951 hb B RL60 QL60; have MRL60 := mrf QL60 KK; replace Rp5 := rn Rp5 hb; replace HI := hib HI hb; replace KK := kkb KK hb; clear hb QL60)
        | (go_at_call 79; (with_reducible refine cg1 (spec_l20Rd_pick.D 5 w _ g bs p901 HI.out B.out HC.out (by omega) (by omega)) fun x952 p952 hx952 hp952 w952 hk B HI2 => ?_); replace Rp5 := rkr Rp5 HI (by decide) hk; replace RL60 := rkr RL60 HI (by decide) hk; replace KK := kkr KK hk; replace HI := HI2; clear hk; skip; have hi952 : x952 < (z60.length : Int) := (by rw [← hz60]; have := hx952.2.1 (by omega); simpa using this); obtain ⟨ad952, hA952, y952_0, y952_1⟩ := at_T61 (rc RL60) x952 hx952.1 hi952; have hj952 := hx952.1; generalize rd_T61 z60 x952 = y952 at *; cases hA952; have j952 := eq_true hj952; have i952 := eq_true hi952)
        | ((with_reducible refine gate_dst (N := 65) rfl ?_); refine lt k61 61 ?hg (N := 65) ?hd ([⟨y952.f0, y952.f1⟩] : List S61) [.string y952.f0, .int .i64 (y952.f1)] ?hr (Reps.c2 (k61_mkM _ _ _ ⟨y952.f0, y952.f1⟩) (Reps.none _ _)) (by simp) B ?_; (case hd | hg => rfl); (case hr => go_simp; first | done | rfl); intro z65 hz65 AL65 kL65 w953 hb B RL65 QL65; have MRL65 := mrf QL65 KK; replace Rp5 := rn Rp5 hb; replace HI := hib HI hb; replace KK := kkb KK hb; clear hb QL65)
        | ((with_reducible refine gate_builtin (b := .append) (xs := #[.tmp 54, .tmp 65]) rfl ?_); at_builtin; refine apx k61 61 rfl (.tmp 54) (.tmp 65) 31 (.agg #[.string (⟨#[]⟩ : ByteArray), .int .i64 (0)]) 24 rfl Try.underlying31 info61 rfl (by decide) (by omega) rfl rfl Rp5 (rc RL65) (fun x cs h => by rw [k61_open h]; exact k61_mkM _ _ _ x) (by rw [← hz65]; simp only [List.length_cons, List.length_nil]; omega) B ?_; intro z66 hz66 AL66 kL66 w954 hg B RL66 hat; replace HI := hig HI Rp5 (by decide) hg; have MRL66 := mra hat MRp5 KK; replace KK := kkg KK MRp5 hg; clear hg hat))
       all_goals go_ret
       all_goals first
        | exact ⟨_, _, _, rfl, by omega, Rp5.out, MRp5.out, ⟨by omega, by omega⟩, HI.out, B.out, KK.out⟩
        | exact ⟨_, _, _, rfl, by rw [← hz66, ← hz65]; simp only [List.length_append, List.length_cons, List.length_nil]; omega, RL66.out, MRL66.out, ⟨by omega, by omega⟩, HI.out, B.out, KK.out⟩
      ·have c1 : decide ((xs.length : Int) < 48) = false := decide_eq_false (by omega)
       go_wp2_with (first
        | (go_at_call 99; (with_reducible refine cg1 (spec_l20Rd_odd.D n (by omega) w _ g bs pp HI.out B.out HC.out (by omega) (by omega)) fun x1001 p1001 hx1001 hp1001 w1001 hk B HI2 => ?_); replace Rp5 := rkr Rp5 HI (by decide) hk; replace KK := kkr KK hk; replace HI := HI2; clear hk; skip)
        | ((with_reducible refine gate_dst (N := 60) rfl ?_); refine lt k61 61 ?hg (N := 60) ?hd ([⟨(⟨#[]⟩ : ByteArray), 0⟩, ⟨(⟨#[122, 122, 122, 122]⟩ : ByteArray), -1⟩, ⟨(⟨#[122, 122, 122, 122]⟩ : ByteArray), 1000⟩, ⟨(⟨#[97]⟩ : ByteArray), 1⟩, ⟨(⟨#[65]⟩ : ByteArray), 0⟩] : List S61) [.string (⟨#[]⟩ : ByteArray), .int .i64 (0), .string (⟨#[122, 122, 122, 122]⟩ : ByteArray), .int .i64 (-1), .string (⟨#[122, 122, 122, 122]⟩ : ByteArray), .int .i64 (1000), .string (⟨#[97]⟩ : ByteArray), .int .i64 (1), .string (⟨#[65]⟩ : ByteArray), .int .i64 (0)] ?hr (Reps.c2 (k61_mkM _ _ _ ⟨(⟨#[]⟩ : ByteArray), 0⟩) (Reps.c2 (k61_mkM _ _ _ ⟨(⟨#[122, 122, 122, 122]⟩ : ByteArray), -1⟩) (Reps.c2 (k61_mkM _ _ _ ⟨(⟨#[122, 122, 122, 122]⟩ : ByteArray), 1000⟩) (Reps.c2 (k61_mkM _ _ _ ⟨(⟨#[97]⟩ : ByteArray), 1⟩) (Reps.c2 (k61_mkM _ _ _ ⟨(⟨#[65]⟩ : ByteArray), 0⟩) (Reps.none _ _)))))) (by simp) B ?_; (case hd | hg => rfl); (case hr => go_simp; first | done | rfl); intro z60 hz60 AL60 kL60 w1051 hb B RL60 QL60; have MRL60 := mrf QL60 KK; replace Rp5 := rn Rp5 hb; replace HI := hib HI hb; replace KK := kkb KK hb; clear hb QL60)
        | (go_at_call 79; (with_reducible refine cg1 (spec_l20Rd_pick.D 5 w _ g bs p1001 HI.out B.out HC.out (by omega) (by omega)) fun x1052 p1052 hx1052 hp1052 w1052 hk B HI2 => ?_); replace Rp5 := rkr Rp5 HI (by decide) hk; replace RL60 := rkr RL60 HI (by decide) hk; replace KK := kkr KK hk; replace HI := HI2; clear hk; skip; have hi1052 : x1052 < (z60.length : Int) := (by rw [← hz60]; have := hx1052.2.1 (by omega); simpa using this); obtain ⟨ad1052, hA1052, y1052_0, y1052_1⟩ := at_T61 (rc RL60) x1052 hx1052.1 hi1052; have hj1052 := hx1052.1; generalize rd_T61 z60 x1052 = y1052 at *; cases hA1052; have j1052 := eq_true hj1052; have i1052 := eq_true hi1052)
        | ((with_reducible refine gate_dst (N := 65) rfl ?_); refine lt k61 61 ?hg (N := 65) ?hd ([⟨y1052.f0, y1052.f1⟩] : List S61) [.string y1052.f0, .int .i64 (y1052.f1)] ?hr (Reps.c2 (k61_mkM _ _ _ ⟨y1052.f0, y1052.f1⟩) (Reps.none _ _)) (by simp) B ?_; (case hd | hg => rfl); (case hr => go_simp; first | done | rfl); intro z65 hz65 AL65 kL65 w1053 hb B RL65 QL65; have MRL65 := mrf QL65 KK; replace Rp5 := rn Rp5 hb; replace HI := hib HI hb; replace KK := kkb KK hb; clear hb QL65)
        | ((with_reducible refine gate_builtin (b := .append) (xs := #[.tmp 54, .tmp 65]) rfl ?_); at_builtin; refine apx k61 61 rfl (.tmp 54) (.tmp 65) 31 (.agg #[.string (⟨#[]⟩ : ByteArray), .int .i64 (0)]) 24 rfl Try.underlying31 info61 rfl (by decide) (by omega) rfl rfl Rp5 (rc RL65) (fun x cs h => by rw [k61_open h]; exact k61_mkM _ _ _ x) (by rw [← hz65]; simp only [List.length_cons, List.length_nil]; omega) B ?_; intro z66 hz66 AL66 kL66 w1054 hg B RL66 hat; replace HI := hig HI Rp5 (by decide) hg; have MRL66 := mra hat MRp5 KK; replace KK := kkg KK MRp5 hg; clear hg hat))
       all_goals go_ret
       all_goals first
        | exact ⟨_, _, _, rfl, by omega, Rp5.out, MRp5.out, ⟨by omega, by omega⟩, HI.out, B.out, KK.out⟩
        | exact ⟨_, _, _, rfl, by rw [← hz66, ← hz65]; simp only [List.length_append, List.length_cons, List.length_nil]; omega, RL66.out, MRL66.out, ⟨by omega, by omega⟩, HI.out, B.out, KK.out⟩
   ·go_wp2_with (first
     | (go_at_call 99; (with_reducible refine cg1 (spec_l20Rd_odd.D n (by omega) w _ g bs p501 HI.out B.out HC.out (by omega) (by omega)) fun x1101 p1101 hx1101 hp1101 w1101 hk B HI2 => ?_); replace Rp5 := rkr Rp5 HI (by decide) hk; replace KK := kkr KK hk; replace HI := HI2; clear hk; skip)
     | ((with_reducible refine gate_dst (N := 60) rfl ?_); refine lt k61 61 ?hg (N := 60) ?hd ([⟨(⟨#[]⟩ : ByteArray), 0⟩, ⟨(⟨#[122, 122, 122, 122]⟩ : ByteArray), -1⟩, ⟨(⟨#[122, 122, 122, 122]⟩ : ByteArray), 1000⟩, ⟨(⟨#[97]⟩ : ByteArray), 1⟩, ⟨(⟨#[65]⟩ : ByteArray), 0⟩] : List S61) [.string (⟨#[]⟩ : ByteArray), .int .i64 (0), .string (⟨#[122, 122, 122, 122]⟩ : ByteArray), .int .i64 (-1), .string (⟨#[122, 122, 122, 122]⟩ : ByteArray), .int .i64 (1000), .string (⟨#[97]⟩ : ByteArray), .int .i64 (1), .string (⟨#[65]⟩ : ByteArray), .int .i64 (0)] ?hr (Reps.c2 (k61_mkM _ _ _ ⟨(⟨#[]⟩ : ByteArray), 0⟩) (Reps.c2 (k61_mkM _ _ _ ⟨(⟨#[122, 122, 122, 122]⟩ : ByteArray), -1⟩) (Reps.c2 (k61_mkM _ _ _ ⟨(⟨#[122, 122, 122, 122]⟩ : ByteArray), 1000⟩) (Reps.c2 (k61_mkM _ _ _ ⟨(⟨#[97]⟩ : ByteArray), 1⟩) (Reps.c2 (k61_mkM _ _ _ ⟨(⟨#[65]⟩ : ByteArray), 0⟩) (Reps.none _ _)))))) (by simp) B ?_; (case hd | hg => rfl); (case hr => go_simp; first | done | rfl); intro z60 hz60 AL60 kL60 w1151 hb B RL60 QL60; have MRL60 := mrf QL60 KK; replace Rp5 := rn Rp5 hb; replace HI := hib HI hb; replace KK := kkb KK hb; clear hb QL60)
     | (go_at_call 79; (with_reducible refine cg1 (spec_l20Rd_pick.D 5 w _ g bs p1101 HI.out B.out HC.out (by omega) (by omega)) fun x1152 p1152 hx1152 hp1152 w1152 hk B HI2 => ?_); replace Rp5 := rkr Rp5 HI (by decide) hk; replace RL60 := rkr RL60 HI (by decide) hk; replace KK := kkr KK hk; replace HI := HI2; clear hk; skip; have hi1152 : x1152 < (z60.length : Int) := (by rw [← hz60]; have := hx1152.2.1 (by omega); simpa using this); obtain ⟨ad1152, hA1152, y1152_0, y1152_1⟩ := at_T61 (rc RL60) x1152 hx1152.1 hi1152; have hj1152 := hx1152.1; generalize rd_T61 z60 x1152 = y1152 at *; cases hA1152; have j1152 := eq_true hj1152; have i1152 := eq_true hi1152)
     | ((with_reducible refine gate_dst (N := 65) rfl ?_); refine lt k61 61 ?hg (N := 65) ?hd ([⟨y1152.f0, y1152.f1⟩] : List S61) [.string y1152.f0, .int .i64 (y1152.f1)] ?hr (Reps.c2 (k61_mkM _ _ _ ⟨y1152.f0, y1152.f1⟩) (Reps.none _ _)) (by simp) B ?_; (case hd | hg => rfl); (case hr => go_simp; first | done | rfl); intro z65 hz65 AL65 kL65 w1153 hb B RL65 QL65; have MRL65 := mrf QL65 KK; replace Rp5 := rn Rp5 hb; replace HI := hib HI hb; replace KK := kkb KK hb; clear hb QL65)
     | ((with_reducible refine gate_builtin (b := .append) (xs := #[.tmp 54, .tmp 65]) rfl ?_); at_builtin; refine apx k61 61 rfl (.tmp 54) (.tmp 65) 31 (.agg #[.string (⟨#[]⟩ : ByteArray), .int .i64 (0)]) 24 rfl Try.underlying31 info61 rfl (by decide) (by omega) rfl rfl Rp5 (rc RL65) (fun x cs h => by rw [k61_open h]; exact k61_mkM _ _ _ x) (by rw [← hz65]; simp only [List.length_cons, List.length_nil]; omega) B ?_; intro z66 hz66 AL66 kL66 w1154 hg B RL66 hat; replace HI := hig HI Rp5 (by decide) hg; have MRL66 := mra hat MRp5 KK; replace KK := kkg KK MRp5 hg; clear hg hat))
    all_goals go_ret
    all_goals first
     | exact ⟨_, _, _, rfl, by omega, Rp5.out, MRp5.out, ⟨by omega, by omega⟩, HI.out, B.out, KK.out⟩
     | exact ⟨_, _, _, rfl, by rw [← hz66, ← hz65]; simp only [List.length_append, List.length_cons, List.length_nil]; omega, RL66.out, MRL66.out, ⟨by omega, by omega⟩, HI.out, B.out, KK.out⟩


theorem find_drop {l : List S100} {j : Nat} (c : Int) (h : j < l.length) : findS (l.drop j) c = if (rd_T100 l (j : Int)).f0 = c then rd_T100 l (j : Int) else findS (l.drop (j + 1)) c := by
 rw [ses_drop h, findS]
theorem spec_l9Find.M (A0 : Option Addr) (c0 : Nat) (l : List S100) (c : Int) (w : World) (hr0 : Kd.C k100 w A0 l.length l) : Calls Try.prog 125 #[.slice A0 l.length c0, .int .i64 c] w fun e w' => e = .returned (.agg #[.int .i64 (findS l c).f0, .int .i64 (findS l c).f1, .int .i64 (findS l c).f2]) ∧ Below w.heap.size w w' := by
 have B := Aside0.mk (Below.refl w.heap.size w)
 have hu := Try.underlying100
 have HR0 := Aside0.mk hr0
 have L63 := Aside0.mk hr0.2.1
 clear hr0
 obtain ⟨r, hr⟩ : ∃ r, findS l c = r := ⟨_, rfl⟩
 rw [hr]
 have H := Aside0.mk (show findS (l.drop 0) c = r from hr)
 clear hr
 go_enter Try.func125, Try.ntmps125
 go_wp2_with (first
  | ((with_reducible refine gate_dst (N := 4) rfl ?_); refine bx ?hg (N := 4) ?hd (cs := #[.int .i64 (0), .int .i64 (0), .int .i64 (0)]) (t := 100) ?hr B ?_; (case hd | hg => rfl); (case hr => go_simp; first | done | rfl); intro g4 w1 hb B F4 L4 E4; clear hb E4))
 go_loopg [5] (l.length + 1) (fun kx v5 wr => ∃ j : Nat, v5 = .int .i64 (j : Int) ∧ j ≤ l.length ∧ l.length < j + kx ∧ Aside0 (Below w.heap.size w wr) ∧ Aside0 (wr.heap[g4]? = some (.cells #[.int .i64 (0), .int .i64 (0), .int .i64 (0)] 100 (0, 0))) ∧ Aside0 (findS (l.drop j) c = r))
 case atStart => exact ⟨0, rfl, by omega, by omega, B, F4, H⟩
 case round =>
  clear H B F4
  obtain ⟨j, rfl, hj, hk, B, F4, H⟩ := hrel
  have h63 := L63.out
  by_cases hlt : j < l.length
  ·have HS := H.out
   rw [find_drop c hlt] at HS
   clear H
   obtain ⟨d, rfl⟩ : ∃ d, gk = d + 1 := ⟨gk - 1, by omega⟩
   have cj : decide ((j : Int) < (l.length : Int)) = true := decide_eq_true (by omega)
   obtain ⟨ad, hA, y0, y1, y2⟩ := at_T100 (cb HR0 B) (j : Int) (by omega) (by omega)
   cases hA
   rw [Int.toNat_natCast] at y0 y1 y2
   have j1 := eq_true (show (j : Int) < (l.length : Int) by omega)
   have j2 := eq_true hlt
   generalize hy : rd_T100 l (j : Int) = y at *
   by_cases hc : y.f0 = c
   ·rw [if_pos hc] at HS
    have dc : (y.f0 == c) = true := by simp [hc]
    have dc2 : decide (y.f0 = c) = true := decide_eq_true hc
    subst HS
    go_wp2_with (first
     | ((with_reducible refine gate_store (t := 100) (p := 4) rfl ?_); obtain ⟨y0, y1, y2, z0, z1, z2⟩ := cz3 F4; refine sx (t := 100) (t' := 100) (p := 4) (v := ?vo101) ?hg ?ho ?hn 0 [.int .i64 (y.f0), .int .i64 (y.f1), .int .i64 (y.f2)] [.int .i64 (y.f0), .int .i64 (y.f1), .int .i64 (y.f2)] ?hr B F4 L4 rfl (Nat.le_of_ble_eq_true rfl) ?_; (case ho | hg | hn => rfl); (case hr => go_simp; first | done | rfl); intro w101 hk B G; replace F4 := G; clear hk y0 z0 y1 z1 y2 z2))
    refine bodyPost_ret (results_single rfl (.cell g4 100 _ (0, 0) _ rfl F4.out hu rfl (by kernel_rfl) .nil)) rfl ?_
    exact ⟨rfl, B.out⟩
   ·rw [if_neg hc] at HS
    have dc : (y.f0 == c) = false := by simp [hc]
    have dc2 : decide (y.f0 = c) = false := decide_eq_false hc
    go_wp2
    go_roundg d
    case measure => omega
    case rel => exact ⟨j + 1, congrArg (Value.int .i64) (Int.natCast_succ _).symm, by omega, by omega, B, F4, ⟨HS⟩⟩
  ·have cj : decide ((j : Int) < (l.length : Int)) = false := decide_eq_false (by omega)
   have hr := H.out
   rw [List.drop_of_length_le (by omega)] at hr
   subst hr
   go_wp2_with (first
    | ((with_reducible refine gate_store (t := 100) (p := 4) rfl ?_); obtain ⟨y0, y1, y2, z0, z1, z2⟩ := cz3 F4; refine sx (t := 100) (t' := 100) (p := 4) (v := ?vo301) ?hg ?ho ?hn 0 [.int .i64 (0), .int .i64 (0), .int .i64 (0)] [.int .i64 (0), .int .i64 (0), .int .i64 (0)] ?hr B F4 L4 rfl (Nat.le_of_ble_eq_true rfl) ?_; (case ho | hg | hn => rfl); (case hr => go_simp; first | done | rfl); intro w301 hk B G; replace F4 := G; clear hk y0 z0 y1 z1 y2 z2))
   refine bodyPost_ret (results_single rfl (.cell g4 100 _ (0, 0) _ rfl F4.out hu rfl (by kernel_rfl) .nil)) rfl ?_
   exact ⟨rfl, B.out⟩
theorem spec_SessionSeq.M (A0 : Option Addr) (c0 : Nat) (l : List S100) (c : Int) (w : World) (hr0 : Kd.C k100 w A0 l.length l) (hc0 : l.length ≤ c0) : Calls Try.prog 121 #[.slice A0 l.length c0, .int .i64 c] w fun e w' => e = .returned (.int .i64 (seqB l c)) ∧ Below w.heap.size w w' := by
 have B := Aside0.mk (Below.refl w.heap.size w)
 have hu := Try.underlying100
 have HR0 := Aside0.mk hr0
 have HC0 := Aside0.mk hc0
 have L63 := Aside0.mk hr0.2.1
 clear hr0 hc0
 have hfld : ∀ W : World, Sem.run Try.prog (Instr.field 100 (Value.agg #[Value.int .i64 (findS l c).f0, Value.int .i64 (findS l c).f1, Value.int .i64 (findS l c).f2]) 1) W = .ok (Value.int .i64 (findS l c).f1) W := fun W => by rfl
 cases hv : sesB l with
 | false =>
  rw [show seqB l c = -1 from if_neg (by rintro ⟨h, -⟩; rw [hv] at h; cases h)]
  go_enter Try.func121, Try.ntmps121
  go_wp2_with (first
   | (go_at_call 49; with_reducible refine cl (spec_SessionsValid.M _ _ l _ (cb HR0 B)) B fun w1 hb B => ?_; clear hb)
   | (go_at_call 90; with_reducible refine cl (spec_l1In.M c 0 3 _) B fun w2 hb B => ?_; clear hb)
   | (go_at_call 125; with_reducible refine cl (spec_l9Find.M _ _ l c _ (cb HR0 B)) B fun w3 hb B => ?_; clear hb))
  all_goals (go_ret; exact ⟨rfl, B.out⟩)
 | true =>
  cases hc : l1B c 0 3 with
  | false =>
   rw [show seqB l c = -1 from if_neg (by rintro ⟨-, h1, h2⟩; unfold l1B at hc; rw [decide_eq_true h1, decide_eq_true h2] at hc; cases hc)]
   go_enter Try.func121, Try.ntmps121
   go_wp2_with (first
    | (go_at_call 49; with_reducible refine cl (spec_SessionsValid.M _ _ l _ (cb HR0 B)) B fun w1 hb B => ?_; clear hb)
    | (go_at_call 90; with_reducible refine cl (spec_l1In.M c 0 3 _) B fun w2 hb B => ?_; clear hb)
    | (go_at_call 125; with_reducible refine cl (spec_l9Find.M _ _ l c _ (cb HR0 B)) B fun w3 hb B => ?_; clear hb))
   all_goals (go_ret; exact ⟨rfl, B.out⟩)
  | true =>
   have hc2 := hc
   unfold l1B at hc2
   rw [Bool.and_eq_true, decide_eq_true_eq, decide_eq_true_eq] at hc2
   rw [show seqB l c = (findS l c).f1 from if_pos ⟨hv, hc2⟩]
   clear hc2
   go_enter Try.func121, Try.ntmps121
   go_wp2_with (first
    | (go_at_call 49; with_reducible refine cl (spec_SessionsValid.M _ _ l _ (cb HR0 B)) B fun w1 hb B => ?_; clear hb)
    | (go_at_call 90; with_reducible refine cl (spec_l1In.M c 0 3 _) B fun w2 hb B => ?_; clear hb)
    | (go_at_call 125; with_reducible refine cl (spec_l9Find.M _ _ l c _ (cb HR0 B)) B fun w3 hb B => ?_; clear hb))
   all_goals (go_ret; exact ⟨rfl, B.out⟩)

def cmpI (x y : Int) : Int := if x < y then -1 else if x > y then 1 else 0
theorem cmp_isNaN.calls (x : Int) (w : World) : Calls Try.prog 122 #[.int .i64 x] w fun e w' => e = .returned (.bool false) ∧ Below w.heap.size w w' := by
 go_enter Try.func122, Try.ntmps122
 go_wp2
 go_ret
 exact ⟨by simp, Below.refl _ _⟩
theorem cmp_Compare.calls (x y : Int) (w : World) : Calls Try.prog 113 #[.int .i64 x, .int .i64 y] w fun e w' => e = .returned (.int .i64 (cmpI x y)) ∧ Below w.heap.size w w' := by
 unfold cmpI
 by_cases h1 : x < y
 ·have d1 : decide (x < y) = true := decide_eq_true h1
  rw [if_pos h1]
  clear h1
  go_enter Try.func113, Try.ntmps113
  go_wp2_with (first
   | (go_at_call 122; (with_reducible refine (cmp_isNaN.calls x w).mono ?_); rintro e w1 ⟨rfl, hb⟩; have B1 := Aside0.mk hb; clear hb)
   | (go_at_call 122; (with_reducible refine (cmp_isNaN.calls y w1).mono ?_); rintro e w2 ⟨rfl, hb⟩; have B2 := Aside0.mk (below_step B1.out hb); clear hb))
  go_ret
  exact ⟨rfl, B2.out⟩
 ·have d1 : decide (x < y) = false := decide_eq_false h1
  rw [if_neg h1]
  by_cases h2 : x > y
  ·have d2 : decide (x > y) = true := decide_eq_true h2
   rw [if_pos h2]
   clear h1 h2
   go_enter Try.func113, Try.ntmps113
   go_wp2_with (first
    | (go_at_call 122; (with_reducible refine (cmp_isNaN.calls x w).mono ?_); rintro e w1 ⟨rfl, hb⟩; have B1 := Aside0.mk hb; clear hb)
    | (go_at_call 122; (with_reducible refine (cmp_isNaN.calls y w1).mono ?_); rintro e w2 ⟨rfl, hb⟩; have B2 := Aside0.mk (below_step B1.out hb); clear hb))
   go_ret
   exact ⟨rfl, B2.out⟩
  ·have d2 : decide (x > y) = false := decide_eq_false h2
   rw [if_neg h2]
   clear h1 h2
   go_enter Try.func113, Try.ntmps113
   go_wp2_with (first
    | (go_at_call 122; (with_reducible refine (cmp_isNaN.calls x w).mono ?_); rintro e w1 ⟨rfl, hb⟩; have B1 := Aside0.mk hb; clear hb)
    | (go_at_call 122; (with_reducible refine (cmp_isNaN.calls y w1).mono ?_); rintro e w2 ⟨rfl, hb⟩; have B2 := Aside0.mk (below_step B1.out hb); clear hb))
   go_ret
   exact ⟨rfl, B2.out⟩

theorem impl_sessionPlace1.calls (s : S100) (c : Int) (w : World) : Calls Try.prog 112 #[.agg #[.int .i64 s.f0, .int .i64 s.f1, .int .i64 s.f2], .int .i64 c] w fun e w' => e = .returned (.int .i64 (cmpI s.f0 c)) ∧ Below w.heap.size w w' := by
 have hu := Try.underlying100
 go_enter Try.func112, Try.ntmps112
 go_wp2_with (first
  | ((with_reducible refine gate_dst (N := 2) rfl ?_); refine box_event ?hg (N := 2) ?hd (cs := #[.int .i64 s.f0, .int .i64 s.f1, .int .i64 s.f2]) (t := 100) ?hr ?_; (case hd => rfl); (case hg => rfl); (case hr => first | (go_simp; done) | (go_simp; rfl)); intro g hg w1 hc hb; have B1 := Aside0.mk hb; have c0 : w1.cell? ⟨g, 0, none⟩ = some (.int .i64 s.f0) := (blk_cell hc 0).trans rfl; clear hc hb hg)
  | (go_at_call 113; (with_reducible refine (cmp_Compare.calls s.f0 c w1).mono ?_); rintro e w2 ⟨rfl, hb⟩; have B2 := Aside0.mk (below_step B1.out hb); clear hb))
 go_ret
 exact ⟨rfl, B2.out⟩

theorem cmpI_neg (x c : Int) : decide (cmpI x c < 0) = decide (x < c) := by
 unfold cmpI
 by_cases h : x < c
 ·simp [h]
 ·by_cases h2 : x > c <;> simp [h, h2]
theorem cmpI_zero (x c : Int) : (cmpI x c == 0) = decide (x = c) := by
 unfold cmpI
 by_cases h : x < c
 ·rw [if_pos h, decide_eq_false (by omega)]
  rfl
 ·by_cases h2 : x > c
  ·rw [if_neg h, if_pos h2, decide_eq_false (by omega)]
   rfl
  ·rw [if_neg h, if_neg h2, decide_eq_true (by omega)]
   rfl
theorem slices_BinarySearchFunc.calls (A0 : Option Addr) (c0 : Nat) (l : List S100) (c : Int) (w : World) (hr0 : Kd.C k100 w A0 l.length l) (hc0 : l.length ≤ c0) (hsz : l.length < 4611686018427387904) :
  Calls Try.prog 111 #[.slice A0 l.length c0, .int .i64 c, .func (.func 112) #[] #[]] w fun e w' =>
   e = .returned (.tuple #[.int .i64 ((placeOf l c l.length 0 l.length : Nat) : Int), .bool (hitOf l c)]) ∧ Below w.heap.size w w' := by
 have HR0 := Aside0.mk hr0
 clear hr0
 have hu := Try.underlying100
 generalize hR : placeOf l c l.length 0 l.length = R
 have HT := Aside0.mk (show hitOf l c = (decide (R < l.length) && decide ((rd_T100 l ((R : Nat) : Int)).f0 = c)) by unfold hitOf; rw [hR])
 have PR := Aside0.mk hR
 clear hR
 go_enter Try.func111, Try.ntmps111
 go_wp2
 go_loopg [9, 10] l.length (fun kx s9 s10 wr => ∃ lo hi : Nat, s9 = .int .i64 lo ∧ s10 = .int .i64 hi ∧ lo ≤ hi ∧ hi ≤ l.length ∧ hi - lo ≤ kx ∧ Aside0 (Below w.heap.size w wr) ∧ Aside0 (placeOf l c kx lo hi = R))
 case atStart => exact ⟨0, l.length, rfl, rfl, Nat.zero_le _, Nat.le_refl _, by omega, ⟨Below.refl _ _⟩, PR⟩
 case round =>
  clear PR
  obtain ⟨lo, hi, rfl, rfl, hlh, hin, hg, BW, PW⟩ := hrel
  by_cases hlt : lo < hi
  ·obtain ⟨d, rfl⟩ : ∃ d, gk = d + 1 := ⟨gk - 1, by omega⟩
   have hp := PW.out
   simp only [placeOf] at hp
   rw [if_pos hlt] at hp
   obtain ⟨ad, hA, x0, x1, x2⟩ := at_T100 (Kd.C_below HR0.out BW.out) (((lo + hi) / 2 : Nat) : Int) (by omega) (by omega)
   subst hA
   generalize hy : rd_T100 l (((lo + hi) / 2 : Nat) : Int) = y at x0 x1 x2 hp
   rw [Int.toNat_natCast] at x0 x1 x2
   clear hy
   by_cases hyx : y.f0 < c
   ·rw [if_pos hyx] at hp
    have P2 := Aside0.mk hp
    have dc : decide (cmpI y.f0 c < 0) = true := (cmpI_neg _ _).trans (decide_eq_true hyx)
    clear PW hp hyx
    go_wp2_with (go_at_call 112; (with_reducible refine (impl_sessionPlace1.calls y c wr).mono ?_); rintro e w1 ⟨rfl, hb⟩; have B1 := Aside0.mk (below_step BW.out hb); clear hb)
    go_roundg d
    case measure => omega
    case rel => exact ⟨(lo + hi) / 2 + 1, hi, by rw [show ((lo : Int) + (hi : Int)) / 2 + 1 = (((lo + hi) / 2 + 1 : Nat) : Int) by omega], rfl, by omega, hin, by omega, B1, P2⟩
   ·rw [if_neg hyx] at hp
    have P2 := Aside0.mk hp
    have dc : decide (cmpI y.f0 c < 0) = false := (cmpI_neg _ _).trans (decide_eq_false hyx)
    clear PW hp hyx
    go_wp2_with (go_at_call 112; (with_reducible refine (impl_sessionPlace1.calls y c wr).mono ?_); rintro e w1 ⟨rfl, hb⟩; have B1 := Aside0.mk (below_step BW.out hb); clear hb)
    go_roundg d
    case measure => omega
    case rel => exact ⟨lo, (lo + hi) / 2, rfl, by rw [show ((lo : Int) + (hi : Int)) / 2 = (((lo + hi) / 2 : Nat) : Int) by omega], by omega, by omega, by omega, B1, P2⟩
  ·obtain rfl : R = lo := by
    rw [← PW.out]
    cases gk with
    | zero => rfl
    | succ d => simp only [placeOf]; rw [if_neg hlt]
   by_cases hn : R < l.length
   ·obtain ⟨ad, hA, x0, x1, x2⟩ := at_T100 (Kd.C_below HR0.out BW.out) (R : Int) (by omega) (by omega)
    subst hA
    generalize hy : rd_T100 l (R : Int) = y at x0 x1 x2 HT
    rw [Int.toNat_natCast] at x0 x1 x2
    clear hy PW
    go_wp2_with (go_at_call 112; (with_reducible refine (impl_sessionPlace1.calls y c wr).mono ?_); rintro e w1 ⟨rfl, hb⟩; have B1 := Aside0.mk (below_step BW.out hb); clear hb)
    go_ret2
    refine ⟨?_, B1.out⟩
    rw [HT.out, decide_eq_true hn, ← cmpI_zero]
    rfl
   ·clear PW
    go_wp2
    go_ret2
    refine ⟨?_, BW.out⟩
    rw [HT.out, decide_eq_false hn]
    rfl

theorem impl_sessionPlace.calls (A0 : Option Addr) (c0 : Nat) (l : List S100) (c : Int) (w : World) (hr0 : Kd.C k100 w A0 l.length l) (hc0 : l.length ≤ c0) (hsz : l.length < 4611686018427387904) :
  Calls Try.prog 87 #[.slice A0 l.length c0, .int .i64 c] w fun e w' => e = .returned (.tuple #[.int .i64 ((placeOf l c l.length 0 l.length : Nat) : Int), .bool (hitOf l c)]) ∧ Below w.heap.size w w' := by
 have h := slices_BinarySearchFunc.calls A0 c0 l c w hr0 hc0 hsz
 go_enter Try.func87, Try.ntmps87
 go_wp2_with (go_at_call 111; (with_reducible refine h.mono ?_); rintro e w1 ⟨rfl, hb⟩; have B1 := Aside0.mk hb; clear hb)
 go_ret2
 exact ⟨rfl, B1.out⟩
theorem impl_sessionPlace.M (A0 : Option Addr) (c0 : Nat) (l : List S100) (c : Int) (w : World) (hr0 : Kd.C k100 w A0 l.length l) (hc0 : l.length ≤ c0) (hv : sesB l = true) :
  Calls Try.prog 87 #[.slice A0 l.length c0, .int .i64 c] w fun e w' => e = .returned (.tuple #[.int .i64 ((plOf l c : Nat) : Int), .bool (hitOf l c)]) ∧ Below w.heap.size w w' :=
 impl_sessionPlace.calls A0 c0 l c w hr0 hc0 (by have := sesB_len hv; omega)

theorem plhit {l : List S100} {c : Int} (h : hitOf l c = true) : plOf l c < l.length ∧ (rd_T100 l ((plOf l c : Nat) : Int)).f0 = c := by
 unfold hitOf at h
 rw [Bool.and_eq_true, decide_eq_true_eq, decide_eq_true_eq] at h
 exact h
theorem seq_hit {l : List S100} {c : Int} (hv : sesB l = true) (hc : 0 ≤ c ∧ c ≤ 3) : seqB l c = if hitOf l c = true then (rd_T100 l ((plOf l c : Nat) : Int)).f1 else 0 := by
 rw [seq_find hv hc.1 hc.2]
 exact (placeOf_find hv c).symm
theorem seq_bad {l : List S100} {c : Int} (h : sesB l = false ∨ ¬ (0 ≤ c ∧ c ≤ 3)) : seqB l c = -1 := by
 unfold seqB
 rw [if_neg]
 rintro ⟨h1, h2⟩
 rcases h with h | h
 ·rw [h] at h1; cases h1
 ·exact h h2
theorem impl_SessionSeq.M (A0 : Option Addr) (c0 : Nat) (l : List S100) (c : Int) (w : World) (hr0 : Kd.C k100 w A0 l.length l) (hc0 : l.length ≤ c0) : Calls Try.prog 43 #[.slice A0 l.length c0, .int .i64 c] w fun e w' => e = .returned (.int .i64 (seqB l c)) ∧ Below w.heap.size w w' := by
 have B := Aside0.mk (Below.refl w.heap.size w)
 have hu := Try.underlying100
 have HR0 := Aside0.mk hr0
 have HC0 := Aside0.mk hc0
 have L63 := Aside0.mk hr0.2.1
 clear hr0 hc0
 by_cases hv : sesB l = true
 ·by_cases hc : 0 ≤ c ∧ c ≤ 3
  ·have hm := seq_hit hv hc
   have d0 : decide (c < 0) = false := decide_eq_false (by omega)
   have d4 : decide (c ≥ 4) = false := decide_eq_false (by omega)
   cases hh : hitOf l c with
   | true =>
    rw [hh, if_pos rfl] at hm
    rw [hm]
    obtain ⟨hlt, hf0⟩ := plhit hh
    have j1 := eq_true (show ((plOf l c : Nat) : Int) < (l.length : Int) by omega)
    have j2 := eq_true hlt
    go_enter Try.func43, Try.ntmps43
    go_wp2_with (first
     | (go_at_call 57; with_reducible refine cl (impl_SessionsValid.M _ _ l _ (cb HR0 B)) B fun w1 hb B => ?_; clear hb)
     | (go_at_call 87; with_reducible refine cl (impl_sessionPlace.M _ _ l c _ (cb HR0 B) HC0.out hv) B fun w2 hb B => ?_; clear hb; (obtain ⟨ad, hA, y0, y1, y2⟩ := at_T100 (cb HR0 B) ((plOf l c : Nat) : Int) (Int.natCast_nonneg _) (Int.ofNat_lt.mpr hlt); cases hA; rw [Int.toNat_natCast] at y0 y1 y2)))
    all_goals (go_ret; exact ⟨rfl, B.out⟩)
   | false =>
    rw [hh, if_neg (by simp)] at hm
    rw [hm]
    go_enter Try.func43, Try.ntmps43
    go_wp2_with (first
     | (go_at_call 57; with_reducible refine cl (impl_SessionsValid.M _ _ l _ (cb HR0 B)) B fun w1 hb B => ?_; clear hb)
     | (go_at_call 87; with_reducible refine cl (impl_sessionPlace.M _ _ l c _ (cb HR0 B) HC0.out hv) B fun w2 hb B => ?_; clear hb))
    all_goals (go_ret; exact ⟨rfl, B.out⟩)
  ·rw [seq_bad (.inr hc)]
   have hd : (decide (c < 0) || decide (c ≥ 4)) = true := by rw [Bool.or_eq_true, decide_eq_true_eq, decide_eq_true_eq]; omega
   go_enter Try.func43, Try.ntmps43
   go_wp2_with (first
    | (go_at_call 57; with_reducible refine cl (impl_SessionsValid.M _ _ l _ (cb HR0 B)) B fun w1 hb B => ?_; clear hb)
    | (go_at_call 87; with_reducible refine cl (impl_sessionPlace.M _ _ l c _ (cb HR0 B) HC0.out hv) B fun w2 hb B => ?_; clear hb))
   all_goals first
    | (go_ret; exact ⟨rfl, B.out⟩)
    | (exfalso; simp_all; omega)
 ·replace hv := Bool.eq_false_iff.mpr hv
  rw [seq_bad (.inl hv)]
  go_enter Try.func43, Try.ntmps43
  go_wp2_with (first
   | (go_at_call 57; with_reducible refine cl (impl_SessionsValid.M _ _ l _ (cb HR0 B)) B fun w1 hb B => ?_; clear hb)
   | (go_at_call 87; with_reducible refine cl (impl_sessionPlace.M _ _ l c _ (cb HR0 B) HC0.out hv) B fun w2 hb B => ?_; clear hb))
  all_goals (go_ret; exact ⟨rfl, B.out⟩)

/-- an operation under a guard that holds -/
theorem ungate {P : Program} {ops : Array Oper} {Q : Exit → Act → World → Prop} {a : Act} {w : World} {rest : List Oper} {o : Oper} (hw : Region.wanted o (yielded ops a.tmps) = true) (h : wpList P ops Q ({o with guard := none} :: rest) a w) : wpList P ops Q (o :: rest) a w := by
  rw [wpList, if_pos hw]
  rw [wpList, if_pos (by rfl)] at h
  exact h

theorem putL_cons (x : S100) (q : List S100) (s : S100) (b : Bool) : putL (x :: q) s b = if b = false ∧ s.f0 ≤ x.f0 then s :: ((if x.f0 = s.f0 then [] else [x]) ++ putL q s true) else (if x.f0 = s.f0 then [] else [x]) ++ putL q s b := rfl
def spec_SessionPut.T4 : Bool × List (List Nat × List Nat) := (true, [([], []), ([], []), ([1], [1]), ([0, 2], [0, 2]), ([], []), ([4], [4]), ([3, 5], [3, 5])])
def spec_SessionPut.B4 : List Nat := [0, 0, 2, 7, 0, 16, 63]
theorem spec_SessionPut.tab4 : rtab .any (opsOf Try.f110 4) = spec_SessionPut.T4 := by kernel_rfl
theorem spec_SessionPut.bits4 : waitsOk spec_SessionPut.T4.2 spec_SessionPut.B4 = true := by kernel_rfl
def spec_SessionPut.T10 : Bool × List (List Nat × List Nat) := (true, [([], []), ([0], [0]), ([1], [1]), ([2], [2]), ([2], [2]), ([3, 4, 2], [2, 3, 4]), ([5, 2], [2, 5]), ([6, 2], [2, 6]), ([2], [2]), ([8, 2], [2, 8]), ([7, 9, 2], [2, 7, 9]), ([2, 10], [2, 10])])
def spec_SessionPut.B10 : List Nat := [0, 1, 3, 7, 7, 31, 63, 127, 7, 263, 1023, 2047]
theorem spec_SessionPut.tab10 : rtab .any (opsOf Try.f110 10) = spec_SessionPut.T10 := by kernel_rfl
theorem spec_SessionPut.bits10 : waitsOk spec_SessionPut.T10.2 spec_SessionPut.B10 = true := by kernel_rfl
def spec_SessionPut.T13 : Bool × List (List Nat × List Nat) := (true, [([], []), ([], []), ([0, 1], [0, 1]), ([2], [2]), ([3], [3]), ([], []), ([5], [5]), ([4, 6], [4, 6])])
def spec_SessionPut.B13 : List Nat := [0, 0, 3, 7, 15, 0, 32, 127]
theorem spec_SessionPut.tab13 : rtab .any (opsOf Try.f110 13) = spec_SessionPut.T13 := by kernel_rfl
theorem spec_SessionPut.bits13 : waitsOk spec_SessionPut.T13.2 spec_SessionPut.B13 = true := by kernel_rfl
theorem spec_SessionPut.M (A0 : Option Addr) (c0 : Nat) (l : List S100) (a b c : Int) (w : World) (hr0 : Kd.C k100 w A0 l.length l) (hc0 : l.length ≤ c0) : Calls Try.prog 110 #[.slice A0 l.length c0, .agg #[.int .i64 a, .int .i64 b, .int .i64 c]] w fun e w' => ∃ v0, e = .returned (.tuple #[v0, .bool (putB l ⟨a, b, c⟩).2]) ∧ Kd.R k100 100 w' w.heap.size (fun _ => True) v0 (putB l ⟨a, b, c⟩).1 ∧ Below w.heap.size w w' := by
 have B := Aside0.mk (Below.refl w.heap.size w)
 have hu := Try.underlying100
 have HR0 := Aside0.mk hr0
 have HC0 := Aside0.mk hc0
 have L63 := Aside0.mk hr0.2.1
 clear hr0 hc0
 by_cases hv : sesB l = true
 ·have h4 := sesB_len hv
  cases ho : okS (⟨a, b, c⟩ : S100) with
  | true =>
   have hone : sesB [(⟨a, b, c⟩ : S100)] = true := by rw [sesOne]; exact ho
   by_cases hq : b ≤ seqB l a
   ·have hM : putB l ⟨a, b, c⟩ = (l, false) := by unfold putB; rw [if_pos ⟨hv, hone⟩]; exact if_pos hq
    have dq : decide (seqB l a ≥ b) = true := decide_eq_true hq
    go_enter Try.func110, Try.ntmps110
    go_wp2_with (first
     | ((with_reducible refine gate_dst (N := 3) rfl ?_); refine bx ?hg (N := 3) ?hd (cs := #[.int .i64 (a), .int .i64 (b), .int .i64 (c)]) (t := 100) ?hr B ?_; (case hd | hg => rfl); (case hr => go_simp; first | done | rfl); intro g3 w201 hb B F3 L3 E3; obtain ⟨c3_0, c3_1, c3_2⟩ := cs3 F3; clear hb E3)
     | ((with_reducible refine gate_dst (N := 9) rfl ?_); refine lt k100 100 ?hg (N := 9) ?hd ([] : List S100) [] ?hr (Reps.none _ _) (by simp) B ?_; (case hd | hg => rfl); (case hr => go_simp; first | done | rfl); intro z9 hz9 AL9 kL9 w202 hb B RL9 QL9; have NB3_L9 := nb QL9 F3; replace F3 := bn F3 hb; clear c3_0 c3_1 c3_2; obtain ⟨c3_0, c3_1, c3_2⟩ := cs3 F3; clear hb QL9; subst hz9)
     | (go_at_call 49; with_reducible refine cl (spec_SessionsValid.M _ _ l _ (cb HR0 B)) B fun w203 hb B => ?_; replace F3 := bn F3 hb; replace RL9 := rn RL9 hb; clear c3_0 c3_1 c3_2; obtain ⟨c3_0, c3_1, c3_2⟩ := cs3 F3; clear hb)
     | ((with_reducible refine gate_dst (N := 15) rfl ?_); refine ungate ?hw ?_; (case hw => first | (go_simp; done) | rfl); refine lt k100 100 ?hg (N := 15) ?hd ([⟨a, b, c⟩] : List S100) [.int .i64 (a), .int .i64 (b), .int .i64 (c)] ?hr (Reps.c3 (k100_mkM _ _ _ ⟨a, b, c⟩) (Reps.none _ _)) (by simp) B ?_; (case hd | hg => rfl); (case hr => go_simp; first | done | rfl); intro z15 hz15 AL15 kL15 w204 hb B RL15 QL15; have NB3_L15 := nb QL15 F3; replace F3 := bn F3 hb; replace RL9 := rn RL9 hb; clear c3_0 c3_1 c3_2; obtain ⟨c3_0, c3_1, c3_2⟩ := cs3 F3; clear hb QL15)
     | (go_at_call 49; with_reducible refine cl (clv (spec_SessionsValid.M _ _ z15 _ (rc RL15)) (congrArg Value.bool (show sesB z15 = true by rw [← hz15]; exact hone))) B fun w205 hb B => ?_; replace F3 := bn F3 hb; replace RL9 := rn RL9 hb; clear c3_0 c3_1 c3_2; obtain ⟨c3_0, c3_1, c3_2⟩ := cs3 F3; clear hb; clear hz15))
    all_goals (
     refine rg (n := 7) (S := fun W => W.heap[g3]? = some (.cells #[.int .i64 (a), .int .i64 (b), .int .i64 (c)] 100 (0, 0))) (ds := []) #[false, false, false, false, false, false, false] (by kernel_rfl) rfl rfl F3.out id B (fun w206 hb B hHeld => ?_)
     refine with_tabW spec_SessionPut.tab4 spec_SessionPut.bits4 (fun HT_ HW_ => ?_)
     replace F3 := bn F3 hb
     replace RL9 := rn RL9 hb
     clear hb
     refine pv 0 (some 20) (v := ?_) (bits 7 1) HT_ (by kernel_rfl) rfl rfl (fun _ _ _ h => h) (by kernel_rfl) ?_ ?_; rotate_left; (intro w'; go_simp; with_reducible rfl)
     refine pv 1 (some 21) (v := ?_) (bits 7 3) HT_ (by kernel_rfl) rfl rfl (fun _ _ _ h => h) (by kernel_rfl) ?_ ?_; rotate_left; (intro w'; go_simp; with_reducible rfl)
     refine tv 2 (some 22) (v := ?_) (bits 7 7) HT_ HW_ (by kernel_rfl) rfl rfl (fun _ _ _ h => h) (by kernel_rfl) hHeld ?_ ?_; rotate_left; (intro w' hS; have s0 := hS; obtain ⟨q0, q1, q2⟩ := cs3 (Aside0.mk s0); go_simp; with_reducible rfl)
     refine pv 4 (some 24) (v := ?_) (bits 7 23) HT_ (by kernel_rfl) rfl rfl (fun _ _ _ h => h) (by kernel_rfl) ?_ ?_; rotate_left; (intro w'; go_simp; with_reducible rfl)
     refine tv 5 (some 25) (v := ?_) (bits 7 55) HT_ HW_ (by kernel_rfl) rfl rfl (fun _ _ _ h => h) (by kernel_rfl) hHeld ?_ ?_; rotate_left; (intro w' hS; have s0 := hS; obtain ⟨q0, q1, q2⟩ := cs3 (Aside0.mk s0); go_simp; with_reducible rfl)
     refine norm_ (a' := ?_) ?_ ?_
     rotate_left
     ·simp only [Act.put, za, zb, zc, i64_w, i32_w]
      rfl
     refine one_ (i := 3) (N := some 23) (bits 7 63) rfl rfl (one_of HT_.out (by kernel_rfl)) (by decide) (fun K hK => ?_)
     refine goes_ Try.func121 (by kernel_rfl) rfl #[.slice A0 l.length c0, .int .i64 (a)] (by rfl) rfl rfl (by (try simp only [List.map_toArray, List.map_cons, List.map_nil]); rfl) ?_
     with_reducible refine cl (spec_SessionSeq.M _ _ l a _ (cb HR0 B) HC0.out) B fun w207 hb B => ?_
     replace F3 := bn F3 hb
     replace RL9 := rn RL9 hb
     clear hb
     refine ⟨_, rfl, ?_⟩
     refine hK.out _ _ F3.out (fun hHeld => ?_)
     clear hK K
     refine norm_ (a' := ?_) ?_ ?_
     rotate_left
     ·show Act.put _ (some 23) _ = _
      simp only [Act.put, za, zb, zc, i64_w, i32_w]
      rfl
     refine pv 6 (some 26) (v := ?_) (bits 7 127) HT_ (by kernel_rfl) rfl rfl (fun _ _ _ h => h) (by kernel_rfl) ?_ ?_; rotate_left; (intro w'; go_simp; with_reducible rfl)
     refine norm_ (a' := ?_) ?_ ?_
     rotate_left
     ·simp only [Act.put, za, zb, zc, i64_w, i32_w]
      rfl
     refine done_ (done_of HT_.out (by kernel_rfl)) ?_)
    all_goals go_wp2_with (first
     | ((with_reducible refine gate_builtin (b := .append) (xs := #[.tmp 27, .tmp 28]) rfl ?_); at_builtin; refine apx k100 100 rfl (.tmp 27) (.tmp 28) 32 (.agg #[.int .i64 (0), .int .i64 (0), .int .i64 (0)]) 24 rfl Try.underlying32 info100 rfl (by decide) (by omega) rfl rfl RL9 (cb HR0 B) (fun x cs h => by rw [k100_open h]; exact k100_mkM _ _ _ x) (by first | omega | (simp only [List.length_nil]; omega)) B ?_; intro z29 hz29 AL29 kL29 w208 hg B RL29 hat; have NB3_L29 := nba hat NB3_L9 F3; replace F3 := bgn F3 hg NB3_L9; clear hg hat))
    have hZ : z29 = l := (by rw [← hz29, List.nil_append])
    clear hz29
    subst hZ
    go_ret2
    exact ⟨_, by rw [hM]; rfl, by rw [hM]; exact RL29.out, B.out⟩
   ·have hM : putB l ⟨a, b, c⟩ = (putL l ⟨a, b, c⟩ false, true) := by unfold putB; rw [if_pos ⟨hv, hone⟩]; exact if_neg hq
    have dq : decide (seqB l a ≥ b) = false := decide_eq_false hq
    rw [hM]
    clear hM
    obtain ⟨r, hr⟩ : ∃ r, putL l (⟨a, b, c⟩ : S100) false = r := ⟨_, rfl⟩
    rw [hr]
    have H := Aside0.mk (show [] ++ putL (l.drop 0) (⟨a, b, c⟩ : S100) false = r from hr)
    clear hr
    go_enter Try.func110, Try.ntmps110
    go_wp2_with (first
     | ((with_reducible refine gate_dst (N := 3) rfl ?_); refine bx ?hg (N := 3) ?hd (cs := #[.int .i64 (a), .int .i64 (b), .int .i64 (c)]) (t := 100) ?hr B ?_; (case hd | hg => rfl); (case hr => go_simp; first | done | rfl); intro g3 w301 hb B F3 L3 E3; obtain ⟨c3_0, c3_1, c3_2⟩ := cs3 F3; clear hb E3)
     | ((with_reducible refine gate_dst (N := 9) rfl ?_); refine lt k100 100 ?hg (N := 9) ?hd ([] : List S100) [] ?hr (Reps.none _ _) (by simp) B ?_; (case hd | hg => rfl); (case hr => go_simp; first | done | rfl); intro z9 hz9 AL9 kL9 w302 hb B RL9 QL9; have NB3_L9 := nb QL9 F3; replace F3 := bn F3 hb; clear c3_0 c3_1 c3_2; obtain ⟨c3_0, c3_1, c3_2⟩ := cs3 F3; clear hb QL9; subst hz9)
     | (go_at_call 49; with_reducible refine cl (spec_SessionsValid.M _ _ l _ (cb HR0 B)) B fun w303 hb B => ?_; replace F3 := bn F3 hb; replace RL9 := rn RL9 hb; clear c3_0 c3_1 c3_2; obtain ⟨c3_0, c3_1, c3_2⟩ := cs3 F3; clear hb)
     | ((with_reducible refine gate_dst (N := 15) rfl ?_); refine ungate ?hw ?_; (case hw => first | (go_simp; done) | rfl); refine lt k100 100 ?hg (N := 15) ?hd ([⟨a, b, c⟩] : List S100) [.int .i64 (a), .int .i64 (b), .int .i64 (c)] ?hr (Reps.c3 (k100_mkM _ _ _ ⟨a, b, c⟩) (Reps.none _ _)) (by simp) B ?_; (case hd | hg => rfl); (case hr => go_simp; first | done | rfl); intro z15 hz15 AL15 kL15 w304 hb B RL15 QL15; have NB3_L15 := nb QL15 F3; replace F3 := bn F3 hb; replace RL9 := rn RL9 hb; clear c3_0 c3_1 c3_2; obtain ⟨c3_0, c3_1, c3_2⟩ := cs3 F3; clear hb QL15)
     | (go_at_call 49; with_reducible refine cl (clv (spec_SessionsValid.M _ _ z15 _ (rc RL15)) (congrArg Value.bool (show sesB z15 = true by rw [← hz15]; exact hone))) B fun w305 hb B => ?_; replace F3 := bn F3 hb; replace RL9 := rn RL9 hb; clear c3_0 c3_1 c3_2; obtain ⟨c3_0, c3_1, c3_2⟩ := cs3 F3; clear hb; clear hz15))
    all_goals (
     refine rg (n := 7) (S := fun W => W.heap[g3]? = some (.cells #[.int .i64 (a), .int .i64 (b), .int .i64 (c)] 100 (0, 0))) (ds := []) #[false, false, false, false, false, false, false] (by kernel_rfl) rfl rfl F3.out id B (fun w306 hb B hHeld => ?_)
     refine with_tabW spec_SessionPut.tab4 spec_SessionPut.bits4 (fun HT_ HW_ => ?_)
     replace F3 := bn F3 hb
     replace RL9 := rn RL9 hb
     clear hb
     refine pv 0 (some 20) (v := ?_) (bits 7 1) HT_ (by kernel_rfl) rfl rfl (fun _ _ _ h => h) (by kernel_rfl) ?_ ?_; rotate_left; (intro w'; go_simp; with_reducible rfl)
     refine pv 1 (some 21) (v := ?_) (bits 7 3) HT_ (by kernel_rfl) rfl rfl (fun _ _ _ h => h) (by kernel_rfl) ?_ ?_; rotate_left; (intro w'; go_simp; with_reducible rfl)
     refine tv 2 (some 22) (v := ?_) (bits 7 7) HT_ HW_ (by kernel_rfl) rfl rfl (fun _ _ _ h => h) (by kernel_rfl) hHeld ?_ ?_; rotate_left; (intro w' hS; have s0 := hS; obtain ⟨q0, q1, q2⟩ := cs3 (Aside0.mk s0); go_simp; with_reducible rfl)
     refine pv 4 (some 24) (v := ?_) (bits 7 23) HT_ (by kernel_rfl) rfl rfl (fun _ _ _ h => h) (by kernel_rfl) ?_ ?_; rotate_left; (intro w'; go_simp; with_reducible rfl)
     refine tv 5 (some 25) (v := ?_) (bits 7 55) HT_ HW_ (by kernel_rfl) rfl rfl (fun _ _ _ h => h) (by kernel_rfl) hHeld ?_ ?_; rotate_left; (intro w' hS; have s0 := hS; obtain ⟨q0, q1, q2⟩ := cs3 (Aside0.mk s0); go_simp; with_reducible rfl)
     refine norm_ (a' := ?_) ?_ ?_
     rotate_left
     ·simp only [Act.put, za, zb, zc, i64_w, i32_w]
      rfl
     refine one_ (i := 3) (N := some 23) (bits 7 63) rfl rfl (one_of HT_.out (by kernel_rfl)) (by decide) (fun K hK => ?_)
     refine goes_ Try.func121 (by kernel_rfl) rfl #[.slice A0 l.length c0, .int .i64 (a)] (by rfl) rfl rfl (by (try simp only [List.map_toArray, List.map_cons, List.map_nil]); rfl) ?_
     with_reducible refine cl (spec_SessionSeq.M _ _ l a _ (cb HR0 B) HC0.out) B fun w307 hb B => ?_
     replace F3 := bn F3 hb
     replace RL9 := rn RL9 hb
     clear hb
     refine ⟨_, rfl, ?_⟩
     refine hK.out _ _ F3.out (fun hHeld => ?_)
     clear hK K
     refine norm_ (a' := ?_) ?_ ?_
     rotate_left
     ·show Act.put _ (some 23) _ = _
      simp only [Act.put, za, zb, zc, i64_w, i32_w]
      rfl
     refine pv 6 (some 26) (v := ?_) (bits 7 127) HT_ (by kernel_rfl) rfl rfl (fun _ _ _ h => h) (by kernel_rfl) ?_ ?_; rotate_left; (intro w'; go_simp; with_reducible rfl)
     refine norm_ (a' := ?_) ?_ ?_
     rotate_left
     ·simp only [Act.put, za, zb, zc, i64_w, i32_w]
      rfl
     refine done_ (done_of HT_.out (by kernel_rfl)) ?_)
    all_goals try go_wp2
    clear dq hq hone ho hv
    (try clear c3_0 c3_1 c3_2)
    go_loopg [6, 7, 8] (l.length + 1) (fun kx v6 v7 v8 wr => ∃ (j : Nat) (p : List S100) (pl : Bool), v8 = .int .i64 (j : Int) ∧ v7 = .bool pl ∧ j ≤ l.length ∧ l.length < j + kx ∧ p.length ≤ 2 * j ∧ Aside0 (Below w.heap.size w wr) ∧ Aside0 (wr.heap[g3]? = some (.cells #[.int .i64 (a), .int .i64 (b), .int .i64 (c)] 100 (0, 0))) ∧ Aside0 (Ow k100 100 wr w.heap.size v6 p) ∧ Aside0 (∀ k_, v6.ownBlock = some k_ → k_ ≠ g3) ∧ Aside0 (p ++ putL (l.drop j) ⟨a, b, c⟩ pl = r))
    case atStart => exact ⟨0, [], false, rfl, rfl, by omega, by omega, by simp, B, F3, RL9, NB3_L9, H⟩
    case round =>
     clear H B F3 RL9 NB3_L9
     obtain ⟨j, p, pl, rfl, rfl, hj, hk, hpl, B, F3, Rp6, NB3_p6, H⟩ := hrel
     obtain ⟨A6, k6, rfl⟩ := Kd.R_slice Rp6.out
     obtain ⟨c3_0, c3_1, c3_2⟩ := cs3 F3
     by_cases hlt : j < l.length
     ·have HS := H.out
      rw [ses_drop hlt, putL_cons] at HS
      clear H
      obtain ⟨d, rfl⟩ : ∃ d, gk = d + 1 := ⟨gk - 1, by omega⟩
      have cj : decide ((j : Int) < (l.length : Int)) = true := decide_eq_true (by omega)
      obtain ⟨ad, hA, y0, y1, y2⟩ := at_T100 (cb HR0 B) (j : Int) (by omega) (by omega)
      cases hA
      rw [Int.toNat_natCast] at y0 y1 y2
      have j1 := eq_true (show (j : Int) < (l.length : Int) by omega)
      have j2 := eq_true hlt
      generalize hy : rd_T100 l (j : Int) = y at *
      cases pl with
      | true =>
       rw [if_neg (by simp)] at HS
       by_cases he : y.f0 = a
       ·have dn : (y.f0 != a) = false := by simp [he]
        have dn2 : decide (y.f0 = a) = true := decide_eq_true he
        rw [if_pos he] at HS
        have HT := Aside0.mk HS
        clear HS
        try go_wp2
        all_goals (
         refine rg (n := 12) (S := fun W => Kd.C k100 W (some ad) l.length l ∧ W.heap[g3]? = some (.cells #[.int .i64 (a), .int .i64 (b), .int .i64 (c)] 100 (0, 0))) (ds := []) #[false, false, false, false, false, false, false, false, false, false, false, false] (by kernel_rfl) rfl rfl ⟨(cb HR0 B), F3.out⟩ id B (fun w501 hb B hHeld => ?_)
         refine with_tabW spec_SessionPut.tab10 spec_SessionPut.bits10 (fun HT_ HW_ => ?_)
         replace F3 := bn F3 hb
         replace Rp6 := rn Rp6 hb
         clear hb
         refine pv 0 (some 36) (v := ?_) (bits 12 1) HT_ (by kernel_rfl) rfl rfl (fun _ _ _ h => h) (by kernel_rfl) ?_ ?_; rotate_left; (intro w'; go_simp; with_reducible rfl)
         refine pv 1 (some 37) (v := ?_) (bits 12 3) HT_ (by kernel_rfl) rfl rfl (fun _ _ _ h => h) (by kernel_rfl) ?_ ?_; rotate_left; (intro w'; go_simp; with_reducible rfl)
         refine pv 2 (some 38) (v := ?_) (bits 12 7) HT_ (by kernel_rfl) rfl rfl (fun _ _ _ h => h) (by kernel_rfl) ?_ ?_; rotate_left; (intro w'; go_simp; with_reducible rfl)
         refine sv 3 (some 39) (bits 12 15) HT_ (by kernel_rfl) rfl rfl (fun _ _ _ h => h) (by kernel_rfl) ?_
         refine sv 4 (some 40) (bits 12 31) HT_ (by kernel_rfl) rfl rfl (fun _ _ _ h => h) (by kernel_rfl) ?_
         refine sv 5 (some 41) (bits 12 63) HT_ (by kernel_rfl) rfl rfl (fun _ _ _ h => h) (by kernel_rfl) ?_
         refine sv 6 (some 42) (bits 12 127) HT_ (by kernel_rfl) rfl rfl (fun _ _ _ h => h) (by kernel_rfl) ?_
         refine sv 7 (some 43) (bits 12 255) HT_ (by kernel_rfl) rfl rfl (fun _ _ _ h => h) (by kernel_rfl) ?_
         refine sv 8 (some 44) (bits 12 511) HT_ (by kernel_rfl) rfl rfl (fun _ _ _ h => h) (by kernel_rfl) ?_
         refine sv 9 (some 45) (bits 12 1023) HT_ (by kernel_rfl) rfl rfl (fun _ _ _ h => h) (by kernel_rfl) ?_
         refine sv 10 (some 46) (bits 12 2047) HT_ (by kernel_rfl) rfl rfl (fun _ _ _ h => h) (by kernel_rfl) ?_
         refine pv 11 (some 47) (v := ?_) (bits 12 4095) HT_ (by kernel_rfl) rfl rfl (fun _ _ _ h => h) (by kernel_rfl) ?_ ?_; rotate_left; (intro w'; go_simp; with_reducible rfl)
         refine norm_ (a' := ?_) ?_ ?_
         rotate_left
         ·simp only [Act.put, za, zb, zc, i64_w, i32_w]
          rfl
         refine done_ (done_of HT_.out (by kernel_rfl)) ?_
         clear c3_0 c3_1 c3_2
         obtain ⟨c3_0, c3_1, c3_2⟩ := cs3 F3)
        all_goals try go_wp2
        all_goals (
         refine rg (n := 8) (S := fun W => Kd.C k100 W (some ad) l.length l ∧ W.heap[g3]? = some (.cells #[.int .i64 (a), .int .i64 (b), .int .i64 (c)] 100 (0, 0))) (ds := []) #[false, false, false, false, false, false, false, false] (by kernel_rfl) rfl rfl ⟨(cb HR0 B), F3.out⟩ id B (fun w502 hb B hHeld => ?_)
         refine with_tabW spec_SessionPut.tab13 spec_SessionPut.bits13 (fun HT_ HW_ => ?_)
         replace F3 := bn F3 hb
         replace Rp6 := rn Rp6 hb
         clear hb
         refine pv 0 (some 52) (v := ?_) (bits 8 1) HT_ (by kernel_rfl) rfl rfl (fun _ _ _ h => h) (by kernel_rfl) ?_ ?_; rotate_left; (intro w'; go_simp; with_reducible rfl)
         refine pv 1 (some 53) (v := ?_) (bits 8 3) HT_ (by kernel_rfl) rfl rfl (fun _ _ _ h => h) (by kernel_rfl) ?_ ?_; rotate_left; (intro w'; go_simp; with_reducible rfl)
         refine pv 2 (some 54) (v := ?_) (bits 8 7) HT_ (by kernel_rfl) rfl rfl (fun _ _ _ h => h) (by kernel_rfl) ?_ ?_; rotate_left; (intro w'; go_simp; with_reducible rfl)
         refine pv 3 (some 55) (v := ?_) (bits 8 15) HT_ (by kernel_rfl) rfl rfl (fun _ _ _ h => h) (by kernel_rfl) ?_ ?_; rotate_left; (intro w'; go_simp; with_reducible rfl)
         refine tv 4 (some 56) (v := ?_) (bits 8 31) HT_ HW_ (by kernel_rfl) rfl rfl (fun _ _ _ h => h) (by kernel_rfl) hHeld ?_ ?_; rotate_left; (intro w' hS; obtain ⟨s0, s1⟩ := hS; obtain ⟨_, hA, q0, q1, q2⟩ := at_T100 s0 (j : Int) (by omega) (by omega); cases hA; rw [Int.toNat_natCast] at q0 q1 q2; rw [hy] at q0 q1 q2; go_simp; with_reducible rfl)
         refine pv 5 (some 57) (v := ?_) (bits 8 63) HT_ (by kernel_rfl) rfl rfl (fun _ _ _ h => h) (by kernel_rfl) ?_ ?_; rotate_left; (intro w'; go_simp; with_reducible rfl)
         refine tv 6 (some 58) (v := ?_) (bits 8 127) HT_ HW_ (by kernel_rfl) rfl rfl (fun _ _ _ h => h) (by kernel_rfl) hHeld ?_ ?_; rotate_left; (intro w' hS; obtain ⟨s0, s1⟩ := hS; obtain ⟨q0, q1, q2⟩ := cs3 (Aside0.mk s1); go_simp; with_reducible rfl)
         refine pv 7 (some 59) (v := ?_) (bits 8 255) HT_ (by kernel_rfl) rfl rfl (fun _ _ _ h => h) (by kernel_rfl) ?_ ?_; rotate_left; (intro w'; go_simp; with_reducible rfl)
         refine norm_ (a' := ?_) ?_ ?_
         rotate_left
         ·simp only [Act.put, za, zb, zc, i64_w, i32_w]
          rfl
         refine done_ (done_of HT_.out (by kernel_rfl)) ?_
         clear y0 y1 y2
         obtain ⟨ad2, hA, y0, y1, y2⟩ := at_T100 (cb HR0 B) (j : Int) (by omega) (by omega)
         cases hA
         rw [Int.toNat_natCast, hy] at y0 y1 y2)
        all_goals try go_wp2
        go_roundg d
        case measure => omega
        case rel => exact ⟨j + 1, p, true, congrArg (Value.int .i64) (Int.natCast_succ _).symm, rfl, by omega, by omega, (by omega), B, F3, Rp6, NB3_p6, ⟨by have HS := HT.out; simp only [List.append_assoc, List.cons_append, List.nil_append, List.append_nil] at HS ⊢; exact HS⟩⟩
       ·have dn : (y.f0 != a) = true := by simp [he]
        have dn2 : decide (y.f0 = a) = false := decide_eq_false he
        rw [if_neg he] at HS
        have HT := Aside0.mk HS
        clear HS
        try go_wp2
        all_goals (
         refine rg (n := 12) (S := fun W => Kd.C k100 W (some ad) l.length l ∧ W.heap[g3]? = some (.cells #[.int .i64 (a), .int .i64 (b), .int .i64 (c)] 100 (0, 0))) (ds := []) #[false, false, false, false, false, false, false, false, false, false, false, false] (by kernel_rfl) rfl rfl ⟨(cb HR0 B), F3.out⟩ id B (fun w601 hb B hHeld => ?_)
         refine with_tabW spec_SessionPut.tab10 spec_SessionPut.bits10 (fun HT_ HW_ => ?_)
         replace F3 := bn F3 hb
         replace Rp6 := rn Rp6 hb
         clear hb
         refine pv 0 (some 36) (v := ?_) (bits 12 1) HT_ (by kernel_rfl) rfl rfl (fun _ _ _ h => h) (by kernel_rfl) ?_ ?_; rotate_left; (intro w'; go_simp; with_reducible rfl)
         refine pv 1 (some 37) (v := ?_) (bits 12 3) HT_ (by kernel_rfl) rfl rfl (fun _ _ _ h => h) (by kernel_rfl) ?_ ?_; rotate_left; (intro w'; go_simp; with_reducible rfl)
         refine pv 2 (some 38) (v := ?_) (bits 12 7) HT_ (by kernel_rfl) rfl rfl (fun _ _ _ h => h) (by kernel_rfl) ?_ ?_; rotate_left; (intro w'; go_simp; with_reducible rfl)
         refine sv 3 (some 39) (bits 12 15) HT_ (by kernel_rfl) rfl rfl (fun _ _ _ h => h) (by kernel_rfl) ?_
         refine sv 4 (some 40) (bits 12 31) HT_ (by kernel_rfl) rfl rfl (fun _ _ _ h => h) (by kernel_rfl) ?_
         refine sv 5 (some 41) (bits 12 63) HT_ (by kernel_rfl) rfl rfl (fun _ _ _ h => h) (by kernel_rfl) ?_
         refine sv 6 (some 42) (bits 12 127) HT_ (by kernel_rfl) rfl rfl (fun _ _ _ h => h) (by kernel_rfl) ?_
         refine sv 7 (some 43) (bits 12 255) HT_ (by kernel_rfl) rfl rfl (fun _ _ _ h => h) (by kernel_rfl) ?_
         refine sv 8 (some 44) (bits 12 511) HT_ (by kernel_rfl) rfl rfl (fun _ _ _ h => h) (by kernel_rfl) ?_
         refine sv 9 (some 45) (bits 12 1023) HT_ (by kernel_rfl) rfl rfl (fun _ _ _ h => h) (by kernel_rfl) ?_
         refine sv 10 (some 46) (bits 12 2047) HT_ (by kernel_rfl) rfl rfl (fun _ _ _ h => h) (by kernel_rfl) ?_
         refine pv 11 (some 47) (v := ?_) (bits 12 4095) HT_ (by kernel_rfl) rfl rfl (fun _ _ _ h => h) (by kernel_rfl) ?_ ?_; rotate_left; (intro w'; go_simp; with_reducible rfl)
         refine norm_ (a' := ?_) ?_ ?_
         rotate_left
         ·simp only [Act.put, za, zb, zc, i64_w, i32_w]
          rfl
         refine done_ (done_of HT_.out (by kernel_rfl)) ?_
         clear c3_0 c3_1 c3_2
         obtain ⟨c3_0, c3_1, c3_2⟩ := cs3 F3)
        all_goals try go_wp2
        all_goals (
         refine rg (n := 8) (S := fun W => Kd.C k100 W (some ad) l.length l ∧ W.heap[g3]? = some (.cells #[.int .i64 (a), .int .i64 (b), .int .i64 (c)] 100 (0, 0))) (ds := []) #[false, false, false, false, false, false, false, false] (by kernel_rfl) rfl rfl ⟨(cb HR0 B), F3.out⟩ id B (fun w602 hb B hHeld => ?_)
         refine with_tabW spec_SessionPut.tab13 spec_SessionPut.bits13 (fun HT_ HW_ => ?_)
         replace F3 := bn F3 hb
         replace Rp6 := rn Rp6 hb
         clear hb
         refine pv 0 (some 52) (v := ?_) (bits 8 1) HT_ (by kernel_rfl) rfl rfl (fun _ _ _ h => h) (by kernel_rfl) ?_ ?_; rotate_left; (intro w'; go_simp; with_reducible rfl)
         refine pv 1 (some 53) (v := ?_) (bits 8 3) HT_ (by kernel_rfl) rfl rfl (fun _ _ _ h => h) (by kernel_rfl) ?_ ?_; rotate_left; (intro w'; go_simp; with_reducible rfl)
         refine pv 2 (some 54) (v := ?_) (bits 8 7) HT_ (by kernel_rfl) rfl rfl (fun _ _ _ h => h) (by kernel_rfl) ?_ ?_; rotate_left; (intro w'; go_simp; with_reducible rfl)
         refine pv 3 (some 55) (v := ?_) (bits 8 15) HT_ (by kernel_rfl) rfl rfl (fun _ _ _ h => h) (by kernel_rfl) ?_ ?_; rotate_left; (intro w'; go_simp; with_reducible rfl)
         refine tv 4 (some 56) (v := ?_) (bits 8 31) HT_ HW_ (by kernel_rfl) rfl rfl (fun _ _ _ h => h) (by kernel_rfl) hHeld ?_ ?_; rotate_left; (intro w' hS; obtain ⟨s0, s1⟩ := hS; obtain ⟨_, hA, q0, q1, q2⟩ := at_T100 s0 (j : Int) (by omega) (by omega); cases hA; rw [Int.toNat_natCast] at q0 q1 q2; rw [hy] at q0 q1 q2; go_simp; with_reducible rfl)
         refine pv 5 (some 57) (v := ?_) (bits 8 63) HT_ (by kernel_rfl) rfl rfl (fun _ _ _ h => h) (by kernel_rfl) ?_ ?_; rotate_left; (intro w'; go_simp; with_reducible rfl)
         refine tv 6 (some 58) (v := ?_) (bits 8 127) HT_ HW_ (by kernel_rfl) rfl rfl (fun _ _ _ h => h) (by kernel_rfl) hHeld ?_ ?_; rotate_left; (intro w' hS; obtain ⟨s0, s1⟩ := hS; obtain ⟨q0, q1, q2⟩ := cs3 (Aside0.mk s1); go_simp; with_reducible rfl)
         refine pv 7 (some 59) (v := ?_) (bits 8 255) HT_ (by kernel_rfl) rfl rfl (fun _ _ _ h => h) (by kernel_rfl) ?_ ?_; rotate_left; (intro w'; go_simp; with_reducible rfl)
         refine norm_ (a' := ?_) ?_ ?_
         rotate_left
         ·simp only [Act.put, za, zb, zc, i64_w, i32_w]
          rfl
         refine done_ (done_of HT_.out (by kernel_rfl)) ?_
         clear y0 y1 y2
         obtain ⟨ad2, hA, y0, y1, y2⟩ := at_T100 (cb HR0 B) (j : Int) (by omega) (by omega)
         cases hA
         rw [Int.toNat_natCast, hy] at y0 y1 y2)
        all_goals go_wp2_with (first
         | ((with_reducible refine gate_dst (N := 65) rfl ?_); refine lt k100 100 ?hg (N := 65) ?hd ([⟨y.f0, y.f1, y.f2⟩] : List S100) [.int .i64 (y.f0), .int .i64 (y.f1), .int .i64 (y.f2)] ?hr (Reps.c3 (k100_mkM _ _ _ ⟨y.f0, y.f1, y.f2⟩) (Reps.none _ _)) (by simp) B ?_; (case hd | hg => rfl); (case hr => go_simp; first | done | rfl); intro z65 hz65 AL65 kL65 w603 hb B RL65 QL65; have NB3_L65 := nb QL65 F3; replace F3 := bn F3 hb; replace Rp6 := rn Rp6 hb; clear hb QL65)
         | ((with_reducible refine gate_builtin (b := .append) (xs := #[.tmp 60, .tmp 65]) rfl ?_); at_builtin; refine apx k100 100 rfl (.tmp 60) (.tmp 65) 32 (.agg #[.int .i64 (0), .int .i64 (0), .int .i64 (0)]) 24 rfl Try.underlying32 info100 rfl (by decide) (by omega) rfl rfl Rp6 (rc RL65) (fun x cs h => by rw [k100_open h]; exact k100_mkM _ _ _ x) (by rw [← hz65]; simp only [List.length_append, List.length_cons, List.length_nil]; omega) B ?_; intro z66 hz66 AL66 kL66 w604 hg B RL66 hat; have NB3_L66 := nba hat NB3_p6 F3; replace F3 := bgn F3 hg NB3_p6; clear hg hat; subst hz65))
        go_roundg d
        case measure => omega
        case rel => exact ⟨j + 1, z66, true, congrArg (Value.int .i64) (Int.natCast_succ _).symm, rfl, by omega, by omega, (by rw [← hz66]; simp only [List.length_append, List.length_cons, List.length_nil]; omega), B, F3, RL66, NB3_L66, ⟨by rw [← hz66]; have HS := HT.out; simp only [List.append_assoc, List.cons_append, List.nil_append, List.append_nil] at HS ⊢; exact HS⟩⟩
      | false =>
       by_cases hge : a ≤ y.f0
       ·have dg : decide (y.f0 ≥ a) = true := decide_eq_true hge
        rw [if_pos ⟨rfl, hge⟩] at HS
        by_cases he : y.f0 = a
        ·have dn : (y.f0 != a) = false := by simp [he]
         have dn2 : decide (y.f0 = a) = true := decide_eq_true he
         rw [if_pos he] at HS
         have HT := Aside0.mk HS
         clear HS
         try go_wp2
         all_goals (
          refine rg (n := 12) (S := fun W => Kd.C k100 W (some ad) l.length l ∧ W.heap[g3]? = some (.cells #[.int .i64 (a), .int .i64 (b), .int .i64 (c)] 100 (0, 0))) (ds := []) #[false, false, false, false, false, false, false, false, false, false, false, false] (by kernel_rfl) rfl rfl ⟨(cb HR0 B), F3.out⟩ id B (fun w701 hb B hHeld => ?_)
          refine with_tabW spec_SessionPut.tab10 spec_SessionPut.bits10 (fun HT_ HW_ => ?_)
          replace F3 := bn F3 hb
          replace Rp6 := rn Rp6 hb
          clear hb
          refine pv 0 (some 36) (v := ?_) (bits 12 1) HT_ (by kernel_rfl) rfl rfl (fun _ _ _ h => h) (by kernel_rfl) ?_ ?_; rotate_left; (intro w'; go_simp; with_reducible rfl)
          refine pv 1 (some 37) (v := ?_) (bits 12 3) HT_ (by kernel_rfl) rfl rfl (fun _ _ _ h => h) (by kernel_rfl) ?_ ?_; rotate_left; (intro w'; go_simp; with_reducible rfl)
          refine pv 2 (some 38) (v := ?_) (bits 12 7) HT_ (by kernel_rfl) rfl rfl (fun _ _ _ h => h) (by kernel_rfl) ?_ ?_; rotate_left; (intro w'; go_simp; with_reducible rfl)
          refine pv 3 (some 39) (v := ?_) (bits 12 15) HT_ (by kernel_rfl) rfl rfl (fun _ _ _ h => h) (by kernel_rfl) ?_ ?_; rotate_left; (intro w'; go_simp; with_reducible rfl)
          refine pv 4 (some 40) (v := ?_) (bits 12 31) HT_ (by kernel_rfl) rfl rfl (fun _ _ _ h => h) (by kernel_rfl) ?_ ?_; rotate_left; (intro w'; go_simp; with_reducible rfl)
          refine pv 5 (some 41) (v := ?_) (bits 12 63) HT_ (by kernel_rfl) rfl rfl (fun _ _ _ h => h) (by kernel_rfl) ?_ ?_; rotate_left; (intro w'; go_simp; with_reducible rfl)
          refine pv 6 (some 42) (v := ?_) (bits 12 127) HT_ (by kernel_rfl) rfl rfl (fun _ _ _ h => h) (by kernel_rfl) ?_ ?_; rotate_left; (intro w'; go_simp; with_reducible rfl)
          refine tv 7 (some 43) (v := ?_) (bits 12 255) HT_ HW_ (by kernel_rfl) rfl rfl (fun _ _ _ h => h) (by kernel_rfl) hHeld ?_ ?_; rotate_left; (intro w' hS; obtain ⟨s0, s1⟩ := hS; obtain ⟨_, hA, q0, q1, q2⟩ := at_T100 s0 (j : Int) (by omega) (by omega); cases hA; rw [Int.toNat_natCast] at q0 q1 q2; rw [hy] at q0 q1 q2; go_simp; with_reducible rfl)
          refine pv 8 (some 44) (v := ?_) (bits 12 511) HT_ (by kernel_rfl) rfl rfl (fun _ _ _ h => h) (by kernel_rfl) ?_ ?_; rotate_left; (intro w'; go_simp; with_reducible rfl)
          refine tv 9 (some 45) (v := ?_) (bits 12 1023) HT_ HW_ (by kernel_rfl) rfl rfl (fun _ _ _ h => h) (by kernel_rfl) hHeld ?_ ?_; rotate_left; (intro w' hS; obtain ⟨s0, s1⟩ := hS; obtain ⟨q0, q1, q2⟩ := cs3 (Aside0.mk s1); go_simp; with_reducible rfl)
          refine pv 10 (some 46) (v := ?_) (bits 12 2047) HT_ (by kernel_rfl) rfl rfl (fun _ _ _ h => h) (by kernel_rfl) ?_ ?_; rotate_left; (intro w'; go_simp; with_reducible rfl)
          refine pv 11 (some 47) (v := ?_) (bits 12 4095) HT_ (by kernel_rfl) rfl rfl (fun _ _ _ h => h) (by kernel_rfl) ?_ ?_; rotate_left; (intro w'; go_simp; with_reducible rfl)
          refine norm_ (a' := ?_) ?_ ?_
          rotate_left
          ·simp only [Act.put, za, zb, zc, i64_w, i32_w]
           rfl
          refine done_ (done_of HT_.out (by kernel_rfl)) ?_
          clear c3_0 c3_1 c3_2
          obtain ⟨c3_0, c3_1, c3_2⟩ := cs3 F3)
         all_goals go_wp2_with (first
          | ((with_reducible refine gate_dst (N := 50) rfl ?_); refine lt k100 100 ?hg (N := 50) ?hd ([⟨a, b, c⟩] : List S100) [.int .i64 (a), .int .i64 (b), .int .i64 (c)] ?hr (Reps.c3 (k100_mkM _ _ _ ⟨a, b, c⟩) (Reps.none _ _)) (by simp) B ?_; (case hd | hg => rfl); (case hr => go_simp; first | done | rfl); intro z50 hz50 AL50 kL50 w702 hb B RL50 QL50; have NB3_L50 := nb QL50 F3; replace F3 := bn F3 hb; replace Rp6 := rn Rp6 hb; clear c3_0 c3_1 c3_2; obtain ⟨c3_0, c3_1, c3_2⟩ := cs3 F3; clear hb QL50)
          | ((with_reducible refine gate_builtin (b := .append) (xs := #[.tmp 48, .tmp 50]) rfl ?_); at_builtin; refine apx k100 100 rfl (.tmp 48) (.tmp 50) 32 (.agg #[.int .i64 (0), .int .i64 (0), .int .i64 (0)]) 24 rfl Try.underlying32 info100 rfl (by decide) (by omega) rfl rfl Rp6 (rc RL50) (fun x cs h => by rw [k100_open h]; exact k100_mkM _ _ _ x) (by rw [← hz50]; simp only [List.length_cons, List.length_nil]; omega) B ?_; intro z51 hz51 AL51 kL51 w703 hg B RL51 hat; have NB3_L51 := nba hat NB3_p6 F3; replace F3 := bgn F3 hg NB3_p6; clear c3_0 c3_1 c3_2; obtain ⟨c3_0, c3_1, c3_2⟩ := cs3 F3; clear hg hat; subst hz50))
         all_goals (
          refine rg (n := 8) (S := fun W => Kd.C k100 W (some ad) l.length l ∧ W.heap[g3]? = some (.cells #[.int .i64 (a), .int .i64 (b), .int .i64 (c)] 100 (0, 0))) (ds := []) #[false, false, false, false, false, false, false, false] (by kernel_rfl) rfl rfl ⟨(cb HR0 B), F3.out⟩ id B (fun w704 hb B hHeld => ?_)
          refine with_tabW spec_SessionPut.tab13 spec_SessionPut.bits13 (fun HT_ HW_ => ?_)
          replace F3 := bn F3 hb
          replace RL51 := rn RL51 hb
          clear hb
          refine pv 0 (some 52) (v := ?_) (bits 8 1) HT_ (by kernel_rfl) rfl rfl (fun _ _ _ h => h) (by kernel_rfl) ?_ ?_; rotate_left; (intro w'; go_simp; with_reducible rfl)
          refine pv 1 (some 53) (v := ?_) (bits 8 3) HT_ (by kernel_rfl) rfl rfl (fun _ _ _ h => h) (by kernel_rfl) ?_ ?_; rotate_left; (intro w'; go_simp; with_reducible rfl)
          refine pv 2 (some 54) (v := ?_) (bits 8 7) HT_ (by kernel_rfl) rfl rfl (fun _ _ _ h => h) (by kernel_rfl) ?_ ?_; rotate_left; (intro w'; go_simp; with_reducible rfl)
          refine pv 3 (some 55) (v := ?_) (bits 8 15) HT_ (by kernel_rfl) rfl rfl (fun _ _ _ h => h) (by kernel_rfl) ?_ ?_; rotate_left; (intro w'; go_simp; with_reducible rfl)
          refine tv 4 (some 56) (v := ?_) (bits 8 31) HT_ HW_ (by kernel_rfl) rfl rfl (fun _ _ _ h => h) (by kernel_rfl) hHeld ?_ ?_; rotate_left; (intro w' hS; obtain ⟨s0, s1⟩ := hS; obtain ⟨_, hA, q0, q1, q2⟩ := at_T100 s0 (j : Int) (by omega) (by omega); cases hA; rw [Int.toNat_natCast] at q0 q1 q2; rw [hy] at q0 q1 q2; go_simp; with_reducible rfl)
          refine pv 5 (some 57) (v := ?_) (bits 8 63) HT_ (by kernel_rfl) rfl rfl (fun _ _ _ h => h) (by kernel_rfl) ?_ ?_; rotate_left; (intro w'; go_simp; with_reducible rfl)
          refine tv 6 (some 58) (v := ?_) (bits 8 127) HT_ HW_ (by kernel_rfl) rfl rfl (fun _ _ _ h => h) (by kernel_rfl) hHeld ?_ ?_; rotate_left; (intro w' hS; obtain ⟨s0, s1⟩ := hS; obtain ⟨q0, q1, q2⟩ := cs3 (Aside0.mk s1); go_simp; with_reducible rfl)
          refine pv 7 (some 59) (v := ?_) (bits 8 255) HT_ (by kernel_rfl) rfl rfl (fun _ _ _ h => h) (by kernel_rfl) ?_ ?_; rotate_left; (intro w'; go_simp; with_reducible rfl)
          refine norm_ (a' := ?_) ?_ ?_
          rotate_left
          ·simp only [Act.put, za, zb, zc, i64_w, i32_w]
           rfl
          refine done_ (done_of HT_.out (by kernel_rfl)) ?_
          clear y0 y1 y2
          obtain ⟨ad2, hA, y0, y1, y2⟩ := at_T100 (cb HR0 B) (j : Int) (by omega) (by omega)
          cases hA
          rw [Int.toNat_natCast, hy] at y0 y1 y2)
         all_goals try go_wp2
         go_roundg d
         case measure => omega
         case rel => exact ⟨j + 1, z51, true, congrArg (Value.int .i64) (Int.natCast_succ _).symm, rfl, by omega, by omega, (by rw [← hz51]; simp only [List.length_append, List.length_cons, List.length_nil]; omega), B, F3, RL51, NB3_L51, ⟨by rw [← hz51]; have HS := HT.out; simp only [List.append_assoc, List.cons_append, List.nil_append, List.append_nil] at HS ⊢; exact HS⟩⟩
        ·have dn : (y.f0 != a) = true := by simp [he]
         have dn2 : decide (y.f0 = a) = false := decide_eq_false he
         rw [if_neg he] at HS
         have HT := Aside0.mk HS
         clear HS
         try go_wp2
         all_goals (
          refine rg (n := 12) (S := fun W => Kd.C k100 W (some ad) l.length l ∧ W.heap[g3]? = some (.cells #[.int .i64 (a), .int .i64 (b), .int .i64 (c)] 100 (0, 0))) (ds := []) #[false, false, false, false, false, false, false, false, false, false, false, false] (by kernel_rfl) rfl rfl ⟨(cb HR0 B), F3.out⟩ id B (fun w801 hb B hHeld => ?_)
          refine with_tabW spec_SessionPut.tab10 spec_SessionPut.bits10 (fun HT_ HW_ => ?_)
          replace F3 := bn F3 hb
          replace Rp6 := rn Rp6 hb
          clear hb
          refine pv 0 (some 36) (v := ?_) (bits 12 1) HT_ (by kernel_rfl) rfl rfl (fun _ _ _ h => h) (by kernel_rfl) ?_ ?_; rotate_left; (intro w'; go_simp; with_reducible rfl)
          refine pv 1 (some 37) (v := ?_) (bits 12 3) HT_ (by kernel_rfl) rfl rfl (fun _ _ _ h => h) (by kernel_rfl) ?_ ?_; rotate_left; (intro w'; go_simp; with_reducible rfl)
          refine pv 2 (some 38) (v := ?_) (bits 12 7) HT_ (by kernel_rfl) rfl rfl (fun _ _ _ h => h) (by kernel_rfl) ?_ ?_; rotate_left; (intro w'; go_simp; with_reducible rfl)
          refine pv 3 (some 39) (v := ?_) (bits 12 15) HT_ (by kernel_rfl) rfl rfl (fun _ _ _ h => h) (by kernel_rfl) ?_ ?_; rotate_left; (intro w'; go_simp; with_reducible rfl)
          refine pv 4 (some 40) (v := ?_) (bits 12 31) HT_ (by kernel_rfl) rfl rfl (fun _ _ _ h => h) (by kernel_rfl) ?_ ?_; rotate_left; (intro w'; go_simp; with_reducible rfl)
          refine pv 5 (some 41) (v := ?_) (bits 12 63) HT_ (by kernel_rfl) rfl rfl (fun _ _ _ h => h) (by kernel_rfl) ?_ ?_; rotate_left; (intro w'; go_simp; with_reducible rfl)
          refine pv 6 (some 42) (v := ?_) (bits 12 127) HT_ (by kernel_rfl) rfl rfl (fun _ _ _ h => h) (by kernel_rfl) ?_ ?_; rotate_left; (intro w'; go_simp; with_reducible rfl)
          refine tv 7 (some 43) (v := ?_) (bits 12 255) HT_ HW_ (by kernel_rfl) rfl rfl (fun _ _ _ h => h) (by kernel_rfl) hHeld ?_ ?_; rotate_left; (intro w' hS; obtain ⟨s0, s1⟩ := hS; obtain ⟨_, hA, q0, q1, q2⟩ := at_T100 s0 (j : Int) (by omega) (by omega); cases hA; rw [Int.toNat_natCast] at q0 q1 q2; rw [hy] at q0 q1 q2; go_simp; with_reducible rfl)
          refine pv 8 (some 44) (v := ?_) (bits 12 511) HT_ (by kernel_rfl) rfl rfl (fun _ _ _ h => h) (by kernel_rfl) ?_ ?_; rotate_left; (intro w'; go_simp; with_reducible rfl)
          refine tv 9 (some 45) (v := ?_) (bits 12 1023) HT_ HW_ (by kernel_rfl) rfl rfl (fun _ _ _ h => h) (by kernel_rfl) hHeld ?_ ?_; rotate_left; (intro w' hS; obtain ⟨s0, s1⟩ := hS; obtain ⟨q0, q1, q2⟩ := cs3 (Aside0.mk s1); go_simp; with_reducible rfl)
          refine pv 10 (some 46) (v := ?_) (bits 12 2047) HT_ (by kernel_rfl) rfl rfl (fun _ _ _ h => h) (by kernel_rfl) ?_ ?_; rotate_left; (intro w'; go_simp; with_reducible rfl)
          refine pv 11 (some 47) (v := ?_) (bits 12 4095) HT_ (by kernel_rfl) rfl rfl (fun _ _ _ h => h) (by kernel_rfl) ?_ ?_; rotate_left; (intro w'; go_simp; with_reducible rfl)
          refine norm_ (a' := ?_) ?_ ?_
          rotate_left
          ·simp only [Act.put, za, zb, zc, i64_w, i32_w]
           rfl
          refine done_ (done_of HT_.out (by kernel_rfl)) ?_
          clear c3_0 c3_1 c3_2
          obtain ⟨c3_0, c3_1, c3_2⟩ := cs3 F3)
         all_goals go_wp2_with (first
          | ((with_reducible refine gate_dst (N := 50) rfl ?_); refine lt k100 100 ?hg (N := 50) ?hd ([⟨a, b, c⟩] : List S100) [.int .i64 (a), .int .i64 (b), .int .i64 (c)] ?hr (Reps.c3 (k100_mkM _ _ _ ⟨a, b, c⟩) (Reps.none _ _)) (by simp) B ?_; (case hd | hg => rfl); (case hr => go_simp; first | done | rfl); intro z50 hz50 AL50 kL50 w802 hb B RL50 QL50; have NB3_L50 := nb QL50 F3; replace F3 := bn F3 hb; replace Rp6 := rn Rp6 hb; clear c3_0 c3_1 c3_2; obtain ⟨c3_0, c3_1, c3_2⟩ := cs3 F3; clear hb QL50)
          | ((with_reducible refine gate_builtin (b := .append) (xs := #[.tmp 48, .tmp 50]) rfl ?_); at_builtin; refine apx k100 100 rfl (.tmp 48) (.tmp 50) 32 (.agg #[.int .i64 (0), .int .i64 (0), .int .i64 (0)]) 24 rfl Try.underlying32 info100 rfl (by decide) (by omega) rfl rfl Rp6 (rc RL50) (fun x cs h => by rw [k100_open h]; exact k100_mkM _ _ _ x) (by rw [← hz50]; simp only [List.length_cons, List.length_nil]; omega) B ?_; intro z51 hz51 AL51 kL51 w803 hg B RL51 hat; have NB3_L51 := nba hat NB3_p6 F3; replace F3 := bgn F3 hg NB3_p6; clear c3_0 c3_1 c3_2; obtain ⟨c3_0, c3_1, c3_2⟩ := cs3 F3; clear hg hat; subst hz50))
         all_goals (
          refine rg (n := 8) (S := fun W => Kd.C k100 W (some ad) l.length l ∧ W.heap[g3]? = some (.cells #[.int .i64 (a), .int .i64 (b), .int .i64 (c)] 100 (0, 0))) (ds := []) #[false, false, false, false, false, false, false, false] (by kernel_rfl) rfl rfl ⟨(cb HR0 B), F3.out⟩ id B (fun w804 hb B hHeld => ?_)
          refine with_tabW spec_SessionPut.tab13 spec_SessionPut.bits13 (fun HT_ HW_ => ?_)
          replace F3 := bn F3 hb
          replace RL51 := rn RL51 hb
          clear hb
          refine pv 0 (some 52) (v := ?_) (bits 8 1) HT_ (by kernel_rfl) rfl rfl (fun _ _ _ h => h) (by kernel_rfl) ?_ ?_; rotate_left; (intro w'; go_simp; with_reducible rfl)
          refine pv 1 (some 53) (v := ?_) (bits 8 3) HT_ (by kernel_rfl) rfl rfl (fun _ _ _ h => h) (by kernel_rfl) ?_ ?_; rotate_left; (intro w'; go_simp; with_reducible rfl)
          refine pv 2 (some 54) (v := ?_) (bits 8 7) HT_ (by kernel_rfl) rfl rfl (fun _ _ _ h => h) (by kernel_rfl) ?_ ?_; rotate_left; (intro w'; go_simp; with_reducible rfl)
          refine pv 3 (some 55) (v := ?_) (bits 8 15) HT_ (by kernel_rfl) rfl rfl (fun _ _ _ h => h) (by kernel_rfl) ?_ ?_; rotate_left; (intro w'; go_simp; with_reducible rfl)
          refine tv 4 (some 56) (v := ?_) (bits 8 31) HT_ HW_ (by kernel_rfl) rfl rfl (fun _ _ _ h => h) (by kernel_rfl) hHeld ?_ ?_; rotate_left; (intro w' hS; obtain ⟨s0, s1⟩ := hS; obtain ⟨_, hA, q0, q1, q2⟩ := at_T100 s0 (j : Int) (by omega) (by omega); cases hA; rw [Int.toNat_natCast] at q0 q1 q2; rw [hy] at q0 q1 q2; go_simp; with_reducible rfl)
          refine pv 5 (some 57) (v := ?_) (bits 8 63) HT_ (by kernel_rfl) rfl rfl (fun _ _ _ h => h) (by kernel_rfl) ?_ ?_; rotate_left; (intro w'; go_simp; with_reducible rfl)
          refine tv 6 (some 58) (v := ?_) (bits 8 127) HT_ HW_ (by kernel_rfl) rfl rfl (fun _ _ _ h => h) (by kernel_rfl) hHeld ?_ ?_; rotate_left; (intro w' hS; obtain ⟨s0, s1⟩ := hS; obtain ⟨q0, q1, q2⟩ := cs3 (Aside0.mk s1); go_simp; with_reducible rfl)
          refine pv 7 (some 59) (v := ?_) (bits 8 255) HT_ (by kernel_rfl) rfl rfl (fun _ _ _ h => h) (by kernel_rfl) ?_ ?_; rotate_left; (intro w'; go_simp; with_reducible rfl)
          refine norm_ (a' := ?_) ?_ ?_
          rotate_left
          ·simp only [Act.put, za, zb, zc, i64_w, i32_w]
           rfl
          refine done_ (done_of HT_.out (by kernel_rfl)) ?_
          clear y0 y1 y2
          obtain ⟨ad2, hA, y0, y1, y2⟩ := at_T100 (cb HR0 B) (j : Int) (by omega) (by omega)
          cases hA
          rw [Int.toNat_natCast, hy] at y0 y1 y2)
         all_goals go_wp2_with (first
          | ((with_reducible refine gate_dst (N := 65) rfl ?_); refine lt k100 100 ?hg (N := 65) ?hd ([⟨y.f0, y.f1, y.f2⟩] : List S100) [.int .i64 (y.f0), .int .i64 (y.f1), .int .i64 (y.f2)] ?hr (Reps.c3 (k100_mkM _ _ _ ⟨y.f0, y.f1, y.f2⟩) (Reps.none _ _)) (by simp) B ?_; (case hd | hg => rfl); (case hr => go_simp; first | done | rfl); intro z65 hz65 AL65 kL65 w805 hb B RL65 QL65; have NB3_L65 := nb QL65 F3; replace F3 := bn F3 hb; replace RL51 := rn RL51 hb; clear hb QL65)
          | ((with_reducible refine gate_builtin (b := .append) (xs := #[.tmp 60, .tmp 65]) rfl ?_); at_builtin; refine apx k100 100 rfl (.tmp 60) (.tmp 65) 32 (.agg #[.int .i64 (0), .int .i64 (0), .int .i64 (0)]) 24 rfl Try.underlying32 info100 rfl (by decide) (by omega) rfl rfl RL51 (rc RL65) (fun x cs h => by rw [k100_open h]; exact k100_mkM _ _ _ x) (by rw [← hz65, ← hz51]; simp only [List.length_append, List.length_cons, List.length_nil]; omega) B ?_; intro z66 hz66 AL66 kL66 w806 hg B RL66 hat; have NB3_L66 := nba hat NB3_L51 F3; replace F3 := bgn F3 hg NB3_L51; clear hg hat; subst hz65))
         go_roundg d
         case measure => omega
         case rel => exact ⟨j + 1, z66, true, congrArg (Value.int .i64) (Int.natCast_succ _).symm, rfl, by omega, by omega, (by rw [← hz66, ← hz51]; simp only [List.length_append, List.length_cons, List.length_nil]; omega), B, F3, RL66, NB3_L66, ⟨by rw [← hz66, ← hz51]; have HS := HT.out; simp only [List.append_assoc, List.cons_append, List.nil_append, List.append_nil] at HS ⊢; exact HS⟩⟩
       ·have dg : decide (y.f0 ≥ a) = false := decide_eq_false hge
        rw [if_neg (fun h => hge h.2)] at HS
        have he : ¬ y.f0 = a := fun h => hge (by omega)
        have dn : (y.f0 != a) = true := by simp [he]
        have dn2 : decide (y.f0 = a) = false := decide_eq_false he
        rw [if_neg he] at HS
        have HT := Aside0.mk HS
        clear HS
        try go_wp2
        all_goals (
         refine rg (n := 12) (S := fun W => Kd.C k100 W (some ad) l.length l ∧ W.heap[g3]? = some (.cells #[.int .i64 (a), .int .i64 (b), .int .i64 (c)] 100 (0, 0))) (ds := []) #[false, false, false, false, false, false, false, false, false, false, false, false] (by kernel_rfl) rfl rfl ⟨(cb HR0 B), F3.out⟩ id B (fun w901 hb B hHeld => ?_)
         refine with_tabW spec_SessionPut.tab10 spec_SessionPut.bits10 (fun HT_ HW_ => ?_)
         replace F3 := bn F3 hb
         replace Rp6 := rn Rp6 hb
         clear hb
         refine pv 0 (some 36) (v := ?_) (bits 12 1) HT_ (by kernel_rfl) rfl rfl (fun _ _ _ h => h) (by kernel_rfl) ?_ ?_; rotate_left; (intro w'; go_simp; with_reducible rfl)
         refine pv 1 (some 37) (v := ?_) (bits 12 3) HT_ (by kernel_rfl) rfl rfl (fun _ _ _ h => h) (by kernel_rfl) ?_ ?_; rotate_left; (intro w'; go_simp; with_reducible rfl)
         refine pv 2 (some 38) (v := ?_) (bits 12 7) HT_ (by kernel_rfl) rfl rfl (fun _ _ _ h => h) (by kernel_rfl) ?_ ?_; rotate_left; (intro w'; go_simp; with_reducible rfl)
         refine pv 3 (some 39) (v := ?_) (bits 12 15) HT_ (by kernel_rfl) rfl rfl (fun _ _ _ h => h) (by kernel_rfl) ?_ ?_; rotate_left; (intro w'; go_simp; with_reducible rfl)
         refine pv 4 (some 40) (v := ?_) (bits 12 31) HT_ (by kernel_rfl) rfl rfl (fun _ _ _ h => h) (by kernel_rfl) ?_ ?_; rotate_left; (intro w'; go_simp; with_reducible rfl)
         refine pv 5 (some 41) (v := ?_) (bits 12 63) HT_ (by kernel_rfl) rfl rfl (fun _ _ _ h => h) (by kernel_rfl) ?_ ?_; rotate_left; (intro w'; go_simp; with_reducible rfl)
         refine pv 6 (some 42) (v := ?_) (bits 12 127) HT_ (by kernel_rfl) rfl rfl (fun _ _ _ h => h) (by kernel_rfl) ?_ ?_; rotate_left; (intro w'; go_simp; with_reducible rfl)
         refine tv 7 (some 43) (v := ?_) (bits 12 255) HT_ HW_ (by kernel_rfl) rfl rfl (fun _ _ _ h => h) (by kernel_rfl) hHeld ?_ ?_; rotate_left; (intro w' hS; obtain ⟨s0, s1⟩ := hS; obtain ⟨_, hA, q0, q1, q2⟩ := at_T100 s0 (j : Int) (by omega) (by omega); cases hA; rw [Int.toNat_natCast] at q0 q1 q2; rw [hy] at q0 q1 q2; go_simp; with_reducible rfl)
         refine pv 8 (some 44) (v := ?_) (bits 12 511) HT_ (by kernel_rfl) rfl rfl (fun _ _ _ h => h) (by kernel_rfl) ?_ ?_; rotate_left; (intro w'; go_simp; with_reducible rfl)
         refine tv 9 (some 45) (v := ?_) (bits 12 1023) HT_ HW_ (by kernel_rfl) rfl rfl (fun _ _ _ h => h) (by kernel_rfl) hHeld ?_ ?_; rotate_left; (intro w' hS; obtain ⟨s0, s1⟩ := hS; obtain ⟨q0, q1, q2⟩ := cs3 (Aside0.mk s1); go_simp; with_reducible rfl)
         refine pv 10 (some 46) (v := ?_) (bits 12 2047) HT_ (by kernel_rfl) rfl rfl (fun _ _ _ h => h) (by kernel_rfl) ?_ ?_; rotate_left; (intro w'; go_simp; with_reducible rfl)
         refine pv 11 (some 47) (v := ?_) (bits 12 4095) HT_ (by kernel_rfl) rfl rfl (fun _ _ _ h => h) (by kernel_rfl) ?_ ?_; rotate_left; (intro w'; go_simp; with_reducible rfl)
         refine norm_ (a' := ?_) ?_ ?_
         rotate_left
         ·simp only [Act.put, za, zb, zc, i64_w, i32_w]
          rfl
         refine done_ (done_of HT_.out (by kernel_rfl)) ?_
         clear c3_0 c3_1 c3_2
         obtain ⟨c3_0, c3_1, c3_2⟩ := cs3 F3)
        all_goals try go_wp2
        all_goals (
         refine rg (n := 8) (S := fun W => Kd.C k100 W (some ad) l.length l ∧ W.heap[g3]? = some (.cells #[.int .i64 (a), .int .i64 (b), .int .i64 (c)] 100 (0, 0))) (ds := []) #[false, false, false, false, false, false, false, false] (by kernel_rfl) rfl rfl ⟨(cb HR0 B), F3.out⟩ id B (fun w902 hb B hHeld => ?_)
         refine with_tabW spec_SessionPut.tab13 spec_SessionPut.bits13 (fun HT_ HW_ => ?_)
         replace F3 := bn F3 hb
         replace Rp6 := rn Rp6 hb
         clear hb
         refine pv 0 (some 52) (v := ?_) (bits 8 1) HT_ (by kernel_rfl) rfl rfl (fun _ _ _ h => h) (by kernel_rfl) ?_ ?_; rotate_left; (intro w'; go_simp; with_reducible rfl)
         refine pv 1 (some 53) (v := ?_) (bits 8 3) HT_ (by kernel_rfl) rfl rfl (fun _ _ _ h => h) (by kernel_rfl) ?_ ?_; rotate_left; (intro w'; go_simp; with_reducible rfl)
         refine pv 2 (some 54) (v := ?_) (bits 8 7) HT_ (by kernel_rfl) rfl rfl (fun _ _ _ h => h) (by kernel_rfl) ?_ ?_; rotate_left; (intro w'; go_simp; with_reducible rfl)
         refine pv 3 (some 55) (v := ?_) (bits 8 15) HT_ (by kernel_rfl) rfl rfl (fun _ _ _ h => h) (by kernel_rfl) ?_ ?_; rotate_left; (intro w'; go_simp; with_reducible rfl)
         refine tv 4 (some 56) (v := ?_) (bits 8 31) HT_ HW_ (by kernel_rfl) rfl rfl (fun _ _ _ h => h) (by kernel_rfl) hHeld ?_ ?_; rotate_left; (intro w' hS; obtain ⟨s0, s1⟩ := hS; obtain ⟨_, hA, q0, q1, q2⟩ := at_T100 s0 (j : Int) (by omega) (by omega); cases hA; rw [Int.toNat_natCast] at q0 q1 q2; rw [hy] at q0 q1 q2; go_simp; with_reducible rfl)
         refine pv 5 (some 57) (v := ?_) (bits 8 63) HT_ (by kernel_rfl) rfl rfl (fun _ _ _ h => h) (by kernel_rfl) ?_ ?_; rotate_left; (intro w'; go_simp; with_reducible rfl)
         refine tv 6 (some 58) (v := ?_) (bits 8 127) HT_ HW_ (by kernel_rfl) rfl rfl (fun _ _ _ h => h) (by kernel_rfl) hHeld ?_ ?_; rotate_left; (intro w' hS; obtain ⟨s0, s1⟩ := hS; obtain ⟨q0, q1, q2⟩ := cs3 (Aside0.mk s1); go_simp; with_reducible rfl)
         refine pv 7 (some 59) (v := ?_) (bits 8 255) HT_ (by kernel_rfl) rfl rfl (fun _ _ _ h => h) (by kernel_rfl) ?_ ?_; rotate_left; (intro w'; go_simp; with_reducible rfl)
         refine norm_ (a' := ?_) ?_ ?_
         rotate_left
         ·simp only [Act.put, za, zb, zc, i64_w, i32_w]
          rfl
         refine done_ (done_of HT_.out (by kernel_rfl)) ?_
         clear y0 y1 y2
         obtain ⟨ad2, hA, y0, y1, y2⟩ := at_T100 (cb HR0 B) (j : Int) (by omega) (by omega)
         cases hA
         rw [Int.toNat_natCast, hy] at y0 y1 y2)
        all_goals go_wp2_with (first
         | ((with_reducible refine gate_dst (N := 65) rfl ?_); refine lt k100 100 ?hg (N := 65) ?hd ([⟨y.f0, y.f1, y.f2⟩] : List S100) [.int .i64 (y.f0), .int .i64 (y.f1), .int .i64 (y.f2)] ?hr (Reps.c3 (k100_mkM _ _ _ ⟨y.f0, y.f1, y.f2⟩) (Reps.none _ _)) (by simp) B ?_; (case hd | hg => rfl); (case hr => go_simp; first | done | rfl); intro z65 hz65 AL65 kL65 w903 hb B RL65 QL65; have NB3_L65 := nb QL65 F3; replace F3 := bn F3 hb; replace Rp6 := rn Rp6 hb; clear hb QL65)
         | ((with_reducible refine gate_builtin (b := .append) (xs := #[.tmp 60, .tmp 65]) rfl ?_); at_builtin; refine apx k100 100 rfl (.tmp 60) (.tmp 65) 32 (.agg #[.int .i64 (0), .int .i64 (0), .int .i64 (0)]) 24 rfl Try.underlying32 info100 rfl (by decide) (by omega) rfl rfl Rp6 (rc RL65) (fun x cs h => by rw [k100_open h]; exact k100_mkM _ _ _ x) (by rw [← hz65]; simp only [List.length_append, List.length_cons, List.length_nil]; omega) B ?_; intro z66 hz66 AL66 kL66 w904 hg B RL66 hat; have NB3_L66 := nba hat NB3_p6 F3; replace F3 := bgn F3 hg NB3_p6; clear hg hat; subst hz65))
        go_roundg d
        case measure => omega
        case rel => exact ⟨j + 1, z66, false, congrArg (Value.int .i64) (Int.natCast_succ _).symm, rfl, by omega, by omega, (by rw [← hz66]; simp only [List.length_append, List.length_cons, List.length_nil]; omega), B, F3, RL66, NB3_L66, ⟨by rw [← hz66]; have HS := HT.out; simp only [List.append_assoc, List.cons_append, List.nil_append, List.append_nil] at HS ⊢; exact HS⟩⟩
     ·have cj : decide ((j : Int) < (l.length : Int)) = false := decide_eq_false (by omega)
      have hr := H.out
      rw [List.drop_of_length_le (by omega)] at hr
      cases pl with
      | true =>
       rw [show putL ([] : List S100) ⟨a, b, c⟩ true = [] from rfl, List.append_nil] at hr
       subst hr
       go_wp2
       go_ret2
       exact ⟨_, rfl, Rp6.out, B.out⟩
      | false =>
       rw [show putL ([] : List S100) ⟨a, b, c⟩ false = [⟨a, b, c⟩] from rfl] at hr
       subst hr
       go_wp2_with (first
        | ((with_reducible refine gate_dst (N := 71) rfl ?_); refine lt k100 100 ?hg (N := 71) ?hd ([⟨a, b, c⟩] : List S100) [.int .i64 (a), .int .i64 (b), .int .i64 (c)] ?hr (Reps.c3 (k100_mkM _ _ _ ⟨a, b, c⟩) (Reps.none _ _)) (by simp) B ?_; (case hd | hg => rfl); (case hr => go_simp; first | done | rfl); intro z71 hz71 AL71 kL71 w1201 hb B RL71 QL71; have NB3_L71 := nb QL71 F3; replace F3 := bn F3 hb; replace Rp6 := rn Rp6 hb; clear hb QL71)
        | ((with_reducible refine gate_builtin (b := .append) (xs := #[.tmp 69, .tmp 71]) rfl ?_); at_builtin; refine apx k100 100 rfl (.tmp 69) (.tmp 71) 32 (.agg #[.int .i64 (0), .int .i64 (0), .int .i64 (0)]) 24 rfl Try.underlying32 info100 rfl (by decide) (by omega) rfl rfl Rp6 (rc RL71) (fun x cs h => by rw [k100_open h]; exact k100_mkM _ _ _ x) (by rw [← hz71]; simp only [List.length_cons, List.length_nil]; omega) B ?_; intro z72 hz72 AL72 kL72 w1202 hg B RL72 hat; have NB3_L72 := nba hat NB3_p6 F3; replace F3 := bgn F3 hg NB3_p6; clear hg hat; subst hz71))
       go_ret2
       exact ⟨_, rfl, by rw [hz72]; exact RL72.out, B.out⟩
  | false =>
   have hone : sesB [(⟨a, b, c⟩ : S100)] = false := by rw [sesOne]; exact ho
   have hM : putB l ⟨a, b, c⟩ = ([], false) := put_bad (.inr hone)
   go_enter Try.func110, Try.ntmps110
   go_wp2_with (first
    | ((with_reducible refine gate_dst (N := 3) rfl ?_); refine bx ?hg (N := 3) ?hd (cs := #[.int .i64 (a), .int .i64 (b), .int .i64 (c)]) (t := 100) ?hr B ?_; (case hd | hg => rfl); (case hr => go_simp; first | done | rfl); intro g3 w101 hb B F3 L3 E3; obtain ⟨c3_0, c3_1, c3_2⟩ := cs3 F3; clear hb E3)
    | ((with_reducible refine gate_dst (N := 9) rfl ?_); refine lt k100 100 ?hg (N := 9) ?hd ([] : List S100) [] ?hr (Reps.none _ _) (by simp) B ?_; (case hd | hg => rfl); (case hr => go_simp; first | done | rfl); intro z9 hz9 AL9 kL9 w102 hb B RL9 QL9; have NB3_L9 := nb QL9 F3; replace F3 := bn F3 hb; clear c3_0 c3_1 c3_2; obtain ⟨c3_0, c3_1, c3_2⟩ := cs3 F3; clear hb QL9; subst hz9)
    | (go_at_call 49; with_reducible refine cl (spec_SessionsValid.M _ _ l _ (cb HR0 B)) B fun w103 hb B => ?_; replace F3 := bn F3 hb; replace RL9 := rn RL9 hb; clear c3_0 c3_1 c3_2; obtain ⟨c3_0, c3_1, c3_2⟩ := cs3 F3; clear hb)
    | ((with_reducible refine gate_dst (N := 15) rfl ?_); refine ungate ?hw ?_; (case hw => first | (go_simp; done) | rfl); refine lt k100 100 ?hg (N := 15) ?hd ([⟨a, b, c⟩] : List S100) [.int .i64 (a), .int .i64 (b), .int .i64 (c)] ?hr (Reps.c3 (k100_mkM _ _ _ ⟨a, b, c⟩) (Reps.none _ _)) (by simp) B ?_; (case hd | hg => rfl); (case hr => go_simp; first | done | rfl); intro z15 hz15 AL15 kL15 w104 hb B RL15 QL15; have NB3_L15 := nb QL15 F3; replace F3 := bn F3 hb; replace RL9 := rn RL9 hb; clear hb QL15)
    | (go_at_call 49; with_reducible refine cl (clv (spec_SessionsValid.M _ _ z15 _ (rc RL15)) (congrArg Value.bool (show sesB z15 = false by rw [← hz15]; exact hone))) B fun w105 hb B => ?_; replace F3 := bn F3 hb; replace RL9 := rn RL9 hb; clear hb; clear hz15))
   go_ret2; exact ⟨_, by rw [hM]; rfl, by rw [hM]; exact RL9.out, B.out⟩
 ·replace hv := Bool.eq_false_iff.mpr hv
  have hM : putB l ⟨a, b, c⟩ = ([], false) := put_bad (.inl hv)
  have hone := hv
  go_enter Try.func110, Try.ntmps110
  go_wp2_with (first
   | ((with_reducible refine gate_dst (N := 3) rfl ?_); refine bx ?hg (N := 3) ?hd (cs := #[.int .i64 (a), .int .i64 (b), .int .i64 (c)]) (t := 100) ?hr B ?_; (case hd | hg => rfl); (case hr => go_simp; first | done | rfl); intro g3 w1 hb B F3 L3 E3; obtain ⟨c3_0, c3_1, c3_2⟩ := cs3 F3; clear hb E3)
   | ((with_reducible refine gate_dst (N := 9) rfl ?_); refine lt k100 100 ?hg (N := 9) ?hd ([] : List S100) [] ?hr (Reps.none _ _) (by simp) B ?_; (case hd | hg => rfl); (case hr => go_simp; first | done | rfl); intro z9 hz9 AL9 kL9 w2 hb B RL9 QL9; have NB3_L9 := nb QL9 F3; replace F3 := bn F3 hb; clear c3_0 c3_1 c3_2; obtain ⟨c3_0, c3_1, c3_2⟩ := cs3 F3; clear hb QL9; subst hz9)
   | (go_at_call 49; with_reducible refine cl (spec_SessionsValid.M _ _ l _ (cb HR0 B)) B fun w3 hb B => ?_; replace F3 := bn F3 hb; replace RL9 := rn RL9 hb; clear c3_0 c3_1 c3_2; obtain ⟨c3_0, c3_1, c3_2⟩ := cs3 F3; clear hb)
   | ((with_reducible refine gate_dst (N := 15) rfl ?_); refine ungate ?hw ?_; (case hw => first | (go_simp; done) | rfl); refine lt k100 100 ?hg (N := 15) ?hd ([⟨a, b, c⟩] : List S100) [.int .i64 (a), .int .i64 (b), .int .i64 (c)] ?hr (Reps.c3 (k100_mkM _ _ _ ⟨a, b, c⟩) (Reps.none _ _)) (by simp) B ?_; (case hd | hg => rfl); (case hr => go_simp; first | done | rfl); intro z15 hz15 AL15 kL15 w4 hb B RL15 QL15; have NB3_L15 := nb QL15 F3; replace F3 := bn F3 hb; replace RL9 := rn RL9 hb; clear hb QL15)
   | (go_at_call 49; with_reducible refine cl (clv (spec_SessionsValid.M _ _ z15 _ (rc RL15)) (congrArg Value.bool (show sesB z15 = false by rw [← hz15]; exact hone))) B fun w5 hb B => ?_; replace F3 := bn F3 hb; replace RL9 := rn RL9 hb; clear hb; clear hz15))
  go_ret2; exact ⟨_, by rw [hM]; rfl, by rw [hM]; exact RL9.out, B.out⟩

theorem spec_l20Session.D (n : Int) (hn : n ≤ 1000000) (w W0 : World) (g : Nat) (bs : List Int) (p : Int) (hI : IsS119 w W0 g bs p) (hB : Below w.heap.size w W0) (hc : Dw.Code bs) (h0 : 0 ≤ p) (h1 : p ≤ 1099505000000) :
  Calls Try.prog 117 #[.pointer (some ⟨g, 0, none⟩), .int .i64 n] W0 fun e w' => ∃ x y u p', e = .returned (.agg #[.int .i64 x, .int .i64 y, .int .i64 u]) ∧ (True) ∧ Left w W0 g bs p 5 p' w' := by
 have hu := Try.underlying100
 have B := Aside0.mk hB
 have HI := Aside0.mk hI
 have HC := Aside0.mk hc
 have KK := Aside0.mk (Kept.refl W0 (RB g))
 clear hB hI hc
 go_enter Try.func117, Try.ntmps117
 go_wp2_with (first
  | ((with_reducible refine gate_dst (N := 4) rfl ?_); refine bx ?hg (N := 4) ?hd (cs := #[.int .i64 (0), .int .i64 (0), .int .i64 (0)]) (t := 100) ?hr B ?_; (case hd | hg => rfl); (case hr => go_simp; first | done | rfl); intro g4 w1 hb B F4 L4 E4; have M4 := mbx E4 KK; replace HI := hib HI hb; replace KK := kkb KK hb; clear hb E4)
  | (go_at_call 99; (with_reducible refine cg1 (spec_l20Rd_odd.D n (by omega) w _ g bs p HI.out B.out HC.out (by omega) (by omega)) fun x2 p2 hx2 hp2 w2 hk B HI2 => ?_); replace F4 := bkr F4 HI (by decide) hk; replace KK := kkr KK hk; replace HI := HI2; clear hk; skip)
  | ((with_reducible refine gate_dst (N := 14) rfl ?_); refine lt k100 100 ?hg (N := 14) ?hd ([⟨-1, 1, 0⟩, ⟨4, 1, 0⟩, ⟨1, 0, 0⟩, ⟨1, 1000, 0⟩, ⟨1, 1, -3⟩, ⟨1, 1, 1000⟩] : List S100) [.int .i64 (-1), .int .i64 (1), .int .i64 (0), .int .i64 (4), .int .i64 (1), .int .i64 (0), .int .i64 (1), .int .i64 (0), .int .i64 (0), .int .i64 (1), .int .i64 (1000), .int .i64 (0), .int .i64 (1), .int .i64 (1), .int .i64 (-3), .int .i64 (1), .int .i64 (1), .int .i64 (1000)] ?hr (Reps.c3 (k100_mkM _ _ _ ⟨-1, 1, 0⟩) (Reps.c3 (k100_mkM _ _ _ ⟨4, 1, 0⟩) (Reps.c3 (k100_mkM _ _ _ ⟨1, 0, 0⟩) (Reps.c3 (k100_mkM _ _ _ ⟨1, 1000, 0⟩) (Reps.c3 (k100_mkM _ _ _ ⟨1, 1, -3⟩) (Reps.c3 (k100_mkM _ _ _ ⟨1, 1, 1000⟩) (Reps.none _ _))))))) (by simp) B ?_; (case hd | hg => rfl); (case hr => go_simp; first | done | rfl); intro z14 hz14 AL14 kL14 w51 hb B RL14 QL14; have NB4_L14 := nb QL14 F4; have MRL14 := mrf QL14 KK; replace F4 := bn F4 hb; replace HI := hib HI hb; replace KK := kkb KK hb; clear hb QL14)
  | (go_at_call 79; (with_reducible refine cg1 (spec_l20Rd_pick.D 6 w _ g bs p2 HI.out B.out HC.out (by omega) (by omega)) fun x52 p52 hx52 hp52 w52 hk B HI2 => ?_); replace F4 := bkr F4 HI (by decide) hk; replace RL14 := rkr RL14 HI (by decide) hk; replace KK := kkr KK hk; replace HI := HI2; clear hk; skip; have hi52 : x52 < (z14.length : Int) := (by rw [← hz14]; have := hx52.2.1 (by omega); simpa using this); obtain ⟨ad52, hA52, y52_0, y52_1, y52_2⟩ := at_T100 (rc RL14) x52 hx52.1 hi52; have hj52 := hx52.1; generalize rd_T100 z14 x52 = y52 at *; cases hA52; have j52 := eq_true hj52; have i52 := eq_true hi52)
  | ((with_reducible refine gate_store (t := 100) (p := 4) rfl ?_); obtain ⟨y0, y1, y2, z0, z1, z2⟩ := cz3 F4; refine sx (t := 100) (t' := 100) (p := 4) (v := ?vo53) ?hg ?ho ?hn 0 [.int .i64 (y52.f0), .int .i64 (y52.f1), .int .i64 (y52.f2)] [.int .i64 (y52.f0), .int .i64 (y52.f1), .int .i64 (y52.f2)] ?hr B F4 L4 rfl (Nat.le_of_ble_eq_true rfl) ?_; (case ho | hg | hn => rfl); (case hr => go_simp; first | done | rfl); intro w53 hk B G; replace RL14 := rkn RL14 hk NB4_L14; replace HI := his HI F4 (by decide) hk; replace KK := kks KK M4 hk; replace F4 := G; clear hk y0 z0 y1 z1 y2 z2)
  | (go_at_call 79; (with_reducible refine cg1 (spec_l20Rd_pick.D 4 w _ g bs p2 HI.out B.out HC.out (by omega) (by omega)) fun x101 p101 hx101 hp101 w101 hk B HI2 => ?_); replace F4 := bkr F4 HI (by decide) hk; replace KK := kkr KK hk; replace HI := HI2; clear hk; skip)
  | (go_at_call 79; (with_reducible refine cg1 (spec_l20Rd_pick.D 6 w _ g bs p101 HI.out B.out HC.out (by omega) (by omega)) fun x102 p102 hx102 hp102 w102 hk B HI2 => ?_); replace F4 := bkr F4 HI (by decide) hk; replace KK := kkr KK hk; replace HI := HI2; clear hk; skip)
  | (go_at_call 79; (with_reducible refine cg1 (spec_l20Rd_pick.D 9 w _ g bs p102 HI.out B.out HC.out (by omega) (by omega)) fun x103 p103 hx103 hp103 w103 hk B HI2 => ?_); replace F4 := bkr F4 HI (by decide) hk; replace KK := kkr KK hk; replace HI := HI2; clear hk; skip)
  | ((with_reducible refine gate_store (t := 100) (p := 4) rfl ?_); obtain ⟨y0, y1, y2, z0, z1, z2⟩ := cz3 F4; refine sx (t := 100) (t' := 100) (p := 4) (v := ?vo104) ?hg ?ho ?hn 0 [.int .i64 (x101), .int .i64 (1 + x102), .int .i64 (x103 + -2)] [.int .i64 (x101), .int .i64 (1 + x102), .int .i64 (x103 + -2)] ?hr B F4 L4 rfl (Nat.le_of_ble_eq_true rfl) ?_; (case ho | hg | hn => rfl); (case hr => go_simp; first | done | rfl); intro w104 hk B G; replace HI := his HI F4 (by decide) hk; replace KK := kks KK M4 hk; replace F4 := G; clear hk y0 z0 y1 z1 y2 z2))
 all_goals (refine bodyPost_ret (results_single rfl (.cell g4 100 _ (0, 0) _ rfl F4.out hu rfl (by kernel_rfl) .nil)) rfl ?_)
 all_goals exact ⟨_, _, _, _, rfl, trivial, ⟨by omega, by omega⟩, HI.out, B.out, KK.out⟩
theorem spec_l20Sessions.D (n : Int) (hn : n ≤ 1000000) (w W0 : World) (g : Nat) (bs : List Int) (p : Int) (hI : IsS119 w W0 g bs p) (hB : Below w.heap.size w W0) (hc : Dw.Code bs) (h0 : 0 ≤ p) (h1 : p ≤ 1099500000000) :
  Calls Try.prog 98 #[.pointer (some ⟨g, 0, none⟩), .int .i64 n] W0 fun e w' => ∃ v0 xs p', e = .returned (v0) ∧ (xs.length ≤ 300) ∧ Kd.R k100 100 w' w.heap.size (fun _ => True) v0 xs ∧ Fr W0 v0 ∧ Left w W0 g bs p 70 p' w' := by
 have hu := Try.underlying100
 have B := Aside0.mk hB
 have HI := Aside0.mk hI
 have HC := Aside0.mk hc
 have KK := Aside0.mk (Kept.refl W0 (RB g))
 clear hB hI hc
 go_enter Try.func98, Try.ntmps98
 go_wp2_with (first
  | ((with_reducible refine gate_dst (N := 9) rfl ?_); refine lt k100 100 ?hg (N := 9) ?hd ([] : List S100) [] ?hr (Reps.none _ _) (by simp) B ?_; (case hd | hg => rfl); (case hr => go_simp; first | done | rfl); intro z9 hz9 AL9 kL9 w1 hb B RL9 QL9; have MRL9 := mrf QL9 KK; replace HI := hib HI hb; replace KK := kkb KK hb; clear hb QL9; subst hz9)
  | (go_at_call 79; (with_reducible refine cg1 (spec_l20Rd_pick.D 5 w _ g bs p HI.out B.out HC.out (by omega) (by omega)) fun x2 p2 hx2 hp2 w2 hk B HI2 => ?_); replace RL9 := rkr RL9 HI (by decide) hk; replace KK := kkr KK hk; replace HI := HI2; clear hk; skip))
 have hx1 := hx2.1
 have hx2 := hx2.2.1 (by omega)
 obtain ⟨m0, rfl⟩ : ∃ m : Nat, x2 = (m : Int) := ⟨x2.toNat, by omega⟩
 go_loopg [5, 6] (m0 + 1) (fun kx v5 v6 wr => ∃ (m : Nat) (xs : List S100) (pp : Int), v6 = .int .i64 (m : Int) ∧ m < kx ∧ m ≤ 4 ∧ xs.length + m ≤ 4 ∧ (p ≤ pp ∧ pp + 5 * (m : Int) ≤ p + 30) ∧ Aside0 (IsS119 w wr g bs pp) ∧ Aside0 (Kept W0 wr (RB g)) ∧ Aside0 (Below w.heap.size w wr) ∧ Aside0 (Ow k100 100 wr w.heap.size v5 xs) ∧ Aside0 (Fr W0 v5))
 case atStart => exact ⟨m0, [], _, rfl, by omega, by omega, by simp only [List.length_nil]; omega, by omega, HI, KK, B, RL9, MRL9⟩
 case round =>
  clear HI KK B RL9 MRL9
  obtain ⟨m, xs, pp, rfl, hm, hm8, hxl, hpp, HI, KK, B, Rp5, MRp5⟩ := hrel
  obtain ⟨A5, k5, rfl⟩ := Kd.R_slice Rp5.out
  by_cases hm0 : 0 < m
  ·obtain ⟨d, rfl⟩ : ∃ d, gk = d + 1 := ⟨gk - 1, by omega⟩
   have cj : decide ((0 : Int) < (m : Int)) = true := decide_eq_true (by omega)
   go_wp2_with (first
    | (go_at_call 117; (with_reducible refine cg3 (spec_l20Session.D 0 (by omega) w _ g bs pp HI.out B.out HC.out (by omega) (by omega)) fun x301 y301 u301 p301 hx301 hp301 w301 hk B HI2 => ?_); replace Rp5 := rkr Rp5 HI (by decide) hk; replace KK := kkr KK hk; replace HI := HI2; clear hk; skip)
    | (go_at_call 110; with_reducible refine crz (spec_SessionPut.M _ _ xs x301 y301 u301 _ (rc Rp5) (rl Rp5)) B fun zU302 hzU302 AU302 kU302 w302 hb B RU302 QU302 => ?_; have MRU302 := mrf QU302 KK; replace Rp5 := rn Rp5 hb; replace HI := hib HI hb; replace KK := kkb KK hb; clear QU302; clear hb))
   go_roundg d
   case measure => omega
   case rel => exact ⟨m - 1, zU302, _, congrArg (Value.int .i64) (by omega), by omega, by omega, by rw [← hzU302]; have := putB_length xs ⟨x301, y301, u301⟩; omega, by omega, HI, KK, B, RU302, MRU302⟩
  ·have cj : decide ((0 : Int) < (m : Int)) = false := decide_eq_false (by omega)
   go_wp2_with (first
    | (go_at_call 99; (with_reducible refine cg1 (spec_l20Rd_odd.D n (by omega) w _ g bs pp HI.out B.out HC.out (by omega) (by omega)) fun x501 p501 hx501 hp501 w501 hk B HI2 => ?_); replace Rp5 := rkr Rp5 HI (by decide) hk; replace KK := kkr KK hk; replace HI := HI2; clear hk; skip)
    | (go_at_call 79; (with_reducible refine cg1 (spec_l20Rd_pick.D 2 w _ g bs p501 HI.out B.out HC.out (by omega) (by omega)) fun x601 p601 hx601 hp601 w601 hk B HI2 => ?_); replace Rp5 := rkr Rp5 HI (by decide) hk; replace KK := kkr KK hk; replace HI := HI2; clear hk; skip)
    | ((with_reducible refine gate_builtin (b := .append) (xs := #[.tmp 30, .tmp 31]) rfl ?_); at_builtin; refine apx k100 100 rfl (.tmp 30) (.tmp 31) 32 (.agg #[.int .i64 (0), .int .i64 (0), .int .i64 (0)]) 24 rfl Try.underlying32 info100 rfl (by decide) (by omega) rfl rfl Rp5 (rc Rp5) (fun x cs h => by rw [k100_open h]; exact k100_mkM _ _ _ x) (by omega) B ?_; intro z32 hz32 AL32 kL32 w701 hg B RL32 hat; replace HI := hig HI Rp5 (by decide) hg; have MRL32 := mra hat MRp5 KK; replace KK := kkg KK MRp5 hg; clear hg hat)
    | (go_at_call 117; (with_reducible refine cg3 (spec_l20Session.D 1 (by omega) w _ g bs p601 HI.out B.out HC.out (by omega) (by omega)) fun x801 y801 u801 p801 hx801 hp801 w801 hk B HI2 => ?_); replace Rp5 := rkr Rp5 HI (by decide) hk; replace KK := kkr KK hk; replace HI := HI2; clear hk; skip)
    | ((with_reducible refine gate_dst (N := 36) rfl ?_); refine lt k100 100 ?hg (N := 36) ?hd ([⟨x801, y801, u801⟩] : List S100) [.int .i64 (x801), .int .i64 (y801), .int .i64 (u801)] ?hr (Reps.c3 (k100_mkM _ _ _ ⟨x801, y801, u801⟩) (Reps.none _ _)) (by simp) B ?_; (case hd | hg => rfl); (case hr => go_simp; first | done | rfl); intro z36 hz36 AL36 kL36 w802 hb B RL36 QL36; have MRL36 := mrf QL36 KK; replace Rp5 := rn Rp5 hb; replace HI := hib HI hb; replace KK := kkb KK hb; clear hb QL36)
    | ((with_reducible refine gate_builtin (b := .append) (xs := #[.tmp 33, .tmp 36]) rfl ?_); at_builtin; refine apx k100 100 rfl (.tmp 33) (.tmp 36) 32 (.agg #[.int .i64 (0), .int .i64 (0), .int .i64 (0)]) 24 rfl Try.underlying32 info100 rfl (by decide) (by omega) rfl rfl Rp5 (rc RL36) (fun x cs h => by rw [k100_open h]; exact k100_mkM _ _ _ x) (by rw [← hz36]; simp only [List.length_cons, List.length_nil]; omega) B ?_; intro z37 hz37 AL37 kL37 w803 hg B RL37 hat; replace HI := hig HI Rp5 (by decide) hg; have MRL37 := mra hat MRp5 KK; replace KK := kkg KK MRp5 hg; clear hg hat))
   all_goals go_ret
   all_goals first
    | exact ⟨_, _, _, rfl, by omega, Rp5.out, MRp5.out, ⟨by omega, by omega⟩, HI.out, B.out, KK.out⟩
    | exact ⟨_, _, _, rfl, by rw [← hz32]; simp only [List.length_append]; omega, RL32.out, MRL32.out, ⟨by omega, by omega⟩, HI.out, B.out, KK.out⟩
    | exact ⟨_, _, _, rfl, by rw [← hz37, ← hz36]; simp only [List.length_append, List.length_cons, List.length_nil]; omega, RL37.out, MRL37.out, ⟨by omega, by omega⟩, HI.out, B.out, KK.out⟩

theorem spec_l20Span.D (n : Int) (hn : n ≤ 1000000) (w W0 : World) (g : Nat) (bs : List Int) (p : Int) (hI : IsS119 w W0 g bs p) (hB : Below w.heap.size w W0) (hc : Dw.Code bs) (h0 : 0 ≤ p) (h1 : p ≤ 1099505000000) :
  Calls Try.prog 77 #[.pointer (some ⟨g, 0, none⟩), .int .i64 n] W0 fun e w' => ∃ x y p', e = .returned (.agg #[.string x, .string y]) ∧ (True) ∧ Left w W0 g bs p 20 p' w' := by
 have hu := Try.underlying30
 have B := Aside0.mk hB
 have HI := Aside0.mk hI
 have HC := Aside0.mk hc
 have KK := Aside0.mk (Kept.refl W0 (RB g))
 clear hB hI hc
 go_enter Try.func77, Try.ntmps77
 go_wp2_with (first
  | ((with_reducible refine gate_dst (N := 4) rfl ?_); refine bx ?hg (N := 4) ?hd (cs := #[.string (⟨#[]⟩ : ByteArray), .string (⟨#[]⟩ : ByteArray)]) (t := 30) ?hr B ?_; (case hd | hg => rfl); (case hr => go_simp; first | done | rfl); intro g4 w1 hb B F4 L4 E4; have M4 := mbx E4 KK; replace HI := hib HI hb; replace KK := kkb KK hb; clear hb E4)
  | (go_at_call 99; (with_reducible refine cg1 (spec_l20Rd_odd.D n (by omega) w _ g bs p HI.out B.out HC.out (by omega) (by omega)) fun x2 p2 hx2 hp2 w2 hk B HI2 => ?_); replace F4 := bkr F4 HI (by decide) hk; replace KK := kkr KK hk; replace HI := HI2; clear hk; skip)
  | ((with_reducible refine gate_dst (N := 15) rfl ?_); refine lt k30 30 ?hg (N := 15) ?hd ([⟨(⟨#[98]⟩ : ByteArray), (⟨#[98]⟩ : ByteArray)⟩, ⟨(⟨#[99]⟩ : ByteArray), (⟨#[98]⟩ : ByteArray)⟩, ⟨(⟨#[]⟩ : ByteArray), (⟨#[97]⟩ : ByteArray)⟩, ⟨(⟨#[65]⟩ : ByteArray), (⟨#[]⟩ : ByteArray)⟩, ⟨(⟨#[]⟩ : ByteArray), (⟨#[97, 98, 99, 100, 101]⟩ : ByteArray)⟩] : List S30) [.string (⟨#[98]⟩ : ByteArray), .string (⟨#[98]⟩ : ByteArray), .string (⟨#[99]⟩ : ByteArray), .string (⟨#[98]⟩ : ByteArray), .string (⟨#[]⟩ : ByteArray), .string (⟨#[97]⟩ : ByteArray), .string (⟨#[65]⟩ : ByteArray), .string (⟨#[]⟩ : ByteArray), .string (⟨#[]⟩ : ByteArray), .string (⟨#[97, 98, 99, 100, 101]⟩ : ByteArray)] ?hr (Reps.c2 (k30_mkM _ _ _ ⟨(⟨#[98]⟩ : ByteArray), (⟨#[98]⟩ : ByteArray)⟩) (Reps.c2 (k30_mkM _ _ _ ⟨(⟨#[99]⟩ : ByteArray), (⟨#[98]⟩ : ByteArray)⟩) (Reps.c2 (k30_mkM _ _ _ ⟨(⟨#[]⟩ : ByteArray), (⟨#[97]⟩ : ByteArray)⟩) (Reps.c2 (k30_mkM _ _ _ ⟨(⟨#[65]⟩ : ByteArray), (⟨#[]⟩ : ByteArray)⟩) (Reps.c2 (k30_mkM _ _ _ ⟨(⟨#[]⟩ : ByteArray), (⟨#[97, 98, 99, 100, 101]⟩ : ByteArray)⟩) (Reps.none _ _)))))) (by simp) B ?_; (case hd | hg => rfl); (case hr => go_simp; first | done | rfl); intro z15 hz15 AL15 kL15 w51 hb B RL15 QL15; have NB4_L15 := nb QL15 F4; have MRL15 := mrf QL15 KK; replace F4 := bn F4 hb; replace HI := hib HI hb; replace KK := kkb KK hb; clear hb QL15)
  | (go_at_call 79; (with_reducible refine cg1 (spec_l20Rd_pick.D 5 w _ g bs p2 HI.out B.out HC.out (by omega) (by omega)) fun x52 p52 hx52 hp52 w52 hk B HI2 => ?_); replace F4 := bkr F4 HI (by decide) hk; replace RL15 := rkr RL15 HI (by decide) hk; replace KK := kkr KK hk; replace HI := HI2; clear hk; skip; have hi52 : x52 < (z15.length : Int) := (by rw [← hz15]; have := hx52.2.1 (by omega); simpa using this); obtain ⟨ad52, hA52, y52_0, y52_1⟩ := at_T30 (rc RL15) x52 hx52.1 hi52; have hj52 := hx52.1; generalize rd_T30 z15 x52 = y52 at *; cases hA52; have j52 := eq_true hj52; have i52 := eq_true hi52)
  | ((with_reducible refine gate_store (t := 30) (p := 4) rfl ?_); obtain ⟨y0, y1, z0, z1⟩ := cz2 F4; refine sx (t := 30) (t' := 30) (p := 4) (v := ?vo53) ?hg ?ho ?hn 0 [.string y52.f0, .string y52.f1] [.string y52.f0, .string y52.f1] ?hr B F4 L4 rfl (Nat.le_of_ble_eq_true rfl) ?_; (case ho | hg | hn => rfl); (case hr => go_simp; first | done | rfl); intro w53 hk B G; replace RL15 := rkn RL15 hk NB4_L15; replace HI := his HI F4 (by decide) hk; replace KK := kks KK M4 hk; replace F4 := G; clear hk y0 z0 y1 z1)
  | (go_at_call 78; (with_reducible refine cg1 (spec_l20Key.D 0 (by omega) w _ g bs p2 HI.out B.out HC.out (by omega) (by omega)) fun x101 p101 hx101 hp101 w101 hk B HI2 => ?_); replace F4 := bkr F4 HI (by decide) hk; replace KK := kkr KK hk; replace HI := HI2; clear hk; skip)
  | (go_at_call 78; (with_reducible refine cg1 (spec_l20Key.D 0 (by omega) w _ g bs p101 HI.out B.out HC.out (by omega) (by omega)) fun x102 p102 hx102 hp102 w102 hk B HI2 => ?_); replace F4 := bkr F4 HI (by decide) hk; replace KK := kkr KK hk; replace HI := HI2; clear hk; skip)
  | (go_at_call 79; (with_reducible refine cg1 (spec_l20Rd_pick.D 6 w _ g bs p102 HI.out B.out HC.out (by omega) (by omega)) fun x103 p103 hx103 hp103 w103 hk B HI2 => ?_); replace F4 := bkr F4 HI (by decide) hk; replace KK := kkr KK hk; replace HI := HI2; clear hk; skip)
  | ((with_reducible refine gate_store (t := 30) (p := 4) rfl ?_); obtain ⟨y0, y1, z0, z1⟩ := cz2 F4; refine sx (t := 30) (t' := 30) (p := 4) (v := ?vo201) ?hg ?ho ?hn 0 [.string (⟨#[]⟩ : ByteArray), .string (⟨#[]⟩ : ByteArray)] [.string (⟨#[]⟩ : ByteArray), .string (⟨#[]⟩ : ByteArray)] ?hr B F4 L4 rfl (Nat.le_of_ble_eq_true rfl) ?_; (case ho | hg | hn => rfl); (case hr => go_simp; first | done | rfl); intro w201 hk B G; replace HI := his HI F4 (by decide) hk; replace KK := kks KK M4 hk; replace F4 := G; clear hk y0 z0 y1 z1)
  | ((with_reducible refine gate_store (t := 30) (p := 4) rfl ?_); obtain ⟨y0, y1, z0, z1⟩ := cz2 F4; refine sx (t := 30) (t' := 30) (p := 4) (v := ?vo251) ?hg ?ho ?hn 0 [.string x101, .string (⟨#[]⟩ : ByteArray)] [.string x101, .string (⟨#[]⟩ : ByteArray)] ?hr B F4 L4 rfl (Nat.le_of_ble_eq_true rfl) ?_; (case ho | hg | hn => rfl); (case hr => go_simp; first | done | rfl); intro w251 hk B G; replace HI := his HI F4 (by decide) hk; replace KK := kks KK M4 hk; replace F4 := G; clear hk y0 z0 y1 z1)
  | ((with_reducible refine gate_store (t := 30) (p := 4) rfl ?_); obtain ⟨y0, y1, z0, z1⟩ := cz2 F4; refine sx (t := 30) (t' := 30) (p := 4) (v := ?vo301) ?hg ?ho ?hn 0 [.string (⟨#[]⟩ : ByteArray), .string x102] [.string (⟨#[]⟩ : ByteArray), .string x102] ?hr B F4 L4 rfl (Nat.le_of_ble_eq_true rfl) ?_; (case ho | hg | hn => rfl); (case hr => go_simp; first | done | rfl); intro w301 hk B G; replace HI := his HI F4 (by decide) hk; replace KK := kks KK M4 hk; replace F4 := G; clear hk y0 z0 y1 z1)
  | ((with_reducible refine gate_store (t := 30) (p := 4) rfl ?_); obtain ⟨y0, y1, z0, z1⟩ := cz2 F4; refine sx (t := 30) (t' := 30) (p := 4) (v := ?vo351) ?hg ?ho ?hn 0 [.string x101, .string x102] [.string x101, .string x102] ?hr B F4 L4 rfl (Nat.le_of_ble_eq_true rfl) ?_; (case ho | hg | hn => rfl); (case hr => go_simp; first | done | rfl); intro w351 hk B G; replace HI := his HI F4 (by decide) hk; replace KK := kks KK M4 hk; replace F4 := G; clear hk y0 z0 y1 z1)
  | ((with_reducible refine gate_store (t := 30) (p := 4) rfl ?_); obtain ⟨y0, y1, z0, z1⟩ := cz2 F4; refine sx (t := 30) (t' := 30) (p := 4) (v := ?vo401) ?hg ?ho ?hn 0 [.string x102, .string x101] [.string x102, .string x101] ?hr B F4 L4 rfl (Nat.le_of_ble_eq_true rfl) ?_; (case ho | hg | hn => rfl); (case hr => go_simp; first | done | rfl); intro w401 hk B G; replace HI := his HI F4 (by decide) hk; replace KK := kks KK M4 hk; replace F4 := G; clear hk y0 z0 y1 z1)
  | ((with_reducible refine gate_store (t := 30) (p := 4) rfl ?_); obtain ⟨y0, y1, z0, z1⟩ := cz2 F4; refine sx (t := 30) (t' := 30) (p := 4) (v := ?vo451) ?hg ?ho ?hn 0 [.string x101, .string (⟨#[]⟩ : ByteArray)] [.string x101, .string (⟨#[]⟩ : ByteArray)] ?hr B F4 L4 rfl (Nat.le_of_ble_eq_true rfl) ?_; (case ho | hg | hn => rfl); (case hr => go_simp; first | done | rfl); intro w451 hk B G; replace HI := his HI F4 (by decide) hk; replace KK := kks KK M4 hk; replace F4 := G; clear hk y0 z0 y1 z1))
 all_goals (refine bodyPost_ret (results_single rfl (.cell g4 30 _ (0, 0) _ rfl F4.out hu rfl (by kernel_rfl) .nil)) rfl ?_)
 all_goals exact ⟨_, _, _, rfl, trivial, ⟨by omega, by omega⟩, HI.out, B.out, KK.out⟩

def spec_l20Sealed.T1 : Bool × List (List Nat × List Nat) := (true, [([], []), ([], []), ([1], [1]), ([], []), ([2, 3, 2], [2, 3]), ([], []), ([5, 4], [5]), ([], []), ([0, 4, 6, 7], [0, 4, 6, 7]), ([], []), ([9, 8, 6, 0, 1, 2, 3, 4, 5, 6, 7, 8, 9], [8, 9])])
def spec_l20Sealed.B1 : List Nat := [0, 0, 2, 0, 14, 0, 62, 0, 255, 0, 1023]
theorem spec_l20Sealed.tab1 : rtab .any (opsOf Try.f71 1) = spec_l20Sealed.T1 := by kernel_rfl
theorem spec_l20Sealed.bits1 : waitsOk spec_l20Sealed.T1.2 spec_l20Sealed.B1 = true := by kernel_rfl
theorem spec_l20Sealed.D (va vb ct : ByteArray) (n : Int) (hn : n ≤ 1000000) (w W0 : World) (g : Nat) (bs : List Int) (p : Int) (hI : IsS119 w W0 g bs p) (hB : Below w.heap.size w W0) (hc : Dw.Code bs) (h0 : 0 ≤ p) (h1 : p ≤ 1099499000000) :
  Calls Try.prog 71 #[.pointer (some ⟨g, 0, none⟩), .agg #[.string va, .string vb], .string ct, .int .i64 n] W0 fun e w' => ∃ a b v0 v1 t c xs ys p', e = .returned (.agg #[.string a, .string b, v0, v1, .bool t, .string c]) ∧ (xs.length ≤ 300 ∧ ys.length ≤ 300) ∧ (Kd.R k61 61 w' w.heap.size (fun _ => True) v0 xs ∧ Fr W0 v0) ∧ (Kd.R k100 100 w' w.heap.size (fun _ => True) v1 ys ∧ Fr W0 v1) ∧ Left w W0 g bs p 400 p' w' := by
 have hu := Try.underlying34
 have hu2 := Try.underlying30
 have B := Aside0.mk hB
 have HI := Aside0.mk hI
 have HC := Aside0.mk hc
 have KK := Aside0.mk (Kept.refl W0 (RB g))
 clear hB hI hc
 go_enter Try.func71, Try.ntmps71
 go_wp2_with (first
  | ((with_reducible refine gate_dst (N := 5) rfl ?_); refine bx ?hg (N := 5) ?hd (cs := #[.string va, .string vb]) (t := 30) ?hr B ?_; (case hd | hg => rfl); (case hr => go_simp; first | done | rfl); intro g5 w1 hb B F5 L5 E5; have M5 := mbx E5 KK; replace HI := hib HI hb; replace KK := kkb KK hb; obtain ⟨c5_0, c5_1⟩ := cs2 F5; clear hb E5)
  | ((with_reducible refine gate_dst (N := 8) rfl ?_); refine bx ?hg (N := 8) ?hd (cs := #[.string (⟨#[]⟩ : ByteArray), .string (⟨#[]⟩ : ByteArray), .slice none 0 0, .slice none 0 0, .bool false, .string (⟨#[]⟩ : ByteArray)]) (t := 34) ?hr B ?_; (case hd | hg => rfl); (case hr => go_simp; first | done | rfl); intro g8 w2 hb B F8 L8 E8; have M8 := mbx E8 KK; replace F5 := bn F5 hb; replace HI := hib HI hb; replace KK := kkb KK hb; clear c5_0 c5_1; obtain ⟨c5_0, c5_1⟩ := cs2 F5; clear hb E8))
 all_goals (
  refine rg (n := 11) (S := fun W => W.heap[g5]? = some (.cells #[.string va, .string vb] 30 (0, 0))) (ds := []) #[false, false, false, false, false, false, false, false, false, false, false] (by kernel_rfl) rfl rfl F5.out id B (fun w3 hb B hHeld => ?_)
  refine with_tabW spec_l20Sealed.tab1 spec_l20Sealed.bits1 (fun HT_ HW_ => ?_)
  replace F5 := bn F5 hb
  replace F8 := bn F8 hb
  replace HI := hib HI hb
  replace KK := kkb KK hb
  clear hb
  refine join_ 1 (bits 11 1023) (σ := Option Addr × Nat × List S61 × Option Addr × Nat × List S61 × Option Addr × Nat × List S100 × Nat × Int) (fun (ADs12, kDs12, zDs12, AIs14, kIs14, zIs14, ADs16, kDs16, zDs16, g9, ps16) => [(10, .agg #[.string va, .string vb]), (11, .pointer (some ⟨g, 0, none⟩)), (12, .slice ADs12 zDs12.length kDs12), (13, .agg #[.string va, .string vb]), (14, .slice AIs14 zIs14.length kIs14), (15, .pointer (some ⟨g, 0, none⟩)), (16, .slice ADs16 zDs16.length kDs16), (17, .string ct), (18, .agg #[.string va, .string vb, .slice AIs14 zIs14.length kIs14, .slice ADs16 zDs16.length kDs16, .bool true, .string ct]), (9, .pointer (some ⟨g9, 0, none⟩))]) (fun (ADs12, kDs12, zDs12, AIs14, kIs14, zIs14, ADs16, kDs16, zDs16, g9, ps16) W => Aside0 (Below w.heap.size w W) ∧ Aside0 (W.heap[g5]? = some (.cells #[.string va, .string vb] 30 (0, 0))) ∧ Aside0 (W.heap[g8]? = some (.cells #[.string (⟨#[]⟩ : ByteArray), .string (⟨#[]⟩ : ByteArray), .slice none 0 0, .slice none 0 0, .bool false, .string (⟨#[]⟩ : ByteArray)] 34 (0, 0))) ∧ Aside0 (W.heap[g9]? = some (.cells #[.string (⟨#[]⟩ : ByteArray), .string (⟨#[]⟩ : ByteArray), .slice none 0 0, .slice none 0 0, .bool false, .string (⟨#[]⟩ : ByteArray)] 34 (0, 0))) ∧ Aside0 (w.heap.size ≤ g9) ∧ Aside0 (g5 ≠ g9) ∧ Aside0 (g8 ≠ g9) ∧ Aside0 (Ow k61 61 W w.heap.size (.slice AIs14 zIs14.length kIs14) zIs14) ∧ Aside0 (Ow k100 100 W w.heap.size (.slice ADs16 zDs16.length kDs16) zDs16) ∧ Aside0 (∀ k_, (.slice ADs16 zDs16.length kDs16 : Value).ownBlock = some k_ → (.slice AIs14 zIs14.length kIs14 : Value).ownBlock = some k_ → False) ∧ Aside0 (IsS119 w W g bs ps16) ∧ Aside0 (Kept W0 W (RB g)) ∧ Aside0 (W0.heap.size ≤ g9) ∧ Aside0 (Fr W0 (.slice AIs14 zIs14.length kIs14)) ∧ Aside0 (Fr W0 (.slice ADs16 zDs16.length kDs16)) ∧ (p ≤ ps16 ∧ ps16 ≤ p + 160) ∧ zIs14.length ≤ 300 ∧ zDs16.length ≤ 300) ?_ (fun J => ?_)
  rotate_left
  ·refine tv 0 (some 10) (v := ?_) (bits 11 1) HT_ HW_ (by kernel_rfl) rfl rfl (fun _ _ _ h => h) (by kernel_rfl) hHeld ?_ ?_; rotate_left; (intro w' hS; have s0 := hS; obtain ⟨q0, q1⟩ := cs2 (Aside0.mk s0); go_simp; with_reducible rfl)
   refine pv 1 (some 11) (v := ?_) (bits 11 3) HT_ (by kernel_rfl) rfl rfl (fun _ _ _ h => h) (by kernel_rfl) ?_ ?_; rotate_left; (intro w'; go_simp; with_reducible rfl)
   refine tv 3 (some 13) (v := ?_) (bits 11 11) HT_ HW_ (by kernel_rfl) rfl rfl (fun _ _ _ h => h) (by kernel_rfl) hHeld ?_ ?_; rotate_left; (intro w' hS; have s0 := hS; obtain ⟨q0, q1⟩ := cs2 (Aside0.mk s0); go_simp; with_reducible rfl)
   refine pv 5 (some 15) (v := ?_) (bits 11 43) HT_ (by kernel_rfl) rfl rfl (fun _ _ _ h => h) (by kernel_rfl) ?_ ?_; rotate_left; (intro w'; go_simp; with_reducible rfl)
   refine pv 7 (some 17) (v := ?_) (bits 11 171) HT_ (by kernel_rfl) rfl rfl (fun _ _ _ h => h) (by kernel_rfl) ?_ ?_; rotate_left; (intro w'; go_simp; with_reducible rfl)
   refine norm_ (a' := ?_) ?_ ?_
   rotate_left
   ·simp only [Act.put, za, zb, zc, i64_w, i32_w]
    rfl
   refine two_ (i := 2) (j := 9) (Ni := some 12) (Nj := some 9) (bits 11 175) (bits 11 683) rfl rfl rfl rfl (two_of HT_.out (by kernel_rfl)) (by decide) (by decide) (fun K hK => ?_) (fun K hK => ?_)
   ·refine goes_ Try.func97 (by kernel_rfl) rfl #[.pointer (some ⟨g, 0, none⟩), .int .i64 (0)] (by rfl) rfl rfl (by (try simp only [List.map_toArray, List.map_cons, List.map_nil]); rfl) ?_
    (with_reducible refine cgr (spec_l20Pairs.D 0 (by omega) w _ g bs p HI.out B.out HC.out (by omega) (by omega)) fun zDs12 ADs12 kDs12 ps12 hxs12 hps12 w4 hk B HI2 RDs12 QDs12 => ?_)
    have MRDs12 := mrf QDs12 KK
    replace F5 := bkr F5 HI (by decide) hk
    replace F8 := bkr F8 HI (by decide) hk
    replace KK := kkr KK hk
    replace HI := HI2
    clear hk QDs12
    refine ⟨_, rfl, ?_⟩
    refine hK.out _ _ F5.out (fun hHeld => ?_)
    clear hK K
    refine norm_ (a' := ?_) ?_ ?_
    rotate_left
    ·show Act.put _ (some 12) _ = _
     simp only [Act.put, za, zb, zc, i64_w, i32_w]
     rfl
    refine two_ (i := 4) (j := 9) (Ni := some 14) (Nj := some 9) (bits 11 191) (bits 11 687) rfl rfl rfl rfl (two_of HT_.out (by kernel_rfl)) (by decide) (by decide) (fun K hK => ?_) (fun K hK => ?_)
    ·refine goes_ Try.func74 (by kernel_rfl) rfl #[.slice ADs12 zDs12.length kDs12, .agg #[.string va, .string vb]] (by rfl) rfl rfl (by (try simp only [List.map_toArray, List.map_cons, List.map_nil]); rfl) ?_
     with_reducible refine crz (spec_PairsIn.M _ _ zDs12 va vb _ (rc RDs12) (rl RDs12)) B fun zIs14 hzIs14 AIs14 kIs14 w5 hb B RIs14 QIs14 => ?_
     have MRIs14 := mrf QIs14 KK
     replace F5 := bn F5 hb
     replace F8 := bn F8 hb
     replace HI := hib HI hb
     replace KK := kkb KK hb
     clear hb
     refine ⟨_, rfl, ?_⟩
     refine hK.out _ _ F5.out (fun hHeld => ?_)
     clear hK K
     refine norm_ (a' := ?_) ?_ ?_
     rotate_left
     ·show Act.put _ (some 14) _ = _
      simp only [Act.put, za, zb, zc, i64_w, i32_w]
      rfl
     clear QIs14
     refine two_ (i := 6) (j := 9) (Ni := some 16) (Nj := some 9) (bits 11 255) (bits 11 703) rfl rfl rfl rfl (two_of HT_.out (by kernel_rfl)) (by decide) (by decide) (fun K hK => ?_) (fun K hK => ?_)
     ·refine goes_ Try.func98 (by kernel_rfl) rfl #[.pointer (some ⟨g, 0, none⟩), .int .i64 (0)] (by rfl) rfl rfl (by (try simp only [List.map_toArray, List.map_cons, List.map_nil]); rfl) ?_
      (with_reducible refine cgr (spec_l20Sessions.D 0 (by omega) w _ g bs ps12 HI.out B.out HC.out (by omega) (by omega)) fun zDs16 ADs16 kDs16 ps16 hxs16 hps16 w6 hk B HI2 RDs16 QDs16 => ?_)
      have DIs14_Ds16 := fr QDs16 RIs14
      have MRDs16 := mrf QDs16 KK
      replace F5 := bkr F5 HI (by decide) hk
      replace F8 := bkr F8 HI (by decide) hk
      replace RIs14 := rkr RIs14 HI (by decide) hk
      replace KK := kkr KK hk
      replace HI := HI2
      clear hk QDs16
      refine ⟨_, rfl, ?_⟩
      refine hK.out _ _ F5.out (fun hHeld => ?_)
      clear hK K
      refine norm_ (a' := ?_) ?_ ?_
      rotate_left
      ·show Act.put _ (some 16) _ = _
       simp only [Act.put, za, zb, zc, i64_w, i32_w]
       rfl
      refine pv 8 (some 18) (v := ?_) (bits 11 511) HT_ (by kernel_rfl) rfl rfl (fun _ _ _ h => h) (by kernel_rfl) ?_ ?_; rotate_left; (intro w'; go_simp; with_reducible rfl)
      refine norm_ (a' := ?_) ?_ ?_
      rotate_left
      ·simp only [Act.put, za, zb, zc, i64_w, i32_w]
       rfl
      refine one_ (i := 9) (N := some 9) (bits 11 1023) rfl rfl (one_of HT_.out (by kernel_rfl)) (by decide) (fun K hK => ?_)
      refine bxs (cs := #[.string (⟨#[]⟩ : ByteArray), .string (⟨#[]⟩ : ByteArray), .slice none 0 0, .slice none 0 0, .bool false, .string (⟨#[]⟩ : ByteArray)]) (t := 34) (by rfl) rfl ?hr B (fun g9 w7 hb B F9 L9 E9 => ?_)
      (case hr => go_simp; first | done | rfl)
      have N5_9 := ne1 E9 F5
      have N8_9 := ne1 E9 F8
      have M9 := mbx E9 KK
      replace F5 := bn F5 hb
      replace F8 := bn F8 hb
      replace RIs14 := rn RIs14 hb
      replace RDs16 := rn RDs16 hb
      replace HI := hib HI hb
      replace KK := kkb KK hb
      clear hb E9
      refine hK.out _ _ F5.out (fun hHeld => ?_)
      clear hK K
      refine norm_ (a' := ?_) ?_ ?_
      rotate_left
      ·show Act.put _ (some 9) _ = _
       simp only [Act.put, za, zb, zc, i64_w, i32_w]
       rfl
      refine norm_ (a' := _) ?_ (J ⟨ADs12, kDs12, zDs12, AIs14, kIs14, zIs14, ADs16, kDs16, zDs16, g9, ps16⟩ _ ⟨B, F5, F8, F9, L9, N5_9, N8_9, RIs14, RDs16, DIs14_Ds16, HI, KK, M9, MRIs14, MRDs16, (by omega), (by rw [← hzIs14]; exact Nat.le_trans (inM_len _ _ _) hxs12), hxs16⟩)
      simp only [putAll, Act.put, za, zb, zc]
      try rfl
     ·refine bxs (cs := #[.string (⟨#[]⟩ : ByteArray), .string (⟨#[]⟩ : ByteArray), .slice none 0 0, .slice none 0 0, .bool false, .string (⟨#[]⟩ : ByteArray)]) (t := 34) (by rfl) rfl ?hr B (fun g9 w6 hb B F9 L9 E9 => ?_)
      (case hr => go_simp; first | done | rfl)
      have N5_9 := ne1 E9 F5
      have N8_9 := ne1 E9 F8
      have M9 := mbx E9 KK
      replace F5 := bn F5 hb
      replace F8 := bn F8 hb
      replace RIs14 := rn RIs14 hb
      replace HI := hib HI hb
      replace KK := kkb KK hb
      clear hb E9
      refine hK.out _ _ F5.out (fun hHeld => ?_)
      clear hK K
      refine norm_ (a' := ?_) ?_ ?_
      rotate_left
      ·show Act.put _ (some 9) _ = _
       simp only [Act.put, za, zb, zc, i64_w, i32_w]
       rfl
      refine one_ (i := 6) (N := some 16) (bits 11 767) rfl rfl (one_of HT_.out (by kernel_rfl)) (by decide) (fun K hK => ?_)
      refine goes_ Try.func98 (by kernel_rfl) rfl #[.pointer (some ⟨g, 0, none⟩), .int .i64 (0)] (by rfl) rfl rfl (by (try simp only [List.map_toArray, List.map_cons, List.map_nil]); rfl) ?_
      (with_reducible refine cgr (spec_l20Sessions.D 0 (by omega) w _ g bs ps12 HI.out B.out HC.out (by omega) (by omega)) fun zDs16 ADs16 kDs16 ps16 hxs16 hps16 w7 hk B HI2 RDs16 QDs16 => ?_)
      have DIs14_Ds16 := fr QDs16 RIs14
      have MRDs16 := mrf QDs16 KK
      replace F5 := bkr F5 HI (by decide) hk
      replace F8 := bkr F8 HI (by decide) hk
      replace F9 := bkr F9 HI (by decide) hk
      replace RIs14 := rkr RIs14 HI (by decide) hk
      replace KK := kkr KK hk
      replace HI := HI2
      clear hk QDs16
      refine ⟨_, rfl, ?_⟩
      refine hK.out _ _ F5.out (fun hHeld => ?_)
      clear hK K
      refine norm_ (a' := ?_) ?_ ?_
      rotate_left
      ·show Act.put _ (some 16) _ = _
       simp only [Act.put, za, zb, zc, i64_w, i32_w]
       rfl
      refine pv 8 (some 18) (v := ?_) (bits 11 1023) HT_ (by kernel_rfl) rfl rfl (fun _ _ _ h => h) (by kernel_rfl) ?_ ?_; rotate_left; (intro w'; go_simp; with_reducible rfl)
      refine norm_ (a' := ?_) ?_ ?_
      rotate_left
      ·simp only [Act.put, za, zb, zc, i64_w, i32_w]
       rfl
      refine norm_ (a' := _) ?_ (J ⟨ADs12, kDs12, zDs12, AIs14, kIs14, zIs14, ADs16, kDs16, zDs16, g9, ps16⟩ _ ⟨B, F5, F8, F9, L9, N5_9, N8_9, RIs14, RDs16, DIs14_Ds16, HI, KK, M9, MRIs14, MRDs16, (by omega), (by rw [← hzIs14]; exact Nat.le_trans (inM_len _ _ _) hxs12), hxs16⟩)
      simp only [putAll, Act.put, za, zb, zc]
      try rfl
    ·refine bxs (cs := #[.string (⟨#[]⟩ : ByteArray), .string (⟨#[]⟩ : ByteArray), .slice none 0 0, .slice none 0 0, .bool false, .string (⟨#[]⟩ : ByteArray)]) (t := 34) (by rfl) rfl ?hr B (fun g9 w5 hb B F9 L9 E9 => ?_)
     (case hr => go_simp; first | done | rfl)
     have N5_9 := ne1 E9 F5
     have N8_9 := ne1 E9 F8
     have M9 := mbx E9 KK
     replace F5 := bn F5 hb
     replace F8 := bn F8 hb
     replace RDs12 := rn RDs12 hb
     replace HI := hib HI hb
     replace KK := kkb KK hb
     clear hb E9
     refine hK.out _ _ F5.out (fun hHeld => ?_)
     clear hK K
     refine norm_ (a' := ?_) ?_ ?_
     rotate_left
     ·show Act.put _ (some 9) _ = _
      simp only [Act.put, za, zb, zc, i64_w, i32_w]
      rfl
     refine one_ (i := 4) (N := some 14) (bits 11 703) rfl rfl (one_of HT_.out (by kernel_rfl)) (by decide) (fun K hK => ?_)
     refine goes_ Try.func74 (by kernel_rfl) rfl #[.slice ADs12 zDs12.length kDs12, .agg #[.string va, .string vb]] (by rfl) rfl rfl (by (try simp only [List.map_toArray, List.map_cons, List.map_nil]); rfl) ?_
     with_reducible refine crz (spec_PairsIn.M _ _ zDs12 va vb _ (rc RDs12) (rl RDs12)) B fun zIs14 hzIs14 AIs14 kIs14 w6 hb B RIs14 QIs14 => ?_
     have MRIs14 := mrf QIs14 KK
     replace F5 := bn F5 hb
     replace F8 := bn F8 hb
     replace F9 := bn F9 hb
     replace HI := hib HI hb
     replace KK := kkb KK hb
     clear hb
     refine ⟨_, rfl, ?_⟩
     refine hK.out _ _ F5.out (fun hHeld => ?_)
     clear hK K
     refine norm_ (a' := ?_) ?_ ?_
     rotate_left
     ·show Act.put _ (some 14) _ = _
      simp only [Act.put, za, zb, zc, i64_w, i32_w]
      rfl
     clear QIs14
     refine one_ (i := 6) (N := some 16) (bits 11 767) rfl rfl (one_of HT_.out (by kernel_rfl)) (by decide) (fun K hK => ?_)
     refine goes_ Try.func98 (by kernel_rfl) rfl #[.pointer (some ⟨g, 0, none⟩), .int .i64 (0)] (by rfl) rfl rfl (by (try simp only [List.map_toArray, List.map_cons, List.map_nil]); rfl) ?_
     (with_reducible refine cgr (spec_l20Sessions.D 0 (by omega) w _ g bs ps12 HI.out B.out HC.out (by omega) (by omega)) fun zDs16 ADs16 kDs16 ps16 hxs16 hps16 w7 hk B HI2 RDs16 QDs16 => ?_)
     have DIs14_Ds16 := fr QDs16 RIs14
     have MRDs16 := mrf QDs16 KK
     replace F5 := bkr F5 HI (by decide) hk
     replace F8 := bkr F8 HI (by decide) hk
     replace F9 := bkr F9 HI (by decide) hk
     replace RIs14 := rkr RIs14 HI (by decide) hk
     replace KK := kkr KK hk
     replace HI := HI2
     clear hk QDs16
     refine ⟨_, rfl, ?_⟩
     refine hK.out _ _ F5.out (fun hHeld => ?_)
     clear hK K
     refine norm_ (a' := ?_) ?_ ?_
     rotate_left
     ·show Act.put _ (some 16) _ = _
      simp only [Act.put, za, zb, zc, i64_w, i32_w]
      rfl
     refine pv 8 (some 18) (v := ?_) (bits 11 1023) HT_ (by kernel_rfl) rfl rfl (fun _ _ _ h => h) (by kernel_rfl) ?_ ?_; rotate_left; (intro w'; go_simp; with_reducible rfl)
     refine norm_ (a' := ?_) ?_ ?_
     rotate_left
     ·simp only [Act.put, za, zb, zc, i64_w, i32_w]
      rfl
     refine norm_ (a' := _) ?_ (J ⟨ADs12, kDs12, zDs12, AIs14, kIs14, zIs14, ADs16, kDs16, zDs16, g9, ps16⟩ _ ⟨B, F5, F8, F9, L9, N5_9, N8_9, RIs14, RDs16, DIs14_Ds16, HI, KK, M9, MRIs14, MRDs16, (by omega), (by rw [← hzIs14]; exact Nat.le_trans (inM_len _ _ _) hxs12), hxs16⟩)
     simp only [putAll, Act.put, za, zb, zc]
     try rfl
   ·refine bxs (cs := #[.string (⟨#[]⟩ : ByteArray), .string (⟨#[]⟩ : ByteArray), .slice none 0 0, .slice none 0 0, .bool false, .string (⟨#[]⟩ : ByteArray)]) (t := 34) (by rfl) rfl ?hr B (fun g9 w4 hb B F9 L9 E9 => ?_)
    (case hr => go_simp; first | done | rfl)
    have N5_9 := ne1 E9 F5
    have N8_9 := ne1 E9 F8
    have M9 := mbx E9 KK
    replace F5 := bn F5 hb
    replace F8 := bn F8 hb
    replace HI := hib HI hb
    replace KK := kkb KK hb
    clear hb E9
    refine hK.out _ _ F5.out (fun hHeld => ?_)
    clear hK K
    refine norm_ (a' := ?_) ?_ ?_
    rotate_left
    ·show Act.put _ (some 9) _ = _
     simp only [Act.put, za, zb, zc, i64_w, i32_w]
     rfl
    refine one_ (i := 2) (N := some 12) (bits 11 687) rfl rfl (one_of HT_.out (by kernel_rfl)) (by decide) (fun K hK => ?_)
    refine goes_ Try.func97 (by kernel_rfl) rfl #[.pointer (some ⟨g, 0, none⟩), .int .i64 (0)] (by rfl) rfl rfl (by (try simp only [List.map_toArray, List.map_cons, List.map_nil]); rfl) ?_
    (with_reducible refine cgr (spec_l20Pairs.D 0 (by omega) w _ g bs p HI.out B.out HC.out (by omega) (by omega)) fun zDs12 ADs12 kDs12 ps12 hxs12 hps12 w5 hk B HI2 RDs12 QDs12 => ?_)
    have MRDs12 := mrf QDs12 KK
    replace F5 := bkr F5 HI (by decide) hk
    replace F8 := bkr F8 HI (by decide) hk
    replace F9 := bkr F9 HI (by decide) hk
    replace KK := kkr KK hk
    replace HI := HI2
    clear hk QDs12
    refine ⟨_, rfl, ?_⟩
    refine hK.out _ _ F5.out (fun hHeld => ?_)
    clear hK K
    refine norm_ (a' := ?_) ?_ ?_
    rotate_left
    ·show Act.put _ (some 12) _ = _
     simp only [Act.put, za, zb, zc, i64_w, i32_w]
     rfl
    refine one_ (i := 4) (N := some 14) (bits 11 703) rfl rfl (one_of HT_.out (by kernel_rfl)) (by decide) (fun K hK => ?_)
    refine goes_ Try.func74 (by kernel_rfl) rfl #[.slice ADs12 zDs12.length kDs12, .agg #[.string va, .string vb]] (by rfl) rfl rfl (by (try simp only [List.map_toArray, List.map_cons, List.map_nil]); rfl) ?_
    with_reducible refine crz (spec_PairsIn.M _ _ zDs12 va vb _ (rc RDs12) (rl RDs12)) B fun zIs14 hzIs14 AIs14 kIs14 w6 hb B RIs14 QIs14 => ?_
    have MRIs14 := mrf QIs14 KK
    replace F5 := bn F5 hb
    replace F8 := bn F8 hb
    replace F9 := bn F9 hb
    replace HI := hib HI hb
    replace KK := kkb KK hb
    clear hb
    refine ⟨_, rfl, ?_⟩
    refine hK.out _ _ F5.out (fun hHeld => ?_)
    clear hK K
    refine norm_ (a' := ?_) ?_ ?_
    rotate_left
    ·show Act.put _ (some 14) _ = _
     simp only [Act.put, za, zb, zc, i64_w, i32_w]
     rfl
    clear QIs14
    refine one_ (i := 6) (N := some 16) (bits 11 767) rfl rfl (one_of HT_.out (by kernel_rfl)) (by decide) (fun K hK => ?_)
    refine goes_ Try.func98 (by kernel_rfl) rfl #[.pointer (some ⟨g, 0, none⟩), .int .i64 (0)] (by rfl) rfl rfl (by (try simp only [List.map_toArray, List.map_cons, List.map_nil]); rfl) ?_
    (with_reducible refine cgr (spec_l20Sessions.D 0 (by omega) w _ g bs ps12 HI.out B.out HC.out (by omega) (by omega)) fun zDs16 ADs16 kDs16 ps16 hxs16 hps16 w7 hk B HI2 RDs16 QDs16 => ?_)
    have DIs14_Ds16 := fr QDs16 RIs14
    have MRDs16 := mrf QDs16 KK
    replace F5 := bkr F5 HI (by decide) hk
    replace F8 := bkr F8 HI (by decide) hk
    replace F9 := bkr F9 HI (by decide) hk
    replace RIs14 := rkr RIs14 HI (by decide) hk
    replace KK := kkr KK hk
    replace HI := HI2
    clear hk QDs16
    refine ⟨_, rfl, ?_⟩
    refine hK.out _ _ F5.out (fun hHeld => ?_)
    clear hK K
    refine norm_ (a' := ?_) ?_ ?_
    rotate_left
    ·show Act.put _ (some 16) _ = _
     simp only [Act.put, za, zb, zc, i64_w, i32_w]
     rfl
    refine pv 8 (some 18) (v := ?_) (bits 11 1023) HT_ (by kernel_rfl) rfl rfl (fun _ _ _ h => h) (by kernel_rfl) ?_ ?_; rotate_left; (intro w'; go_simp; with_reducible rfl)
    refine norm_ (a' := ?_) ?_ ?_
    rotate_left
    ·simp only [Act.put, za, zb, zc, i64_w, i32_w]
     rfl
    refine norm_ (a' := _) ?_ (J ⟨ADs12, kDs12, zDs12, AIs14, kIs14, zIs14, ADs16, kDs16, zDs16, g9, ps16⟩ _ ⟨B, F5, F8, F9, L9, N5_9, N8_9, RIs14, RDs16, DIs14_Ds16, HI, KK, M9, MRIs14, MRDs16, (by omega), (by rw [← hzIs14]; exact Nat.le_trans (inM_len _ _ _) hxs12), hxs16⟩)
    simp only [putAll, Act.put, za, zb, zc]
    try rfl
  rintro ⟨ADs12, kDs12, zDs12, AIs14, kIs14, zIs14, ADs16, kDs16, zDs16, g9, ps16⟩ w8 ⟨B, F5, F8, F9, L9, N5_9, N8_9, RIs14, RDs16, DIs14_Ds16, HI, KK, M9, MRIs14, MRDs16, hpj1, hlIs14, hlDs16⟩
  refine norm_ (a' := ?_) ?_ ?_
  rotate_left
  ·simp only [putAll, Act.put, za, zb, zc]
   rfl
  refine one_ (i := 10) (N := none) (bits 11 2047) rfl rfl (one_of HT_.out (by kernel_rfl)) (by decide) (fun K hK => ?_)
  obtain ⟨y0, y1, y2, y3, y4, y5, z0, z1, z2, z3, z4, z5⟩ := cz6 F9
  refine sxs (g := g9) 0 [.string va, .string vb, .slice AIs14 zIs14.length kIs14, .slice ADs16 zDs16.length kDs16, .bool true, .string ct] [.string va, .string vb, .slice AIs14 zIs14.length kIs14, .slice ADs16 zDs16.length kDs16, .bool true, .string ct] (by rfl) rfl ?hr B F9 L9 rfl (Nat.le_of_ble_eq_true rfl) (fun w9 hk B G => ?_)
  (case hr => go_simp; first | done | rfl)
  replace F5 := bk F5 hk N5_9.out
  replace F8 := bk F8 hk N8_9.out
  replace RIs14 := rk RIs14 F9 (by decide) hk
  replace RDs16 := rk RDs16 F9 (by decide) hk
  replace HI := his HI F9 (by decide) hk
  replace KK := kks KK M9 hk
  replace F9 := G
  clear hk y0 z0 y1 z1 y2 z2 y3 z3 y4 z4 y5 z5
  refine hK.out _ _ F5.out (fun hHeld => ?_)
  clear hK K
  refine done_ (done_of HT_.out (by kernel_rfl)) ?_)
 all_goals go_wp2_with (first
  | (go_at_call 99; (with_reducible refine cg1 (spec_l20Rd_odd.D n (by omega) w _ g bs ps16 HI.out B.out HC.out (by omega) (by omega)) fun x10 p10 hx10 hp10 w10 hk B HI2 => ?_); replace F8 := bkr F8 HI (by decide) hk; replace F9 := bkr F9 HI (by decide) hk; replace RIs14 := rkr RIs14 HI (by decide) hk; replace RDs16 := rkr RDs16 HI (by decide) hk; replace KK := kkr KK hk; replace HI := HI2; clear hk; skip; obtain ⟨c9_0, c9_1, c9_2, c9_3, c9_4, c9_5⟩ := cs6 F9; (
  cases x10; (
  focus (
  go_wp2_with (first
   | ((with_reducible refine gate_store (t := 34) (p := 8) rfl ?_); obtain ⟨y0, y1, y2, y3, y4, y5, z0, z1, z2, z3, z4, z5⟩ := cz6 F8; refine sx (t := 34) (t' := 34) (p := 8) (v := ?vo101) ?hg ?ho ?hn 0 [.string va, .string vb, .slice AIs14 zIs14.length kIs14, .slice ADs16 zDs16.length kDs16, .bool true, .string ct] [.string va, .string vb, .slice AIs14 zIs14.length kIs14, .slice ADs16 zDs16.length kDs16, .bool true, .string ct] ?hr B F8 L8 rfl (Nat.le_of_ble_eq_true rfl) ?_; (case ho | hg | hn => rfl); (case hr => go_simp; first | done | rfl); intro w101 hk B G; replace F9 := bk F9 hk N8_9.out.symm; replace RIs14 := rk RIs14 F8 (by decide) hk; replace RDs16 := rk RDs16 F8 (by decide) hk; replace HI := his HI F8 (by decide) hk; replace KK := kks KK M8 hk; replace F8 := G; clear hk y0 z0 y1 z1 y2 z2 y3 z3 y4 z4 y5 z5)); refine bodyPost_ret (results_single rfl (.cell g8 34 _ (0, 0) _ rfl F8.out hu rfl (by kernel_rfl) .nil)) rfl ?_; exact ⟨_, _, _, _, _, _, _, _, _, rfl, ⟨hlIs14, hlDs16⟩, ⟨RIs14.out, MRIs14.out⟩, ⟨RDs16.out, MRDs16.out⟩, ⟨by omega, by omega⟩, HI.out, B.out, KK.out⟩)); (
  go_wp2_with (first
   | (go_at_call 79; (with_reducible refine cg1 (spec_l20Rd_pick.D 3 w _ g bs p10 HI.out B.out HC.out (by omega) (by omega)) fun x201 p201 hx201 hp201 w201 hk B HI2 => ?_); replace F8 := bkr F8 HI (by decide) hk; replace F9 := bkr F9 HI (by decide) hk; replace RIs14 := rkr RIs14 HI (by decide) hk; replace RDs16 := rkr RDs16 HI (by decide) hk; replace KK := kkr KK hk; replace HI := HI2; clear hk; skip; (
    by_cases ex201_0 : x201 = 0; (
    focus (
    have dx201_0 : (x201 == 0) = true := beq_iff_eq.mpr ex201_0; clear ex201_0; (
    go_wp2_with (first
     | ((with_reducible refine gate_store (t := 4) (p := 29) rfl ?_); obtain ⟨y0, y1, y2, y3, y4, y5, z0, z1, z2, z3, z4, z5⟩ := cz6 F9; refine sx (t := 34) (t' := 4) (p := 29) (v := ?vo301) ?hg ?ho ?hn 4 [.bool false] [.string va, .string vb, .slice AIs14 zIs14.length kIs14, .slice ADs16 zDs16.length kDs16, .bool false, .string ct] ?hr B F9 L9 rfl (Nat.le_of_ble_eq_true rfl) ?_; (case ho | hg | hn => rfl); (case hr => go_simp; first | done | rfl); intro w301 hk B G; replace F8 := bk F8 hk N8_9.out; replace RIs14 := rk RIs14 F9 (by decide) hk; replace RDs16 := rk RDs16 F9 (by decide) hk; replace HI := his HI F9 (by decide) hk; replace KK := kks KK M9 hk; replace F9 := G; clear c9_0 c9_1 c9_2 c9_3 c9_4 c9_5; obtain ⟨c9_0, c9_1, c9_2, c9_3, c9_4, c9_5⟩ := cs6 F9; clear hk y0 z0 y1 z1 y2 z2 y3 z3 y4 z4 y5 z5)
     | ((with_reducible refine gate_store (t := 9) (p := 30) rfl ?_); obtain ⟨y0, y1, y2, y3, y4, y5, z0, z1, z2, z3, z4, z5⟩ := cz6 F9; refine sx (t := 34) (t' := 9) (p := 30) (v := ?vo302) ?hg ?ho ?hn 5 [.string (⟨#[]⟩ : ByteArray)] [.string va, .string vb, .slice AIs14 zIs14.length kIs14, .slice ADs16 zDs16.length kDs16, .bool false, .string (⟨#[]⟩ : ByteArray)] ?hr B F9 L9 rfl (Nat.le_of_ble_eq_true rfl) ?_; (case ho | hg | hn => rfl); (case hr => go_simp; first | done | rfl); intro w302 hk B G; replace F8 := bk F8 hk N8_9.out; replace RIs14 := rk RIs14 F9 (by decide) hk; replace RDs16 := rk RDs16 F9 (by decide) hk; replace HI := his HI F9 (by decide) hk; replace KK := kks KK M9 hk; replace F9 := G; clear c9_0 c9_1 c9_2 c9_3 c9_4 c9_5; obtain ⟨c9_0, c9_1, c9_2, c9_3, c9_4, c9_5⟩ := cs6 F9; clear hk y0 z0 y1 z1 y2 z2 y3 z3 y4 z4 y5 z5)
     | ((with_reducible refine gate_store (t := 34) (p := 8) rfl ?_); obtain ⟨y0, y1, y2, y3, y4, y5, z0, z1, z2, z3, z4, z5⟩ := cz6 F8; refine sx (t := 34) (t' := 34) (p := 8) (v := ?vo303) ?hg ?ho ?hn 0 [.string va, .string vb, .slice AIs14 zIs14.length kIs14, .slice ADs16 zDs16.length kDs16, .bool false, .string (⟨#[]⟩ : ByteArray)] [.string va, .string vb, .slice AIs14 zIs14.length kIs14, .slice ADs16 zDs16.length kDs16, .bool false, .string (⟨#[]⟩ : ByteArray)] ?hr B F8 L8 rfl (Nat.le_of_ble_eq_true rfl) ?_; (case ho | hg | hn => rfl); (case hr => go_simp; first | done | rfl); intro w303 hk B G; replace F9 := bk F9 hk N8_9.out.symm; replace RIs14 := rk RIs14 F8 (by decide) hk; replace RDs16 := rk RDs16 F8 (by decide) hk; replace HI := his HI F8 (by decide) hk; replace KK := kks KK M8 hk; replace F8 := G; clear hk y0 z0 y1 z1 y2 z2 y3 z3 y4 z4 y5 z5)); refine bodyPost_ret (results_single rfl (.cell g8 34 _ (0, 0) _ rfl F8.out hu rfl (by kernel_rfl) .nil)) rfl ?_; exact ⟨_, _, _, _, _, _, _, _, _, rfl, ⟨hlIs14, hlDs16⟩, ⟨RIs14.out, MRIs14.out⟩, ⟨RDs16.out, MRDs16.out⟩, ⟨by omega, by omega⟩, HI.out, B.out, KK.out⟩))); (
    have dx201_0 : (x201 == 0) = false := beq_eq_false_iff_ne.mpr ex201_0; (
    by_cases ex201_1 : x201 = 1; (
    focus (
    have dx201_1 : (x201 == 1) = true := beq_iff_eq.mpr ex201_1; clear ex201_1; (
    go_wp2_with (first
     | ((with_reducible refine gate_store (t := 9) (p := 33) rfl ?_); obtain ⟨y0, y1, y2, y3, y4, y5, z0, z1, z2, z3, z4, z5⟩ := cz6 F9; refine sx (t := 34) (t' := 9) (p := 33) (v := ?vo501) ?hg ?ho ?hn 5 [.string (⟨#[122, 122, 122, 122]⟩ : ByteArray)] [.string va, .string vb, .slice AIs14 zIs14.length kIs14, .slice ADs16 zDs16.length kDs16, .bool true, .string (⟨#[122, 122, 122, 122]⟩ : ByteArray)] ?hr B F9 L9 rfl (Nat.le_of_ble_eq_true rfl) ?_; (case ho | hg | hn => rfl); (case hr => go_simp; first | done | rfl); intro w501 hk B G; replace F8 := bk F8 hk N8_9.out; replace RIs14 := rk RIs14 F9 (by decide) hk; replace RDs16 := rk RDs16 F9 (by decide) hk; replace HI := his HI F9 (by decide) hk; replace KK := kks KK M9 hk; replace F9 := G; clear c9_0 c9_1 c9_2 c9_3 c9_4 c9_5; obtain ⟨c9_0, c9_1, c9_2, c9_3, c9_4, c9_5⟩ := cs6 F9; clear hk y0 z0 y1 z1 y2 z2 y3 z3 y4 z4 y5 z5)
     | ((with_reducible refine gate_store (t := 34) (p := 8) rfl ?_); obtain ⟨y0, y1, y2, y3, y4, y5, z0, z1, z2, z3, z4, z5⟩ := cz6 F8; refine sx (t := 34) (t' := 34) (p := 8) (v := ?vo502) ?hg ?ho ?hn 0 [.string va, .string vb, .slice AIs14 zIs14.length kIs14, .slice ADs16 zDs16.length kDs16, .bool true, .string (⟨#[122, 122, 122, 122]⟩ : ByteArray)] [.string va, .string vb, .slice AIs14 zIs14.length kIs14, .slice ADs16 zDs16.length kDs16, .bool true, .string (⟨#[122, 122, 122, 122]⟩ : ByteArray)] ?hr B F8 L8 rfl (Nat.le_of_ble_eq_true rfl) ?_; (case ho | hg | hn => rfl); (case hr => go_simp; first | done | rfl); intro w502 hk B G; replace F9 := bk F9 hk N8_9.out.symm; replace RIs14 := rk RIs14 F8 (by decide) hk; replace RDs16 := rk RDs16 F8 (by decide) hk; replace HI := his HI F8 (by decide) hk; replace KK := kks KK M8 hk; replace F8 := G; clear hk y0 z0 y1 z1 y2 z2 y3 z3 y4 z4 y5 z5)); refine bodyPost_ret (results_single rfl (.cell g8 34 _ (0, 0) _ rfl F8.out hu rfl (by kernel_rfl) .nil)) rfl ?_; exact ⟨_, _, _, _, _, _, _, _, _, rfl, ⟨hlIs14, hlDs16⟩, ⟨RIs14.out, MRIs14.out⟩, ⟨RDs16.out, MRDs16.out⟩, ⟨by omega, by omega⟩, HI.out, B.out, KK.out⟩))); (
    have dx201_1 : (x201 == 1) = false := beq_eq_false_iff_ne.mpr ex201_1; (
    go_wp2_with (first
     | (go_at_call 98; (with_reducible refine cgr (spec_l20Sessions.D 1 (by omega) w _ g bs p201 HI.out B.out HC.out (by omega) (by omega)) fun zD601 AD601 kD601 p601 hx601 hp601 w601 hk B HI2 RD601 QD601 => ?_); have DIs14_D601 := fr QD601 RIs14; have DDs16_D601 := fr QD601 RDs16; have MRD601 := mrf QD601 KK; replace F8 := bkr F8 HI (by decide) hk; replace F9 := bkr F9 HI (by decide) hk; replace RIs14 := rkr RIs14 HI (by decide) hk; replace RDs16 := rkr RDs16 HI (by decide) hk; replace KK := kkr KK hk; replace HI := HI2; clear hk QD601; clear c9_0 c9_1 c9_2 c9_3 c9_4 c9_5; obtain ⟨c9_0, c9_1, c9_2, c9_3, c9_4, c9_5⟩ := cs6 F9; skip)
     | ((with_reducible refine gate_store (t := 32) (p := 26) rfl ?_); obtain ⟨y0, y1, y2, y3, y4, y5, z0, z1, z2, z3, z4, z5⟩ := cz6 F9; refine sx (t := 34) (t' := 32) (p := 26) (v := ?vo602) ?hg ?ho ?hn 3 [.slice AD601 zD601.length kD601] [.string va, .string vb, .slice AIs14 zIs14.length kIs14, .slice AD601 zD601.length kD601, .bool true, .string ct] ?hr B F9 L9 rfl (Nat.le_of_ble_eq_true rfl) ?_; (case ho | hg | hn => rfl); (case hr => go_simp; first | done | rfl); intro w602 hk B G; replace F8 := bk F8 hk N8_9.out; replace RIs14 := rk RIs14 F9 (by decide) hk; replace RDs16 := rk RDs16 F9 (by decide) hk; replace RD601 := rk RD601 F9 (by decide) hk; replace HI := his HI F9 (by decide) hk; replace KK := kks KK M9 hk; replace F9 := G; clear c9_0 c9_1 c9_2 c9_3 c9_4 c9_5; obtain ⟨c9_0, c9_1, c9_2, c9_3, c9_4, c9_5⟩ := cs6 F9; clear hk y0 z0 y1 z1 y2 z2 y3 z3 y4 z4 y5 z5)
     | ((with_reducible refine gate_store (t := 34) (p := 8) rfl ?_); obtain ⟨y0, y1, y2, y3, y4, y5, z0, z1, z2, z3, z4, z5⟩ := cz6 F8; refine sx (t := 34) (t' := 34) (p := 8) (v := ?vo603) ?hg ?ho ?hn 0 [.string va, .string vb, .slice AIs14 zIs14.length kIs14, .slice AD601 zD601.length kD601, .bool true, .string ct] [.string va, .string vb, .slice AIs14 zIs14.length kIs14, .slice AD601 zD601.length kD601, .bool true, .string ct] ?hr B F8 L8 rfl (Nat.le_of_ble_eq_true rfl) ?_; (case ho | hg | hn => rfl); (case hr => go_simp; first | done | rfl); intro w603 hk B G; replace F9 := bk F9 hk N8_9.out.symm; replace RIs14 := rk RIs14 F8 (by decide) hk; replace RDs16 := rk RDs16 F8 (by decide) hk; replace RD601 := rk RD601 F8 (by decide) hk; replace HI := his HI F8 (by decide) hk; replace KK := kks KK M8 hk; replace F8 := G; clear hk y0 z0 y1 z1 y2 z2 y3 z3 y4 z4 y5 z5)); refine bodyPost_ret (results_single rfl (.cell g8 34 _ (0, 0) _ rfl F8.out hu rfl (by kernel_rfl) .nil)) rfl ?_; exact ⟨_, _, _, _, _, _, _, _, _, rfl, ⟨hlIs14, hx601⟩, ⟨RIs14.out, MRIs14.out⟩, ⟨RD601.out, MRD601.out⟩, ⟨by omega, by omega⟩, HI.out, B.out, KK.out⟩)))))))))))

theorem spec_DrawStateCut.D (A0 : Option Addr) (c0 : Nat) (l : List Int) (w : World) (hr0 : Kd.C (Kd.int .u8) w A0 l.length l) (hc0 : l.length ≤ c0) (hs : ∀ x ∈ l, (Lit.int .u8 x).wf = true) : Calls Try.prog 34 #[.slice A0 l.length c0] w fun e w' => ∃ a b v0 v1 t c xs ys, e = .returned (.agg #[.string a, .string b, v0, v1, .bool t, .string c]) ∧ (xs.length ≤ 300 ∧ ys.length ≤ 300) ∧ Kd.R k61 61 w' w.heap.size (fun _ => True) v0 xs ∧ Kd.R k100 100 w' w.heap.size (fun _ => True) v1 ys ∧ Below w.heap.size w w' := by
 obtain ⟨bs, hc, ho⟩ := Dw.spec_open l hs
 have B := Aside0.mk (Below.refl w.heap.size w)
 have HR0 := Aside0.mk hr0
 have HC0 := Aside0.mk hc0
 have HC := Aside0.mk hc
 have HO := Aside0.mk ho
 clear hr0 hc0 hs hc ho
 have hu := Try.underlying34
 have hu2 := Try.underlying30
 go_enter Try.func34, Try.ntmps34
 go_wp2_with (first
  | ((with_reducible refine gate_dst (N := 2) rfl ?_); refine bx ?hg (N := 2) ?hd (cs := #[.string (⟨#[]⟩ : ByteArray), .string (⟨#[]⟩ : ByteArray), .slice none 0 0, .slice none 0 0, .bool false, .string (⟨#[]⟩ : ByteArray)]) (t := 34) ?hr B ?_; (case hd | hg => rfl); (case hr => go_simp; first | done | rfl); intro g2 w1 hb B F2 L2 E2; clear hb E2)
  | (go_at_call 63; (with_reducible refine copen (spec_l20Open.calls _ _ l bs 0 w _ B.out HR0.out HC0.out HO.out) fun g w2 hb B HI => ?_); replace F2 := bn F2 hb; clear hb)
  | (go_at_call 77; (with_reducible refine cg2 (spec_l20Span.D 0 (by omega) w _ g bs 0 HI.out B.out HC.out (by omega) (by omega)) fun x3 y3 p3 hx3 hp3 w3 hk B HI2 => ?_); replace F2 := bkr F2 HI (by decide) hk; replace HI := HI2; clear hk; skip)
  | ((with_reducible refine gate_dst (N := 4) rfl ?_); refine bx ?hg (N := 4) ?hd (cs := #[.string (⟨#[]⟩ : ByteArray), .string (⟨#[]⟩ : ByteArray)]) (t := 30) ?hr B ?_; (case hd | hg => rfl); (case hr => go_simp; first | done | rfl); intro g4 w4 hb B F4 L4 E4; have N2_4 := ne1 E4 F2; replace F2 := bn F2 hb; replace HI := hib HI hb; obtain ⟨c4_0, c4_1⟩ := cs2 F4; clear hb E4)
  | ((with_reducible refine gate_store (t := 30) (p := 4) rfl ?_); obtain ⟨y0, y1, z0, z1⟩ := cz2 F4; refine sx (t := 30) (t' := 30) (p := 4) (v := ?vo5) ?hg ?ho ?hn 0 [.string x3, .string y3] [.string x3, .string y3] ?hr B F4 L4 rfl (Nat.le_of_ble_eq_true rfl) ?_; (case ho | hg | hn => rfl); (case hr => go_simp; first | done | rfl); intro w5 hk B G; replace F2 := bk F2 hk N2_4.out; replace HI := his HI F4 (by decide) hk; replace F4 := G; clear c4_0 c4_1; obtain ⟨c4_0, c4_1⟩ := cs2 F4; clear hk y0 z0 y1 z1)
  | (go_at_call 78; (with_reducible refine cg1 (spec_l20Key.D 0 (by omega) w _ g bs p3 HI.out B.out HC.out (by omega) (by omega)) fun x6 p6 hx6 hp6 w6 hk B HI2 => ?_); replace F2 := bkr F2 HI (by decide) hk; replace F4 := bkr F4 HI (by decide) hk; replace HI := HI2; clear hk; clear c4_0 c4_1; obtain ⟨c4_0, c4_1⟩ := cs2 F4; skip)
  | (go_at_call 51; with_reducible refine cl (spec_IntervalCut.M x3 y3 x6 _) B fun w7 hb B => ?_; replace F2 := bn F2 hb; replace F4 := bn F4 hb; replace HI := hib HI hb; clear c4_0 c4_1; obtain ⟨c4_0, c4_1⟩ := cs2 F4; clear hb)
  | ((with_reducible refine gate_dst (N := 6) rfl ?_); refine bx ?hg (N := 6) ?hd (cs := #[.string (⟨#[]⟩ : ByteArray), .string (⟨#[]⟩ : ByteArray)]) (t := 30) ?hr B ?_; (case hd | hg => rfl); (case hr => go_simp; first | done | rfl); intro g6 w8 hb B F6 L6 E6; have N2_6 := ne1 E6 F2; have N4_6 := ne1 E6 F4; replace F2 := bn F2 hb; replace F4 := bn F4 hb; replace HI := hib HI hb; clear c4_0 c4_1; obtain ⟨c4_0, c4_1⟩ := cs2 F4; clear hb E6)
  | ((with_reducible refine gate_dst (N := 7) rfl ?_); refine bx ?hg (N := 7) ?hd (cs := #[.string (⟨#[]⟩ : ByteArray), .string (⟨#[]⟩ : ByteArray)]) (t := 30) ?hr B ?_; (case hd | hg => rfl); (case hr => go_simp; first | done | rfl); intro g7 w9 hb B F7 L7 E7; have N2_7 := ne1 E7 F2; have N4_7 := ne1 E7 F4; have N6_7 := ne1 E7 F6; replace F2 := bn F2 hb; replace F4 := bn F4 hb; replace F6 := bn F6 hb; replace HI := hib HI hb; clear c4_0 c4_1; obtain ⟨c4_0, c4_1⟩ := cs2 F4; clear hb E7)
  | ((with_reducible refine gate_store (t := 30) (p := 6) rfl ?_); obtain ⟨y0, y1, z0, z1⟩ := cz2 F6; refine sx (t := 30) (t' := 30) (p := 6) (v := ?vo10) ?hg ?ho ?hn 0 [.string (cutV x3 y3 x6).1, .string (cutV x3 y3 x6).2.1] [.string (cutV x3 y3 x6).1, .string (cutV x3 y3 x6).2.1] ?hr B F6 L6 rfl (Nat.le_of_ble_eq_true rfl) ?_; (case ho | hg | hn => rfl); (case hr => go_simp; first | done | rfl); intro w10 hk B G; replace F2 := bk F2 hk N2_6.out; replace F4 := bk F4 hk N4_6.out; replace F7 := bk F7 hk N6_7.out.symm; replace HI := his HI F6 (by decide) hk; replace F6 := G; clear c4_0 c4_1; obtain ⟨c4_0, c4_1⟩ := cs2 F4; clear hk y0 z0 y1 z1)
  | ((with_reducible refine gate_store (t := 30) (p := 7) rfl ?_); obtain ⟨y0, y1, z0, z1⟩ := cz2 F7; refine sx (t := 30) (t' := 30) (p := 7) (v := ?vo11) ?hg ?ho ?hn 0 [.string (cutV x3 y3 x6).2.2.1, .string (cutV x3 y3 x6).2.2.2.1] [.string (cutV x3 y3 x6).2.2.1, .string (cutV x3 y3 x6).2.2.2.1] ?hr B F7 L7 rfl (Nat.le_of_ble_eq_true rfl) ?_; (case ho | hg | hn => rfl); (case hr => go_simp; first | done | rfl); intro w11 hk B G; replace F2 := bk F2 hk N2_7.out; replace F4 := bk F4 hk N4_7.out; replace HI := his HI F7 (by decide) hk; replace F7 := G; clear c4_0 c4_1; obtain ⟨c4_0, c4_1⟩ := cs2 F4; clear hk y0 z0 y1 z1)
  | ((with_reducible refine gate_dst (N := 26) rfl ?_); refine lt Kd.string 9 ?hg (N := 26) ?hd ([((⟨#[99]⟩ : ByteArray)), ((⟨#[98]⟩ : ByteArray)), ((⟨#[]⟩ : ByteArray))] : List ByteArray) [.string (⟨#[99]⟩ : ByteArray), .string (⟨#[98]⟩ : ByteArray), .string (⟨#[]⟩ : ByteArray)] ?hr (Reps.one (show Kd.M Kd.string _ _ _ ((⟨#[99]⟩ : ByteArray)) [.string (⟨#[99]⟩ : ByteArray)] from rfl) (Reps.one (show Kd.M Kd.string _ _ _ ((⟨#[98]⟩ : ByteArray)) [.string (⟨#[98]⟩ : ByteArray)] from rfl) (Reps.one (show Kd.M Kd.string _ _ _ ((⟨#[]⟩ : ByteArray)) [.string (⟨#[]⟩ : ByteArray)] from rfl) (Reps.none _ _)))) (by simp) B ?_; (case hd | hg => rfl); (case hr => go_simp; first | done | rfl); intro z26 hz26 AL26 kL26 w101 hb B RL26 QL26; replace F2 := bn F2 hb; replace HI := hib HI hb; clear hb QL26)
  | (go_at_call 79; (with_reducible refine cg1 (spec_l20Rd_pick.D 3 w _ g bs p6 HI.out B.out HC.out (by omega) (by omega)) fun x102 p102 hx102 hp102 w102 hk B HI2 => ?_); replace F2 := bkr F2 HI (by decide) hk; replace RL26 := rkr RL26 HI (by decide) hk; replace HI := HI2; clear hk; skip; have hi102 : x102 < (z26.length : Int) := (by rw [← hz26]; have := hx102.2.1 (by omega); simpa using this); obtain ⟨ad102, hA102, y102⟩ := Kd.at_string (rc RL26) x102 hx102.1 hi102; have hj102 := hx102.1; generalize rdOf ByteArray.empty z26 x102 = s102 at *; cases hA102; have j102 := eq_true hj102; have i102 := eq_true hi102)
  | (go_at_call 71; (with_reducible refine cgs (spec_l20Sealed.D (⟨#[]⟩ : ByteArray) (⟨#[]⟩ : ByteArray) s102 6 (by omega) w _ g bs p102 HI.out B.out HC.out (by omega) (by omega)) fun a103 b103 t103 c103 zP103 zS103 AP103 kP103 AS103 kS103 p103 hx103 hp103 w103 hk B HI2 RP103 QP103 RS103 QS103 => ?_); have DP103_S103 := Aside0.mk (dty RP103 RS103 (by decide)); replace F2 := bkr F2 HI (by decide) hk; replace HI := HI2; clear hk QP103 QS103; skip)
  | ((with_reducible refine gate_store (t := 34) (p := 2) rfl ?_); obtain ⟨y0, y1, y2, y3, y4, y5, z0, z1, z2, z3, z4, z5⟩ := cz6 F2; refine sx (t := 34) (t' := 34) (p := 2) (v := ?vo104) ?hg ?ho ?hn 0 [.string a103, .string b103, .slice AP103 zP103.length kP103, .slice AS103 zS103.length kS103, .bool t103, .string c103] [.string a103, .string b103, .slice AP103 zP103.length kP103, .slice AS103 zS103.length kS103, .bool t103, .string c103] ?hr B F2 L2 rfl (Nat.le_of_ble_eq_true rfl) ?_; (case ho | hg | hn => rfl); (case hr => go_simp; first | done | rfl); intro w104 hk B G; replace RP103 := rk RP103 F2 (by decide) hk; replace RS103 := rk RS103 F2 (by decide) hk; replace HI := his HI F2 (by decide) hk; replace F2 := G; clear hk y0 z0 y1 z1 y2 z2 y3 z3 y4 z4 y5 z5)
  | (go_at_call 71; (with_reducible refine cgs (spec_l20Sealed.D x3 y3 x6 9 (by omega) w _ g bs p6 HI.out B.out HC.out (by omega) (by omega)) fun a201 b201 t201 c201 zP201 zS201 AP201 kP201 AS201 kS201 p201 hx201 hp201 w201 hk B HI2 RP201 QP201 RS201 QS201 => ?_); have DP201_S201 := Aside0.mk (dty RP201 RS201 (by decide)); replace F2 := bkr F2 HI (by decide) hk; replace HI := HI2; clear hk QP201 QS201; skip)
  | ((with_reducible refine gate_store (t := 34) (p := 2) rfl ?_); obtain ⟨y0, y1, y2, y3, y4, y5, z0, z1, z2, z3, z4, z5⟩ := cz6 F2; refine sx (t := 34) (t' := 34) (p := 2) (v := ?vo202) ?hg ?ho ?hn 0 [.string a201, .string b201, .slice AP201 zP201.length kP201, .slice AS201 zS201.length kS201, .bool t201, .string c201] [.string a201, .string b201, .slice AP201 zP201.length kP201, .slice AS201 zS201.length kS201, .bool t201, .string c201] ?hr B F2 L2 rfl (Nat.le_of_ble_eq_true rfl) ?_; (case ho | hg | hn => rfl); (case hr => go_simp; first | done | rfl); intro w202 hk B G; replace RP201 := rk RP201 F2 (by decide) hk; replace RS201 := rk RS201 F2 (by decide) hk; replace HI := his HI F2 (by decide) hk; replace F2 := G; clear hk y0 z0 y1 z1 y2 z2 y3 z3 y4 z4 y5 z5))
 all_goals (try (refine bodyPost_ret (results_single rfl (.cell g2 34 _ (0, 0) _ rfl F2.out hu rfl (by kernel_rfl) .nil)) rfl ?_))
 all_goals first
  | exact ⟨_, _, _, _, _, _, _, _, rfl, ⟨hx103.1, hx103.2⟩, RP103.out, RS103.out, B.out⟩
  | exact ⟨_, _, _, _, _, _, _, _, rfl, ⟨hx201.1, hx201.2⟩, RP201.out, RS201.out, B.out⟩

theorem impl_PairGet.M (A0 : Option Addr) (c0 : Nat) (l : List S61) (c : ByteArray) (w : World) (hr0 : Kd.C k61 w A0 l.length l) (hc0 : l.length ≤ c0) : Calls Try.prog 38 #[.slice A0 l.length c0, .string c] w fun e w' => e = .returned (.int .i64 (getM l c)) ∧ Below w.heap.size w w' := by
 have B := Aside0.mk (Below.refl w.heap.size w)
 have hu := Try.underlying61
 have HR0 := Aside0.mk hr0
 have HC0 := Aside0.mk hc0
 have L63 := Aside0.mk hr0.2.1
 clear hr0 hc0
 by_cases hv : prB l = true
 ·have h48 := prB_len hv
  cases hh : hitM l c with
  | true =>
   obtain ⟨hlt, hf0, hf⟩ := hit_true hh
   have j1 := eq_true (show ((atP l c : Nat) : Int) < (l.length : Int) by omega)
   have j2 := eq_true hlt
   go_enter Try.func38, Try.ntmps38
   go_wp2_with (first
    | (go_at_call 56; with_reducible refine cl (impl_PairsValid.M _ _ l _ (cb HR0 B)) B fun w1 hb B => ?_; clear hb)
    | (go_at_call 72; with_reducible refine cl (impl_pairPlace.M _ _ l c _ (cb HR0 B) HC0.out hv) B fun w2 hb B => ?_; clear hb; (obtain ⟨ad, hA, y0, y1⟩ := at_T61 (cb HR0 B) ((atP l c : Nat) : Int) (Int.natCast_nonneg _) (Int.ofNat_lt.mpr hlt); cases hA; rw [Int.toNat_natCast] at y0 y1)))
   all_goals (go_ret; exact ⟨by simp [getM, *], B.out⟩)
  | false =>
   go_enter Try.func38, Try.ntmps38
   go_wp2_with (first
    | (go_at_call 56; with_reducible refine cl (impl_PairsValid.M _ _ l _ (cb HR0 B)) B fun w1 hb B => ?_; clear hb)
    | (go_at_call 72; with_reducible refine cl (impl_pairPlace.M _ _ l c _ (cb HR0 B) HC0.out hv) B fun w2 hb B => ?_; clear hb))
   all_goals (go_ret; exact ⟨by simp [getM, *], B.out⟩)
 ·replace hv := Bool.eq_false_iff.mpr hv
  go_enter Try.func38, Try.ntmps38
  go_wp2_with (first
   | (go_at_call 56; with_reducible refine cl (impl_PairsValid.M _ _ l _ (cb HR0 B)) B fun w1 hb B => ?_; clear hb)
   | (go_at_call 72; with_reducible refine cl (impl_pairPlace.M _ _ l c _ (cb HR0 B) HC0.out hv) B fun w2 hb B => ?_; clear hb))
  all_goals (go_ret; exact ⟨by simp [getM, *], B.out⟩)

theorem impl_IntervalHas.M (a b c : ByteArray) (w : World) : Calls Try.prog 39 #[.agg #[.string a, .string b], .string c] w fun e w' => e = .returned (.bool (hasB a b c)) ∧ Below w.heap.size w w' := by
 have B := Aside0.mk (Below.refl w.heap.size w)
 have hu := Try.underlying30
 go_enter Try.func39, Try.ntmps39
 go_wp2_with (first
  | ((with_reducible refine gate_dst (N := 2) rfl ?_); refine bx ?hg (N := 2) ?hd (cs := #[.string a, .string b]) (t := 30) ?hr B ?_; (case hd | hg => rfl); (case hr => go_simp; first | done | rfl); intro g2 w1 hb B F2 L2 E2; obtain ⟨c2_0, c2_1⟩ := cs2 F2; clear hb E2)
  | (go_at_call 55; with_reducible refine cl (impl_IntervalValid.M a b _) B fun w2 hb B => ?_; replace F2 := bn F2 hb; clear c2_0 c2_1; obtain ⟨c2_0, c2_1⟩ := cs2 F2; clear hb)
  | (go_at_call 80; with_reducible refine cl (impl_KeyValid.M c _) B fun w3 hb B => ?_; replace F2 := bn F2 hb; clear c2_0 c2_1; obtain ⟨c2_0, c2_1⟩ := cs2 F2; clear hb)
  | (go_at_call 58; with_reducible refine cl (impl_inside.M a b c _) B fun w4 hb B => ?_; clear hb))
 all_goals go_ret
 all_goals (refine ⟨?_, B.out⟩; unfold hasB; simp_all)

def ijM (a b c d : ByteArray) : ByteArray × ByteArray × Bool := if ijB a b c d then (a, d, true) else (⟨#[]⟩, ⟨#[]⟩, false)
theorem spec_IntervalJoin.M (a b c d : ByteArray) (w : World) : Calls Try.prog 84 #[.agg #[.string a, .string b], .agg #[.string c, .string d]] w fun e w' => e = .returned (.tuple #[.agg #[.string (ijM a b c d).1, .string (ijM a b c d).2.1], .bool (ijM a b c d).2.2]) ∧ Below w.heap.size w w' := by
 have B := Aside0.mk (Below.refl w.heap.size w)
 have hu := Try.underlying30
 obtain ⟨r, hr⟩ : ∃ r, ijM a b c d = r := ⟨_, rfl⟩
 rw [hr]
 have hbc : (b.toList = c.toList) = (b = c) := propext ⟨ba_inj, fun h => by rw [h]⟩
 go_enter Try.func84, Try.ntmps84
 go_wp2_with (first
  | ((with_reducible refine gate_dst (N := 2) rfl ?_); refine bx ?hg (N := 2) ?hd (cs := #[.string a, .string b]) (t := 30) ?hr B ?_; (case hd | hg => rfl); (case hr => go_simp; first | done | rfl); intro g2 w1 hb B F2 L2 E2; obtain ⟨c2_0, c2_1⟩ := cs2 F2; clear hb E2)
  | ((with_reducible refine gate_dst (N := 3) rfl ?_); refine bx ?hg (N := 3) ?hd (cs := #[.string c, .string d]) (t := 30) ?hr B ?_; (case hd | hg => rfl); (case hr => go_simp; first | done | rfl); intro g3 w2 hb B F3 L3 E3; replace F2 := bn F2 hb; clear c2_0 c2_1; obtain ⟨c2_0, c2_1⟩ := cs2 F2; obtain ⟨c3_0, c3_1⟩ := cs2 F3; clear hb E3)
  | ((with_reducible refine gate_dst (N := 4) rfl ?_); refine bx ?hg (N := 4) ?hd (cs := #[.string (⟨#[]⟩ : ByteArray), .string (⟨#[]⟩ : ByteArray)]) (t := 30) ?hr B ?_; (case hd | hg => rfl); (case hr => go_simp; first | done | rfl); intro g4 w3 hb B F4 L4 E4; replace F2 := bn F2 hb; replace F3 := bn F3 hb; clear c2_0 c2_1; obtain ⟨c2_0, c2_1⟩ := cs2 F2; clear c3_0 c3_1; obtain ⟨c3_0, c3_1⟩ := cs2 F3; clear hb E4)
  | (go_at_call 47; with_reducible refine cl (spec_IntervalValid.M a b _) B fun w4 hb B => ?_; replace F2 := bn F2 hb; replace F3 := bn F3 hb; replace F4 := bn F4 hb; clear c2_0 c2_1; obtain ⟨c2_0, c2_1⟩ := cs2 F2; clear c3_0 c3_1; obtain ⟨c3_0, c3_1⟩ := cs2 F3; clear hb)
  | (go_at_call 47; with_reducible refine cl (spec_IntervalValid.M c d _) B fun w5 hb B => ?_; replace F2 := bn F2 hb; replace F3 := bn F3 hb; replace F4 := bn F4 hb; clear c2_0 c2_1; obtain ⟨c2_0, c2_1⟩ := cs2 F2; clear c3_0 c3_1; obtain ⟨c3_0, c3_1⟩ := cs2 F3; clear hb)
  | ((with_reducible refine gate_store (t := 30) (p := 4) rfl ?_); obtain ⟨y0, y1, z0, z1⟩ := cz2 F4; refine sx (t := 30) (t' := 30) (p := 4) (v := ?vo6) ?hg ?ho ?hn 0 [.string (⟨#[]⟩ : ByteArray), .string (⟨#[]⟩ : ByteArray)] [.string (⟨#[]⟩ : ByteArray), .string (⟨#[]⟩ : ByteArray)] ?hr B F4 L4 rfl (Nat.le_of_ble_eq_true rfl) ?_; (case ho | hg | hn => rfl); (case hr => go_simp; first | done | rfl); intro w6 hk B G; replace F4 := G; clear hk y0 z0 y1 z1)
  | ((with_reducible refine gate_store (t := 30) (p := 4) rfl ?_); obtain ⟨y0, y1, z0, z1⟩ := cz2 F4; refine sx (t := 30) (t' := 30) (p := 4) (v := ?vo101) ?hg ?ho ?hn 0 [.string a, .string d] [.string a, .string d] ?hr B F4 L4 rfl (Nat.le_of_ble_eq_true rfl) ?_; (case ho | hg | hn => rfl); (case hr => go_simp; first | done | rfl); intro w101 hk B G; replace F4 := G; clear hk y0 z0 y1 z1))
 all_goals first
  | (refine useEq (a := r) (b := (a, d, true)) ?_ (fun hM => ?_); (rw [← hr]; unfold ijM ijB; simp_all); subst hM; refine bodyPost_ret (results_list (rs := [.cell 4 30, .tmp 5]) rfl (by simp) (.cell g4 30 _ (0, 0) _ rfl F4.out hu rfl (by kernel_rfl) (.tmp .nil))) rfl ?_; exact ⟨rfl, B.out⟩)
  | (refine useEq (a := r) (b := ((⟨#[]⟩ : ByteArray), (⟨#[]⟩ : ByteArray), false)) ?_ (fun hM => ?_); (rw [← hr]; unfold ijM ijB; simp_all); subst hM; refine bodyPost_ret (results_list (rs := [.cell 4 30, .tmp 5]) rfl (by simp) (.cell g4 30 _ (0, 0) _ rfl F4.out hu rfl (by kernel_rfl) (.tmp .nil))) rfl ?_; exact ⟨rfl, B.out⟩)
theorem impl_IntervalJoin.M (a b c d : ByteArray) (w : World) : Calls Try.prog 81 #[.agg #[.string a, .string b], .agg #[.string c, .string d]] w fun e w' => e = .returned (.tuple #[.agg #[.string (ijM a b c d).1, .string (ijM a b c d).2.1], .bool (ijM a b c d).2.2]) ∧ Below w.heap.size w w' := by
 have B := Aside0.mk (Below.refl w.heap.size w)
 have hu := Try.underlying30
 obtain ⟨r, hr⟩ : ∃ r, ijM a b c d = r := ⟨_, rfl⟩
 rw [hr]
 have hbc : (b.toList = c.toList) = (b = c) := propext ⟨ba_inj, fun h => by rw [h]⟩
 go_enter Try.func81, Try.ntmps81
 go_wp2_with (first
  | ((with_reducible refine gate_dst (N := 2) rfl ?_); refine bx ?hg (N := 2) ?hd (cs := #[.string a, .string b]) (t := 30) ?hr B ?_; (case hd | hg => rfl); (case hr => go_simp; first | done | rfl); intro g2 w1 hb B F2 L2 E2; obtain ⟨c2_0, c2_1⟩ := cs2 F2; clear hb E2)
  | ((with_reducible refine gate_dst (N := 3) rfl ?_); refine bx ?hg (N := 3) ?hd (cs := #[.string c, .string d]) (t := 30) ?hr B ?_; (case hd | hg => rfl); (case hr => go_simp; first | done | rfl); intro g3 w2 hb B F3 L3 E3; replace F2 := bn F2 hb; clear c2_0 c2_1; obtain ⟨c2_0, c2_1⟩ := cs2 F2; obtain ⟨c3_0, c3_1⟩ := cs2 F3; clear hb E3)
  | ((with_reducible refine gate_dst (N := 4) rfl ?_); refine bx ?hg (N := 4) ?hd (cs := #[.string (⟨#[]⟩ : ByteArray), .string (⟨#[]⟩ : ByteArray)]) (t := 30) ?hr B ?_; (case hd | hg => rfl); (case hr => go_simp; first | done | rfl); intro g4 w3 hb B F4 L4 E4; replace F2 := bn F2 hb; replace F3 := bn F3 hb; clear c2_0 c2_1; obtain ⟨c2_0, c2_1⟩ := cs2 F2; clear c3_0 c3_1; obtain ⟨c3_0, c3_1⟩ := cs2 F3; clear hb E4)
  | (go_at_call 55; with_reducible refine cl (impl_IntervalValid.M a b _) B fun w4 hb B => ?_; replace F2 := bn F2 hb; replace F3 := bn F3 hb; replace F4 := bn F4 hb; clear c2_0 c2_1; obtain ⟨c2_0, c2_1⟩ := cs2 F2; clear c3_0 c3_1; obtain ⟨c3_0, c3_1⟩ := cs2 F3; clear hb)
  | (go_at_call 55; with_reducible refine cl (impl_IntervalValid.M c d _) B fun w5 hb B => ?_; replace F2 := bn F2 hb; replace F3 := bn F3 hb; replace F4 := bn F4 hb; clear c2_0 c2_1; obtain ⟨c2_0, c2_1⟩ := cs2 F2; clear c3_0 c3_1; obtain ⟨c3_0, c3_1⟩ := cs2 F3; clear hb)
  | ((with_reducible refine gate_store (t := 30) (p := 4) rfl ?_); obtain ⟨y0, y1, z0, z1⟩ := cz2 F4; refine sx (t := 30) (t' := 30) (p := 4) (v := ?vo6) ?hg ?ho ?hn 0 [.string (⟨#[]⟩ : ByteArray), .string (⟨#[]⟩ : ByteArray)] [.string (⟨#[]⟩ : ByteArray), .string (⟨#[]⟩ : ByteArray)] ?hr B F4 L4 rfl (Nat.le_of_ble_eq_true rfl) ?_; (case ho | hg | hn => rfl); (case hr => go_simp; first | done | rfl); intro w6 hk B G; replace F4 := G; clear hk y0 z0 y1 z1)
  | ((with_reducible refine gate_store (t := 30) (p := 4) rfl ?_); obtain ⟨y0, y1, z0, z1⟩ := cz2 F4; refine sx (t := 30) (t' := 30) (p := 4) (v := ?vo101) ?hg ?ho ?hn 0 [.string a, .string d] [.string a, .string d] ?hr B F4 L4 rfl (Nat.le_of_ble_eq_true rfl) ?_; (case ho | hg | hn => rfl); (case hr => go_simp; first | done | rfl); intro w101 hk B G; replace F4 := G; clear hk y0 z0 y1 z1))
 all_goals first
  | (refine useEq (a := r) (b := (a, d, true)) ?_ (fun hM => ?_); (rw [← hr]; unfold ijM ijB; simp_all); subst hM; refine bodyPost_ret (results_list (rs := [.cell 4 30, .tmp 5]) rfl (by simp) (.cell g4 30 _ (0, 0) _ rfl F4.out hu rfl (by kernel_rfl) (.tmp .nil))) rfl ?_; exact ⟨rfl, B.out⟩)
  | (refine useEq (a := r) (b := ((⟨#[]⟩ : ByteArray), (⟨#[]⟩ : ByteArray), false)) ?_ (fun hM => ?_); (rw [← hr]; unfold ijM ijB; simp_all); subst hM; refine bodyPost_ret (results_list (rs := [.cell 4 30, .tmp 5]) rfl (by simp) (.cell g4 30 _ (0, 0) _ rfl F4.out hu rfl (by kernel_rfl) (.tmp .nil))) rfl ?_; exact ⟨rfl, B.out⟩)

def pjM (l m : List S61) : List S61 × Bool := if pjB l m then (l ++ m, true) else ([], false)
theorem prB_app {l m : List S61} (h : prB (l ++ m) = true) : prB l = true ∧ prB m = true := ⟨prB_sub h (List.sublist_append_left l m), prB_sub h (List.sublist_append_right l m)⟩
theorem spec_PairsJoin.M (A0 : Option Addr) (c0 : Nat) (l : List S61) (A1 : Option Addr) (c1 : Nat) (m : List S61) (w : World) (hr0 : Kd.C k61 w A0 l.length l) (hc0 : l.length ≤ c0) (hr1 : Kd.C k61 w A1 m.length m) (hc1 : m.length ≤ c1) (hl : l.length ≤ 1000000) (hm : m.length ≤ 1000000) : Calls Try.prog 85 #[.slice A0 l.length c0, .slice A1 m.length c1] w fun e w' => ∃ v0, e = .returned (.tuple #[v0, .bool (pjM l m).2]) ∧ Kd.R k61 61 w' w.heap.size (fun _ => True) v0 (pjM l m).1 ∧ Below w.heap.size w w' := by
 have B := Aside0.mk (Below.refl w.heap.size w)
 have hu := Try.underlying61
 have HR0 := Aside0.mk hr0
 have HC0 := Aside0.mk hc0
 have L63 := Aside0.mk hr0.2.1
 clear hr0 hc0
 have HR1 := Aside0.mk hr1
 clear hr1 hc1
 obtain ⟨r, hr⟩ : ∃ r, pjM l m = r := ⟨_, rfl⟩
 rw [hr]
 go_enter Try.func85, Try.ntmps85
 go_wp2_with (first
  | ((with_reducible refine gate_dst (N := 7) rfl ?_); refine lt k61 61 ?hg (N := 7) ?hd ([] : List S61) [] ?hr (Reps.none _ _) (by simp) B ?_; (case hd | hg => rfl); (case hr => go_simp; first | done | rfl); intro z7 hz7 AL7 kL7 w1 hb B RL7 QL7; clear hb QL7)
  | ((with_reducible refine gate_builtin (b := .append) (xs := #[.tmp 7, .tmp 8]) rfl ?_); at_builtin; refine apx k61 61 rfl (.tmp 7) (.tmp 8) 31 (.agg #[.string (⟨#[]⟩ : ByteArray), .int .i64 (0)]) 24 rfl Try.underlying31 info61 rfl (by decide) (by omega) rfl rfl RL7 (cb HR0 B) (fun x cs h => by rw [k61_open h]; exact k61_mkM _ _ _ x) (by rw [← hz7]; simp only [List.length_nil]; omega) B ?_; intro z9 hz9 AL9 kL9 w2 hg B RL9 hat; clear hg hat; subst hz7)
  | ((with_reducible refine gate_builtin (b := .append) (xs := #[.tmp 19, .tmp 20]) rfl ?_); at_builtin; refine apx k61 61 rfl (.tmp 19) (.tmp 20) 31 (.agg #[.string (⟨#[]⟩ : ByteArray), .int .i64 (0)]) 24 rfl Try.underlying31 info61 rfl (by decide) (by omega) rfl rfl RL9 (cb HR1 B) (fun x cs h => by rw [k61_open h]; exact k61_mkM _ _ _ x) (by rw [← hz9]; simp only [List.length_append, List.length_nil]; omega) B ?_; intro z21 hz21 AL21 kL21 w3 hg B RL21 hat; clear hg hat)
  | (go_at_call 48; with_reducible refine cl (spec_PairsValid.M _ _ z21 _ (rc RL21)) B fun w4 hb B => ?_; replace RL21 := rn RL21 hb; clear hb)
  | ((with_reducible refine gate_dst (N := 18) rfl ?_); refine lt k61 61 ?hg (N := 18) ?hd ([] : List S61) [] ?hr (Reps.none _ _) (by simp) B ?_; (case hd | hg => rfl); (case hr => go_simp; first | done | rfl); intro z18 hz18 AL18 kL18 w3 hb B RL18 QL18; replace RL9 := rn RL9 hb; clear hb QL18)
  | ((with_reducible refine gate_dst (N := 25) rfl ?_); refine lt k61 61 ?hg (N := 25) ?hd ([] : List S61) [] ?hr (Reps.none _ _) (by simp) B ?_; (case hd | hg => rfl); (case hr => go_simp; first | done | rfl); intro z25 hz25 AL25 kL25 w101 hb B RL25 QL25; replace RL21 := rn RL21 hb; clear hb QL25))
 all_goals first
  | (refine useEq (a := r) (b := (([] : List S61), false)) ?_ (fun hM => ?_); (rw [← hr]; unfold pjM pjB; cases hp : prB (l ++ m) with | true => (exfalso; have hpl := prB_len hp; rw [List.length_append] at hpl; first | omega | simp_all) | false => rfl); subst hM; subst hz18; go_ret2; exact ⟨_, rfl, RL18.out, B.out⟩)
  | (refine useEq (a := z21) (b := l ++ m) ?_ (fun hZ => ?_); (rw [← hz21, ← hz9, List.nil_append]); (refine useEq (a := r) (b := (([] : List S61), false)) ?_ (fun hM => ?_); (rw [← hr]; unfold pjM pjB; cases hp : prB (l ++ m) with | true => (exfalso; have hpl := prB_len hp; rw [List.length_append] at hpl; first | omega | simp_all) | false => rfl); subst hM; subst hz25; go_ret2; exact ⟨_, rfl, RL25.out, B.out⟩))
  | (refine useEq (a := z21) (b := l ++ m) ?_ (fun hZ => ?_); (rw [← hz21, ← hz9, List.nil_append]); refine useEq (a := r) (b := (z21, true)) ?_ (fun hM => ?_); (rw [← hr]; unfold pjM pjB; simp_all); subst hM; go_ret2; exact ⟨_, rfl, RL21.out, B.out⟩)
theorem impl_PairsJoin.M (A0 : Option Addr) (c0 : Nat) (l : List S61) (A1 : Option Addr) (c1 : Nat) (m : List S61) (w : World) (hr0 : Kd.C k61 w A0 l.length l) (hc0 : l.length ≤ c0) (hr1 : Kd.C k61 w A1 m.length m) (hc1 : m.length ≤ c1) (hl : l.length ≤ 1000000) (hm : m.length ≤ 1000000) : Calls Try.prog 82 #[.slice A0 l.length c0, .slice A1 m.length c1] w fun e w' => ∃ v0, e = .returned (.tuple #[v0, .bool (pjM l m).2]) ∧ Kd.R k61 61 w' w.heap.size (fun _ => True) v0 (pjM l m).1 ∧ Below w.heap.size w w' := by
 have B := Aside0.mk (Below.refl w.heap.size w)
 have hu := Try.underlying61
 have HR0 := Aside0.mk hr0
 have HC0 := Aside0.mk hc0
 have L63 := Aside0.mk hr0.2.1
 clear hr0 hc0
 have HR1 := Aside0.mk hr1
 clear hr1 hc1
 obtain ⟨r, hr⟩ : ∃ r, pjM l m = r := ⟨_, rfl⟩
 rw [hr]
 go_enter Try.func82, Try.ntmps82
 go_wp2_with (first
  | (go_at_call 56; with_reducible refine cl (impl_PairsValid.M _ _ l _ (cb HR0 B)) B fun w1 hb B => ?_; clear hb)
  | (go_at_call 56; with_reducible refine cl (impl_PairsValid.M _ _ m _ (cb HR1 B)) B fun w2 hb B => ?_; clear hb)
  | (go_at_call 73; with_reducible refine cr (impl_copyOfPair.M _ _ l _ (cb HR0 B) HC0.out (by omega)) B fun AC3 kC3 w3 hb B RC3 QC3 => ?_; clear QC3; clear hb)
  | ((with_reducible refine gate_builtin (b := .append) (xs := #[.tmp 16, .tmp 17]) rfl ?_); at_builtin; refine apx k61 61 rfl (.tmp 16) (.tmp 17) 31 (.agg #[.string (⟨#[]⟩ : ByteArray), .int .i64 (0)]) 24 rfl Try.underlying31 info61 rfl (by decide) (by omega) rfl rfl RC3 (cb HR1 B) (fun x cs h => by rw [k61_open h]; exact k61_mkM _ _ _ x) (by omega) B ?_; intro z18 hz18 AL18 kL18 w4 hg B RL18 hat; clear hg hat)
  | (go_at_call 56; with_reducible refine cl (impl_PairsValid.M _ _ z18 _ (rc RL18)) B fun w5 hb B => ?_; replace RL18 := rn RL18 hb; clear hb))
 all_goals first
  | (refine useEq (a := r) (b := (([] : List S61), false)) ?_ (fun hM => ?_); (rw [← hr]; unfold pjM pjB; cases hp : prB (l ++ m) with | true => (exfalso; have hpl := prB_app hp; simp_all) | false => rfl); subst hM; go_ret2; exact ⟨_, rfl, Kd.R_nil _ _ _ _ _, B.out⟩)
  | (refine useEq (a := r) (b := (z18, true)) ?_ (fun hM => ?_); (rw [← hr]; unfold pjM pjB; simp_all); subst hM; go_ret2; exact ⟨_, rfl, RL18.out, B.out⟩)

theorem spec_IntervalJoin.Mt (a b c d : ByteArray) (hi : ijB a b c d = true) (w : World) : Calls Try.prog 84 #[.agg #[.string a, .string b], .agg #[.string c, .string d]] w fun e w' => e = .returned (.tuple #[.agg #[.string a, .string d], .bool true]) ∧ Below w.heap.size w w' := by
 have h := spec_IntervalJoin.M a b c d w
 unfold ijM at h
 rw [hi] at h
 exact h
theorem spec_IntervalJoin.Mf (a b c d : ByteArray) (hi : ijB a b c d = false) (w : World) : Calls Try.prog 84 #[.agg #[.string a, .string b], .agg #[.string c, .string d]] w fun e w' => e = .returned (.tuple #[.agg #[.string (⟨#[]⟩ : ByteArray), .string (⟨#[]⟩ : ByteArray)], .bool false]) ∧ Below w.heap.size w w' := by
 have h := spec_IntervalJoin.M a b c d w
 unfold ijM at h
 rw [hi] at h
 exact h
theorem spec_PairsJoin.Mt (A0 : Option Addr) (c0 : Nat) (l : List S61) (A1 : Option Addr) (c1 : Nat) (m : List S61) (hi : pjB l m = true) (w : World) (hr0 : Kd.C k61 w A0 l.length l) (hc0 : l.length ≤ c0) (hr1 : Kd.C k61 w A1 m.length m) (hc1 : m.length ≤ c1) (hl : l.length ≤ 1000000) (hm : m.length ≤ 1000000) : Calls Try.prog 85 #[.slice A0 l.length c0, .slice A1 m.length c1] w fun e w' => ∃ v0, e = .returned (.tuple #[v0, .bool true]) ∧ Kd.R k61 61 w' w.heap.size (fun _ => True) v0 (l ++ m) ∧ Below w.heap.size w w' := by
 have h := spec_PairsJoin.M A0 c0 l A1 c1 m w hr0 hc0 hr1 hc1 hl hm
 unfold pjM at h
 rw [hi] at h
 exact h
theorem spec_PairsJoin.Mf (A0 : Option Addr) (c0 : Nat) (l : List S61) (A1 : Option Addr) (c1 : Nat) (m : List S61) (hi : pjB l m = false) (w : World) (hr0 : Kd.C k61 w A0 l.length l) (hc0 : l.length ≤ c0) (hr1 : Kd.C k61 w A1 m.length m) (hc1 : m.length ≤ c1) (hl : l.length ≤ 1000000) (hm : m.length ≤ 1000000) : Calls Try.prog 85 #[.slice A0 l.length c0, .slice A1 m.length c1] w fun e w' => ∃ v0, e = .returned (.tuple #[v0, .bool false]) ∧ Kd.R k61 61 w' w.heap.size (fun _ => True) v0 ([] : List S61) ∧ Below w.heap.size w w' := by
 have h := spec_PairsJoin.M A0 c0 l A1 c1 m w hr0 hc0 hr1 hc1 hl hm
 unfold pjM at h
 rw [hi] at h
 exact h
theorem impl_IntervalJoin.Mt (a b c d : ByteArray) (hi : ijB a b c d = true) (w : World) : Calls Try.prog 81 #[.agg #[.string a, .string b], .agg #[.string c, .string d]] w fun e w' => e = .returned (.tuple #[.agg #[.string a, .string d], .bool true]) ∧ Below w.heap.size w w' := by
 have h := impl_IntervalJoin.M a b c d w
 unfold ijM at h
 rw [hi] at h
 exact h
theorem impl_IntervalJoin.Mf (a b c d : ByteArray) (hi : ijB a b c d = false) (w : World) : Calls Try.prog 81 #[.agg #[.string a, .string b], .agg #[.string c, .string d]] w fun e w' => e = .returned (.tuple #[.agg #[.string (⟨#[]⟩ : ByteArray), .string (⟨#[]⟩ : ByteArray)], .bool false]) ∧ Below w.heap.size w w' := by
 have h := impl_IntervalJoin.M a b c d w
 unfold ijM at h
 rw [hi] at h
 exact h
theorem impl_PairsJoin.Mt (A0 : Option Addr) (c0 : Nat) (l : List S61) (A1 : Option Addr) (c1 : Nat) (m : List S61) (hi : pjB l m = true) (w : World) (hr0 : Kd.C k61 w A0 l.length l) (hc0 : l.length ≤ c0) (hr1 : Kd.C k61 w A1 m.length m) (hc1 : m.length ≤ c1) (hl : l.length ≤ 1000000) (hm : m.length ≤ 1000000) : Calls Try.prog 82 #[.slice A0 l.length c0, .slice A1 m.length c1] w fun e w' => ∃ v0, e = .returned (.tuple #[v0, .bool true]) ∧ Kd.R k61 61 w' w.heap.size (fun _ => True) v0 (l ++ m) ∧ Below w.heap.size w w' := by
 have h := impl_PairsJoin.M A0 c0 l A1 c1 m w hr0 hc0 hr1 hc1 hl hm
 unfold pjM at h
 rw [hi] at h
 exact h
theorem impl_PairsJoin.Mf (A0 : Option Addr) (c0 : Nat) (l : List S61) (A1 : Option Addr) (c1 : Nat) (m : List S61) (hi : pjB l m = false) (w : World) (hr0 : Kd.C k61 w A0 l.length l) (hc0 : l.length ≤ c0) (hr1 : Kd.C k61 w A1 m.length m) (hc1 : m.length ≤ c1) (hl : l.length ≤ 1000000) (hm : m.length ≤ 1000000) : Calls Try.prog 82 #[.slice A0 l.length c0, .slice A1 m.length c1] w fun e w' => ∃ v0, e = .returned (.tuple #[v0, .bool false]) ∧ Kd.R k61 61 w' w.heap.size (fun _ => True) v0 ([] : List S61) ∧ Below w.heap.size w w' := by
 have h := impl_PairsJoin.M A0 c0 l A1 c1 m w hr0 hc0 hr1 hc1 hl hm
 unfold pjM at h
 rw [hi] at h
 exact h

theorem impl_replacedSession.M (A0 : Option Addr) (c0 : Nat) (l : List S100) (at_ many : Nat) (A1 : Option Addr) (c1 : Nat) (by_ : List S100) (w : World) (hr0 : Kd.C k100 w A0 l.length l) (hc0 : l.length ≤ c0) (hr1 : Kd.C k100 w A1 by_.length by_) (hc1 : by_.length ≤ c1)
  (hs : l.length ≤ 1000000) (hs1 : by_.length ≤ 1000000) (ham : at_ + many ≤ l.length) :
  Calls Try.prog 120 #[.slice A0 l.length c0, .int .i64 (at_ : Int), .int .i64 (many : Int), .slice A1 by_.length c1] w fun e w' => ∃ v0_ : Value, e = .returned v0_ ∧ Kd.R k100 100 w' w.heap.size (fun _ => True) v0_ ((l.take at_ ++ by_) ++ l.drop (at_ + many)) ∧ Below w.heap.size w w' := by
 have HR0 := Aside0.mk hr0
 have HR1 := Aside0.mk hr1
 clear hr0 hr1
 have hsum : (l.length : Int) - (many : Int) + (by_.length : Int) = ((l.length - many + by_.length : Nat) : Int) := by omega
 obtain ⟨i0, hif, _, hsz, _⟩ := info_parts info100
 have hcut1 := cut_to (P := Try.prog) 32 100 .i64 Try.underlying32 hif A0 l.length c0 (at_ : Int) (by omega) (by omega) hc0
 have hcut2 := cut_from (P := Try.prog) 32 100 .i64 Try.underlying32 hif 3 hsz A0 l.length c0 ((at_ : Int) + (many : Int)) (by omega) (by omega)
 rw [Int.toNat_natCast] at hcut1
 rw [show ((at_ : Int) + (many : Int)).toNat = at_ + many by omega] at hcut2
 have C1 := Aside0.mk (fun {W : World} (h : Kd.C k100 W A0 l.length l) => show Kd.C k100 W A0 at_ (l.take at_) from by
  have := Kd.C_take h (m := at_) (by omega)
  rwa [List.length_take, Nat.min_eq_left (by omega)] at this)
 obtain ⟨A2, hA2⟩ : ∃ A2, A2 = (if c0 = at_ + many then A0 else A0.map (·.add ((at_ + many) * 3))) := ⟨_, rfl⟩
 rw [← hA2] at hcut2
 have C2 := Aside0.mk (fun {W : World} (h : Kd.C k100 W A0 l.length l) => show Kd.C k100 W A2 (l.length - (at_ + many)) (l.drop (at_ + many)) from by
  have := Kd.C_drop h (m := at_ + many) (c := c0) (by omega) hc0
  rw [List.length_drop] at this
  rw [hA2]
  exact this)
 have SUM := Aside0.mk hsum
 clear hsum hif hsz hA2
 go_enter Try.func120, Try.ntmps120
 go_wp2_with (first
  | ((with_reducible refine gate_dst (N := 17) rfl ?_); refine make_cap k100 (w0 := w) w.heap.size 100 rfl (N := 17) rfl 32 _ _ rfl (l.length - many + by_.length) rfl (congrArg (Value.int .i64) SUM.out) Try.underlying32 (.agg #[.int .i64 0, .int .i64 0, .int .i64 0]) 24 info100 (by omega) (by omega) (Below.refl _ _) (Nat.le_refl _) ?_; intro v1 w1 ho hb; have O1 := Aside0.mk ho; have B1 := Aside0.mk hb; clear ho hb)
  | ((with_reducible refine gate_builtin (b := .append) (xs := #[.tmp 18, .tmp 21]) rfl ?_); at_builtin; refine Kd.R_append_rows k100 (w0 := w) w.heap.size rfl (.tmp 18) (.tmp 21) 32 100 (.agg #[.int .i64 0, .int .i64 0, .int .i64 0]) 24 rfl Try.underlying32 info100 rfl (by decide) (by omega) v1 [] (l.take at_) _ _ _ (fun _ => True) (fun _ => False) rfl rfl O1.out (C1.out (Kd.C_below HR0.out B1.out)) (fun x cs h => own_Session _ _ x cs h) (fun _ h => h.elim) (fun _ _ => trivial) B1.out (below_size B1.out) (by simp only [List.length_nil]; omega) ?_; intro v2 w2 ho hb hg hat; rw [List.nil_append] at ho; have O2 := Aside0.mk ho; have B2 := Aside0.mk hb; clear ho hb hg hat)
  | ((with_reducible refine gate_builtin (b := .append) (xs := #[.tmp 23, .tmp 24]) rfl ?_); at_builtin; refine Kd.R_append_rows k100 (w0 := w) w.heap.size rfl (.tmp 23) (.tmp 24) 32 100 (.agg #[.int .i64 0, .int .i64 0, .int .i64 0]) 24 rfl Try.underlying32 info100 rfl (by decide) (by omega) v2 (l.take at_) by_ _ _ _ (fun _ => True) (fun _ => False) rfl rfl O2.out (Kd.C_below HR1.out B2.out) (fun x cs h => own_Session _ _ x cs h) (fun _ h => h.elim) (fun _ _ => trivial) B2.out (below_size B2.out) (by simp only [List.length_take]; omega) ?_; intro v3 w3 ho hb hg hat; have O3 := Aside0.mk ho; have B3 := Aside0.mk hb; clear ho hb hg hat)
  | ((with_reducible refine gate_builtin (b := .append) (xs := #[.tmp 26, .tmp 31]) rfl ?_); at_builtin; refine Kd.R_append_rows k100 (w0 := w) w.heap.size rfl (.tmp 26) (.tmp 31) 32 100 (.agg #[.int .i64 0, .int .i64 0, .int .i64 0]) 24 rfl Try.underlying32 info100 rfl (by decide) (by omega) v3 (l.take at_ ++ by_) (l.drop (at_ + many)) _ _ _ (fun _ => True) (fun _ => False) rfl rfl O3.out (C2.out (Kd.C_below HR0.out B3.out)) (fun x cs h => own_Session _ _ x cs h) (fun _ h => h.elim) (fun _ _ => trivial) B3.out (below_size B3.out) (by simp only [List.length_append, List.length_take]; omega) ?_; intro v4 w4 ho hb hg hat; have O4 := Aside0.mk ho; have B4 := Aside0.mk hb; clear ho hb hg hat))
 go_ret
 exact ⟨_, rfl, O4.out, B4.out⟩
theorem impl_replacedSession.M0 (A0 : Option Addr) (c0 : Nat) (l : List S100) (at_ : Nat) (A1 : Option Addr) (c1 : Nat) (by_ : List S100) (w : World) (hr0 : Kd.C k100 w A0 l.length l) (hc0 : l.length ≤ c0) (hr1 : Kd.C k100 w A1 by_.length by_) (hc1 : by_.length ≤ c1) (hs : l.length ≤ 1000000) (hs1 : by_.length ≤ 1000000) (ham : at_ ≤ l.length) : Calls Try.prog 120 #[.slice A0 l.length c0, .int .i64 (at_ : Int), .int .i64 0, .slice A1 by_.length c1] w fun e w' => ∃ v0_ : Value, e = .returned v0_ ∧ Kd.R k100 100 w' w.heap.size (fun _ => True) v0_ ((l.take at_ ++ by_) ++ l.drop at_) ∧ Below w.heap.size w w' := impl_replacedSession.M A0 c0 l at_ 0 A1 c1 by_ w hr0 hc0 hr1 hc1 hs hs1 ham
theorem impl_replacedSession.M1 (A0 : Option Addr) (c0 : Nat) (l : List S100) (at_ : Nat) (A1 : Option Addr) (c1 : Nat) (by_ : List S100) (w : World) (hr0 : Kd.C k100 w A0 l.length l) (hc0 : l.length ≤ c0) (hr1 : Kd.C k100 w A1 by_.length by_) (hc1 : by_.length ≤ c1) (hs : l.length ≤ 1000000) (hs1 : by_.length ≤ 1000000) (ham : at_ + 1 ≤ l.length) : Calls Try.prog 120 #[.slice A0 l.length c0, .int .i64 (at_ : Int), .int .i64 1, .slice A1 by_.length c1] w fun e w' => ∃ v0_ : Value, e = .returned v0_ ∧ Kd.R k100 100 w' w.heap.size (fun _ => True) v0_ ((l.take at_ ++ by_) ++ l.drop (at_ + 1)) ∧ Below w.heap.size w w' := impl_replacedSession.M A0 c0 l at_ 1 A1 c1 by_ w hr0 hc0 hr1 hc1 hs hs1 ham
theorem impl_replacedSession.M1n (A0 : Option Addr) (c0 : Nat) (l : List S100) (at_ : Nat) (w : World) (hr0 : Kd.C k100 w A0 l.length l) (hc0 : l.length ≤ c0) (hs : l.length ≤ 1000000) (ham : at_ + 1 ≤ l.length) : Calls Try.prog 120 #[.slice A0 l.length c0, .int .i64 (at_ : Int), .int .i64 1, .slice none 0 0] w fun e w' => ∃ v0_ : Value, e = .returned v0_ ∧ Kd.R k100 100 w' w.heap.size (fun _ => True) v0_ (l.take at_ ++ l.drop (at_ + 1)) ∧ Below w.heap.size w w' := by
 have h := impl_replacedSession.M A0 c0 l at_ 1 none 0 [] w hr0 hc0 (nilC _ _) (Nat.le_refl 0) hs (by simp) ham
 rw [List.append_nil] at h
 exact h

theorem put_hit {l : List S100} {a b c : Int} (hv : sesB l = true) (ho : okS (⟨a, b, c⟩ : S100) = true) : putB l ⟨a, b, c⟩ = if hitOf l a = true then (if (rd_T100 l ((plOf l a : Nat) : Int)).f1 ≥ b then (l, false) else ((l.take (plOf l a) ++ [⟨a, b, c⟩]) ++ l.drop (plOf l a + 1), true)) else ((l.take (plOf l a) ++ [⟨a, b, c⟩]) ++ l.drop (plOf l a), true) := by
 have hs : sesB [(⟨a, b, c⟩ : S100)] = true := by rw [sesOne]; exact ho
 have hcl := okS_client ho
 have hsq : 1 ≤ b := by unfold okS l1B at ho; simp only [Bool.and_eq_true, decide_eq_true_eq] at ho; omega
 have hor := sesG_order l none hv
 obtain ⟨p1, p2, p3⟩ := placeOf_spec hor a l.length 0 l.length (Nat.zero_le _) (Nat.le_refl _) (by omega) (fun i _ hi => absurd hi (Nat.not_lt_zero _)) (fun i hil hi => by omega)
 have hpl := putL_place (⟨a, b, c⟩ : S100) l (plOf l a) hor p1 p2 p3
 have hq := seq_hit hv hcl
 have hh : hitOf l a = true ↔ ∃ h : plOf l a < l.length, l[plOf l a].f0 = a := by
  constructor
  ·intro h
   obtain ⟨h1, h2⟩ := plhit h
   rw [ses_nat h1] at h2
   exact ⟨h1, h2⟩
  ·rintro ⟨h1, h2⟩
   unfold hitOf
   rw [Bool.and_eq_true, decide_eq_true_eq, decide_eq_true_eq]
   exact ⟨h1, by rw [← ses_nat h1] at h2; exact h2⟩
 unfold putB
 rw [if_pos ⟨hv, hs⟩]
 show (if b ≤ seqB l a then (l, false) else (putL l ⟨a, b, c⟩ false, true)) = _
 rw [hq]
 by_cases hit : hitOf l a = true
 ·rw [if_pos hit, if_pos hit]
  rw [if_pos (hh.mp hit)] at hpl
  by_cases hle : b ≤ (rd_T100 l ((plOf l a : Nat) : Int)).f1
  ·rw [if_pos hle, if_pos (show (rd_T100 l ((plOf l a : Nat) : Int)).f1 ≥ b from hle)]
  ·rw [if_neg hle, if_neg (show ¬ (rd_T100 l ((plOf l a : Nat) : Int)).f1 ≥ b from hle), hpl]
 ·rw [if_neg hit, if_neg hit]
  rw [if_neg (fun h => hit (hh.mpr h))] at hpl
  rw [if_neg (by omega), hpl]
  rfl
def impl_SessionPut.T6 : Bool × List (List Nat × List Nat) := (true, [([], []), ([], []), ([0, 1], [0, 1]), ([2], [2]), ([3], [3]), ([], []), ([5], [5]), ([4, 6], [4, 6])])
def impl_SessionPut.B6 : List Nat := [0, 0, 3, 7, 15, 0, 32, 127]
theorem impl_SessionPut.tab6 : rtab .any (opsOf Try.f109 6) = impl_SessionPut.T6 := by kernel_rfl
theorem impl_SessionPut.bits6 : waitsOk impl_SessionPut.T6.2 impl_SessionPut.B6 = true := by kernel_rfl
theorem impl_SessionPut.M (A0 : Option Addr) (c0 : Nat) (l : List S100) (a b c : Int) (w : World) (hr0 : Kd.C k100 w A0 l.length l) (hc0 : l.length ≤ c0) : Calls Try.prog 109 #[.slice A0 l.length c0, .agg #[.int .i64 a, .int .i64 b, .int .i64 c]] w fun e w' => ∃ v0, e = .returned (.tuple #[v0, .bool (putB l ⟨a, b, c⟩).2]) ∧ Kd.R k100 100 w' w.heap.size (fun _ => True) v0 (putB l ⟨a, b, c⟩).1 ∧ Below w.heap.size w w' := by
 have B := Aside0.mk (Below.refl w.heap.size w)
 have hu := Try.underlying100
 have HR0 := Aside0.mk hr0
 have HC0 := Aside0.mk hc0
 have L63 := Aside0.mk hr0.2.1
 clear hr0 hc0
 by_cases hv : sesB l = true
 ·have h4 := sesB_len hv
  cases ho : okS (⟨a, b, c⟩ : S100) with
  | true =>
   have hone : sesB [(⟨a, b, c⟩ : S100)] = true := by rw [sesOne]; exact ho
   have hM := put_hit hv ho
   cases hh : hitOf l a with
   | true =>
    rw [hh, if_pos rfl] at hM
    obtain ⟨hlt, hf0⟩ := plhit hh
    have j1 := eq_true (show ((plOf l a : Nat) : Int) < (l.length : Int) by omega)
    have j2 := eq_true hlt
    by_cases hb : (rd_T100 l ((plOf l a : Nat) : Int)).f1 ≥ b
    ·rw [if_pos hb] at hM
     have db : decide ((rd_T100 l ((plOf l a : Nat) : Int)).f1 ≥ b) = true := decide_eq_true hb
     go_enter Try.func109, Try.ntmps109
     go_wp2_with (first
      | ((with_reducible refine gate_dst (N := 3) rfl ?_); refine bx ?hg (N := 3) ?hd (cs := #[.int .i64 (a), .int .i64 (b), .int .i64 (c)]) (t := 100) ?hr B ?_; (case hd | hg => rfl); (case hr => go_simp; first | done | rfl); intro g3 w301 hb B F3 L3 E3; obtain ⟨c3_0, c3_1, c3_2⟩ := cs3 F3; clear hb E3)
      | (go_at_call 57; with_reducible refine cl (impl_SessionsValid.M _ _ l _ (cb HR0 B)) B fun w302 hb B => ?_; replace F3 := bn F3 hb; clear c3_0 c3_1 c3_2; obtain ⟨c3_0, c3_1, c3_2⟩ := cs3 F3; clear hb)
      | ((with_reducible refine gate_dst (N := 13) rfl ?_); refine ungate ?hw ?_; (case hw => first | (go_simp; done) | rfl); refine lt k100 100 ?hg (N := 13) ?hd ([⟨a, b, c⟩] : List S100) [.int .i64 (a), .int .i64 (b), .int .i64 (c)] ?hr (Reps.c3 (k100_mkM _ _ _ ⟨a, b, c⟩) (Reps.none _ _)) (by simp) B ?_; (case hd | hg => rfl); (case hr => go_simp; first | done | rfl); intro z13 hz13 AL13 kL13 w303 hb B RL13 QL13; have NB3_L13 := nb QL13 F3; replace F3 := bn F3 hb; clear c3_0 c3_1 c3_2; obtain ⟨c3_0, c3_1, c3_2⟩ := cs3 F3; clear hb QL13)
      | (go_at_call 57; with_reducible refine cl (clv (impl_SessionsValid.M _ _ z13 _ (rc RL13)) (congrArg Value.bool (show sesB z13 = true by rw [← hz13]; exact hone))) B fun w304 hb B => ?_; replace F3 := bn F3 hb; clear c3_0 c3_1 c3_2; obtain ⟨c3_0, c3_1, c3_2⟩ := cs3 F3; clear hb; clear hz13)
      | (go_at_call 87; with_reducible refine cl (impl_sessionPlace.M _ _ l a _ (cb HR0 B) HC0.out hv) B fun w305 hb B => ?_; replace F3 := bn F3 hb; clear c3_0 c3_1 c3_2; obtain ⟨c3_0, c3_1, c3_2⟩ := cs3 F3; clear hb; (obtain ⟨ad, hA, y0, y1, y2⟩ := at_T100 (cb HR0 B) ((plOf l a : Nat) : Int) (Int.natCast_nonneg _) (Int.ofNat_lt.mpr hlt); cases hA; rw [Int.toNat_natCast] at y0 y1 y2)))
     all_goals (
      refine rg (n := 8) (S := fun W => Kd.C k100 W (some ad) l.length l ∧ W.heap[g3]? = some (.cells #[.int .i64 (a), .int .i64 (b), .int .i64 (c)] 100 (0, 0))) (ds := []) #[false, false, false, false, false, false, false, false] (by kernel_rfl) rfl rfl ⟨(cb HR0 B), F3.out⟩ id B (fun w306 hb B hHeld => ?_)
      refine with_tabW impl_SessionPut.tab6 impl_SessionPut.bits6 (fun HT_ HW_ => ?_)
      replace F3 := bn F3 hb
      clear hb
      refine pv 0 (some 31) (v := ?_) (bits 8 1) HT_ (by kernel_rfl) rfl rfl (fun _ _ _ h => h) (by kernel_rfl) ?_ ?_; rotate_left; (intro w'; go_simp; with_reducible rfl)
      refine pv 1 (some 32) (v := ?_) (bits 8 3) HT_ (by kernel_rfl) rfl rfl (fun _ _ _ h => h) (by kernel_rfl) ?_ ?_; rotate_left; (intro w'; go_simp; with_reducible rfl)
      refine pv 2 (some 33) (v := ?_) (bits 8 7) HT_ (by kernel_rfl) rfl rfl (fun _ _ _ h => h) (by kernel_rfl) ?_ ?_; rotate_left; (intro w'; go_simp; with_reducible rfl)
      refine pv 3 (some 34) (v := ?_) (bits 8 15) HT_ (by kernel_rfl) rfl rfl (fun _ _ _ h => h) (by kernel_rfl) ?_ ?_; rotate_left; (intro w'; go_simp; with_reducible rfl)
      refine tv 4 (some 35) (v := ?_) (bits 8 31) HT_ HW_ (by kernel_rfl) rfl rfl (fun _ _ _ h => h) (by kernel_rfl) hHeld ?_ ?_; rotate_left; (intro w' hS; obtain ⟨s0, s1⟩ := hS; obtain ⟨_, hA, q0, q1, q2⟩ := at_T100 s0 ((plOf l a : Nat) : Int) (by omega) (by omega); cases hA; rw [Int.toNat_natCast] at q0 q1 q2; go_simp; with_reducible rfl)
      refine pv 5 (some 36) (v := ?_) (bits 8 63) HT_ (by kernel_rfl) rfl rfl (fun _ _ _ h => h) (by kernel_rfl) ?_ ?_; rotate_left; (intro w'; go_simp; with_reducible rfl)
      refine tv 6 (some 37) (v := ?_) (bits 8 127) HT_ HW_ (by kernel_rfl) rfl rfl (fun _ _ _ h => h) (by kernel_rfl) hHeld ?_ ?_; rotate_left; (intro w' hS; obtain ⟨s0, s1⟩ := hS; obtain ⟨q0, q1, q2⟩ := cs3 (Aside0.mk s1); go_simp; with_reducible rfl)
      refine pv 7 (some 38) (v := ?_) (bits 8 255) HT_ (by kernel_rfl) rfl rfl (fun _ _ _ h => h) (by kernel_rfl) ?_ ?_; rotate_left; (intro w'; go_simp; with_reducible rfl)
      refine norm_ (a' := ?_) ?_ ?_
      rotate_left
      ·simp only [Act.put, za, zb, zc, i64_w, i32_w]
       rfl
      refine done_ (done_of HT_.out (by kernel_rfl)) ?_)
     all_goals go_wp2_with (first
      | (go_at_call 107; with_reducible refine cr (impl_copyOfSession.M _ _ l _ (cb HR0 B) HC0.out (by omega)) B fun AC307 kC307 w307 hb B RC307 QC307 => ?_; clear QC307; clear hb))
     go_ret2; exact ⟨_, by rw [hM]; rfl, by rw [hM]; exact RC307.out, B.out⟩
    ·rw [if_neg hb] at hM
     have db : decide ((rd_T100 l ((plOf l a : Nat) : Int)).f1 ≥ b) = false := decide_eq_false hb
     go_enter Try.func109, Try.ntmps109
     go_wp2_with (first
      | ((with_reducible refine gate_dst (N := 3) rfl ?_); refine bx ?hg (N := 3) ?hd (cs := #[.int .i64 (a), .int .i64 (b), .int .i64 (c)]) (t := 100) ?hr B ?_; (case hd | hg => rfl); (case hr => go_simp; first | done | rfl); intro g3 w401 hb B F3 L3 E3; obtain ⟨c3_0, c3_1, c3_2⟩ := cs3 F3; clear hb E3)
      | (go_at_call 57; with_reducible refine cl (impl_SessionsValid.M _ _ l _ (cb HR0 B)) B fun w402 hb B => ?_; replace F3 := bn F3 hb; clear c3_0 c3_1 c3_2; obtain ⟨c3_0, c3_1, c3_2⟩ := cs3 F3; clear hb)
      | ((with_reducible refine gate_dst (N := 13) rfl ?_); refine ungate ?hw ?_; (case hw => first | (go_simp; done) | rfl); refine lt k100 100 ?hg (N := 13) ?hd ([⟨a, b, c⟩] : List S100) [.int .i64 (a), .int .i64 (b), .int .i64 (c)] ?hr (Reps.c3 (k100_mkM _ _ _ ⟨a, b, c⟩) (Reps.none _ _)) (by simp) B ?_; (case hd | hg => rfl); (case hr => go_simp; first | done | rfl); intro z13 hz13 AL13 kL13 w403 hb B RL13 QL13; have NB3_L13 := nb QL13 F3; replace F3 := bn F3 hb; clear c3_0 c3_1 c3_2; obtain ⟨c3_0, c3_1, c3_2⟩ := cs3 F3; clear hb QL13)
      | (go_at_call 57; with_reducible refine cl (clv (impl_SessionsValid.M _ _ z13 _ (rc RL13)) (congrArg Value.bool (show sesB z13 = true by rw [← hz13]; exact hone))) B fun w404 hb B => ?_; replace F3 := bn F3 hb; clear c3_0 c3_1 c3_2; obtain ⟨c3_0, c3_1, c3_2⟩ := cs3 F3; clear hb; clear hz13)
      | (go_at_call 87; with_reducible refine cl (impl_sessionPlace.M _ _ l a _ (cb HR0 B) HC0.out hv) B fun w405 hb B => ?_; replace F3 := bn F3 hb; clear c3_0 c3_1 c3_2; obtain ⟨c3_0, c3_1, c3_2⟩ := cs3 F3; clear hb; (obtain ⟨ad, hA, y0, y1, y2⟩ := at_T100 (cb HR0 B) ((plOf l a : Nat) : Int) (Int.natCast_nonneg _) (Int.ofNat_lt.mpr hlt); cases hA; rw [Int.toNat_natCast] at y0 y1 y2)))
     all_goals (
      refine rg (n := 8) (S := fun W => Kd.C k100 W (some ad) l.length l ∧ W.heap[g3]? = some (.cells #[.int .i64 (a), .int .i64 (b), .int .i64 (c)] 100 (0, 0))) (ds := []) #[false, false, false, false, false, false, false, false] (by kernel_rfl) rfl rfl ⟨(cb HR0 B), F3.out⟩ id B (fun w406 hb B hHeld => ?_)
      refine with_tabW impl_SessionPut.tab6 impl_SessionPut.bits6 (fun HT_ HW_ => ?_)
      replace F3 := bn F3 hb
      clear hb
      refine pv 0 (some 31) (v := ?_) (bits 8 1) HT_ (by kernel_rfl) rfl rfl (fun _ _ _ h => h) (by kernel_rfl) ?_ ?_; rotate_left; (intro w'; go_simp; with_reducible rfl)
      refine pv 1 (some 32) (v := ?_) (bits 8 3) HT_ (by kernel_rfl) rfl rfl (fun _ _ _ h => h) (by kernel_rfl) ?_ ?_; rotate_left; (intro w'; go_simp; with_reducible rfl)
      refine pv 2 (some 33) (v := ?_) (bits 8 7) HT_ (by kernel_rfl) rfl rfl (fun _ _ _ h => h) (by kernel_rfl) ?_ ?_; rotate_left; (intro w'; go_simp; with_reducible rfl)
      refine pv 3 (some 34) (v := ?_) (bits 8 15) HT_ (by kernel_rfl) rfl rfl (fun _ _ _ h => h) (by kernel_rfl) ?_ ?_; rotate_left; (intro w'; go_simp; with_reducible rfl)
      refine tv 4 (some 35) (v := ?_) (bits 8 31) HT_ HW_ (by kernel_rfl) rfl rfl (fun _ _ _ h => h) (by kernel_rfl) hHeld ?_ ?_; rotate_left; (intro w' hS; obtain ⟨s0, s1⟩ := hS; obtain ⟨_, hA, q0, q1, q2⟩ := at_T100 s0 ((plOf l a : Nat) : Int) (by omega) (by omega); cases hA; rw [Int.toNat_natCast] at q0 q1 q2; go_simp; with_reducible rfl)
      refine pv 5 (some 36) (v := ?_) (bits 8 63) HT_ (by kernel_rfl) rfl rfl (fun _ _ _ h => h) (by kernel_rfl) ?_ ?_; rotate_left; (intro w'; go_simp; with_reducible rfl)
      refine tv 6 (some 37) (v := ?_) (bits 8 127) HT_ HW_ (by kernel_rfl) rfl rfl (fun _ _ _ h => h) (by kernel_rfl) hHeld ?_ ?_; rotate_left; (intro w' hS; obtain ⟨s0, s1⟩ := hS; obtain ⟨q0, q1, q2⟩ := cs3 (Aside0.mk s1); go_simp; with_reducible rfl)
      refine pv 7 (some 38) (v := ?_) (bits 8 255) HT_ (by kernel_rfl) rfl rfl (fun _ _ _ h => h) (by kernel_rfl) ?_ ?_; rotate_left; (intro w'; go_simp; with_reducible rfl)
      refine norm_ (a' := ?_) ?_ ?_
      rotate_left
      ·simp only [Act.put, za, zb, zc, i64_w, i32_w]
       rfl
      refine done_ (done_of HT_.out (by kernel_rfl)) ?_
      clear c3_0 c3_1 c3_2
      obtain ⟨c3_0, c3_1, c3_2⟩ := cs3 F3)
     all_goals go_wp2_with (first
      | ((with_reducible refine gate_dst (N := 44) rfl ?_); refine lt k100 100 ?hg (N := 44) ?hd ([⟨a, b, c⟩] : List S100) [.int .i64 (a), .int .i64 (b), .int .i64 (c)] ?hr (Reps.c3 (k100_mkM _ _ _ ⟨a, b, c⟩) (Reps.none _ _)) (by simp) B ?_; (case hd | hg => rfl); (case hr => go_simp; first | done | rfl); intro z44 hz44 AL44 kL44 w407 hb B RL44 QL44; clear hb QL44)
      | (go_at_call 120; with_reducible refine crz (impl_replacedSession.M1 _ _ l (plOf l a) _ _ z44 _ (cb HR0 B) HC0.out (rc RL44) (rl RL44) (by omega) (by rw [← hz44]; simp) (by omega)) B fun zC408 hzC408 AC408 kC408 w408 hb B RC408 QC408 => ?_; clear QC408; clear hb))
     go_ret2; exact ⟨_, by rw [hM]; rfl, by rw [hM, hz44, hzC408]; exact RC408.out, B.out⟩
   | false =>
    rw [hh, if_neg (by simp)] at hM
    have hle : plOf l a ≤ l.length := (placeOf_spec (sesG_order l none hv) a l.length 0 l.length (Nat.zero_le _) (Nat.le_refl _) (by omega) (fun i _ hi => absurd hi (Nat.not_lt_zero _)) (fun i hil hi => by omega)).1
    go_enter Try.func109, Try.ntmps109
    go_wp2_with (first
     | ((with_reducible refine gate_dst (N := 3) rfl ?_); refine bx ?hg (N := 3) ?hd (cs := #[.int .i64 (a), .int .i64 (b), .int .i64 (c)]) (t := 100) ?hr B ?_; (case hd | hg => rfl); (case hr => go_simp; first | done | rfl); intro g3 w201 hb B F3 L3 E3; obtain ⟨c3_0, c3_1, c3_2⟩ := cs3 F3; clear hb E3)
     | (go_at_call 57; with_reducible refine cl (impl_SessionsValid.M _ _ l _ (cb HR0 B)) B fun w202 hb B => ?_; replace F3 := bn F3 hb; clear c3_0 c3_1 c3_2; obtain ⟨c3_0, c3_1, c3_2⟩ := cs3 F3; clear hb)
     | ((with_reducible refine gate_dst (N := 13) rfl ?_); refine ungate ?hw ?_; (case hw => first | (go_simp; done) | rfl); refine lt k100 100 ?hg (N := 13) ?hd ([⟨a, b, c⟩] : List S100) [.int .i64 (a), .int .i64 (b), .int .i64 (c)] ?hr (Reps.c3 (k100_mkM _ _ _ ⟨a, b, c⟩) (Reps.none _ _)) (by simp) B ?_; (case hd | hg => rfl); (case hr => go_simp; first | done | rfl); intro z13 hz13 AL13 kL13 w203 hb B RL13 QL13; have NB3_L13 := nb QL13 F3; replace F3 := bn F3 hb; clear c3_0 c3_1 c3_2; obtain ⟨c3_0, c3_1, c3_2⟩ := cs3 F3; clear hb QL13)
     | (go_at_call 57; with_reducible refine cl (clv (impl_SessionsValid.M _ _ z13 _ (rc RL13)) (congrArg Value.bool (show sesB z13 = true by rw [← hz13]; exact hone))) B fun w204 hb B => ?_; replace F3 := bn F3 hb; clear c3_0 c3_1 c3_2; obtain ⟨c3_0, c3_1, c3_2⟩ := cs3 F3; clear hb; clear hz13)
     | (go_at_call 87; with_reducible refine cl (impl_sessionPlace.M _ _ l a _ (cb HR0 B) HC0.out hv) B fun w205 hb B => ?_; replace F3 := bn F3 hb; clear c3_0 c3_1 c3_2; obtain ⟨c3_0, c3_1, c3_2⟩ := cs3 F3; clear hb)
     | ((with_reducible refine gate_dst (N := 29) rfl ?_); refine lt k100 100 ?hg (N := 29) ?hd ([⟨a, b, c⟩] : List S100) [.int .i64 (a), .int .i64 (b), .int .i64 (c)] ?hr (Reps.c3 (k100_mkM _ _ _ ⟨a, b, c⟩) (Reps.none _ _)) (by simp) B ?_; (case hd | hg => rfl); (case hr => go_simp; first | done | rfl); intro z29 hz29 AL29 kL29 w206 hb B RL29 QL29; clear hb QL29)
     | (go_at_call 120; with_reducible refine crz (impl_replacedSession.M0 _ _ l (plOf l a) _ _ z29 _ (cb HR0 B) HC0.out (rc RL29) (rl RL29) (by omega) (by rw [← hz29]; simp) (by omega)) B fun zC207 hzC207 AC207 kC207 w207 hb B RC207 QC207 => ?_; clear QC207; clear hb))
    go_ret2; exact ⟨_, by rw [hM]; rfl, by rw [hM, hz29, hzC207]; exact RC207.out, B.out⟩
  | false =>
   have hone : sesB [(⟨a, b, c⟩ : S100)] = false := by rw [sesOne]; exact ho
   have hM : putB l ⟨a, b, c⟩ = ([], false) := put_bad (.inr hone)
   go_enter Try.func109, Try.ntmps109
   go_wp2_with (first
    | ((with_reducible refine gate_dst (N := 3) rfl ?_); refine bx ?hg (N := 3) ?hd (cs := #[.int .i64 (a), .int .i64 (b), .int .i64 (c)]) (t := 100) ?hr B ?_; (case hd | hg => rfl); (case hr => go_simp; first | done | rfl); intro g3 w101 hb B F3 L3 E3; obtain ⟨c3_0, c3_1, c3_2⟩ := cs3 F3; clear hb E3)
    | (go_at_call 57; with_reducible refine cl (impl_SessionsValid.M _ _ l _ (cb HR0 B)) B fun w102 hb B => ?_; replace F3 := bn F3 hb; clear c3_0 c3_1 c3_2; obtain ⟨c3_0, c3_1, c3_2⟩ := cs3 F3; clear hb)
    | ((with_reducible refine gate_dst (N := 13) rfl ?_); refine ungate ?hw ?_; (case hw => first | (go_simp; done) | rfl); refine lt k100 100 ?hg (N := 13) ?hd ([⟨a, b, c⟩] : List S100) [.int .i64 (a), .int .i64 (b), .int .i64 (c)] ?hr (Reps.c3 (k100_mkM _ _ _ ⟨a, b, c⟩) (Reps.none _ _)) (by simp) B ?_; (case hd | hg => rfl); (case hr => go_simp; first | done | rfl); intro z13 hz13 AL13 kL13 w103 hb B RL13 QL13; clear hb QL13)
    | (go_at_call 57; with_reducible refine cl (clv (impl_SessionsValid.M _ _ z13 _ (rc RL13)) (congrArg Value.bool (show sesB z13 = false by rw [← hz13]; exact hone))) B fun w104 hb B => ?_; clear hb; clear hz13))
   go_ret2; exact ⟨_, by rw [hM]; rfl, by rw [hM]; exact Kd.R_nil _ _ _ _ _, B.out⟩
 ·replace hv := Bool.eq_false_iff.mpr hv
  have hM : putB l ⟨a, b, c⟩ = ([], false) := put_bad (.inl hv)
  have hone := hv
  go_enter Try.func109, Try.ntmps109
  go_wp2_with (first
   | ((with_reducible refine gate_dst (N := 3) rfl ?_); refine bx ?hg (N := 3) ?hd (cs := #[.int .i64 (a), .int .i64 (b), .int .i64 (c)]) (t := 100) ?hr B ?_; (case hd | hg => rfl); (case hr => go_simp; first | done | rfl); intro g3 w1 hb B F3 L3 E3; obtain ⟨c3_0, c3_1, c3_2⟩ := cs3 F3; clear hb E3)
   | (go_at_call 57; with_reducible refine cl (impl_SessionsValid.M _ _ l _ (cb HR0 B)) B fun w2 hb B => ?_; replace F3 := bn F3 hb; clear c3_0 c3_1 c3_2; obtain ⟨c3_0, c3_1, c3_2⟩ := cs3 F3; clear hb)
   | ((with_reducible refine gate_dst (N := 13) rfl ?_); refine ungate ?hw ?_; (case hw => first | (go_simp; done) | rfl); refine lt k100 100 ?hg (N := 13) ?hd ([⟨a, b, c⟩] : List S100) [.int .i64 (a), .int .i64 (b), .int .i64 (c)] ?hr (Reps.c3 (k100_mkM _ _ _ ⟨a, b, c⟩) (Reps.none _ _)) (by simp) B ?_; (case hd | hg => rfl); (case hr => go_simp; first | done | rfl); intro z13 hz13 AL13 kL13 w3 hb B RL13 QL13; clear hb QL13)
   | (go_at_call 57; with_reducible refine cl (clv (impl_SessionsValid.M _ _ z13 _ (rc RL13)) (congrArg Value.bool (show sesB z13 = false by rw [← hz13]; exact hone))) B fun w4 hb B => ?_; clear hb; clear hz13))
  go_ret2; exact ⟨_, by rw [hM]; rfl, by rw [hM]; exact Kd.R_nil _ _ _ _ _, B.out⟩

theorem impl_SessionsJoin.M (A0 : Option Addr) (c0 : Nat) (l : List S100) (A1 : Option Addr) (c1 : Nat) (m : List S100) (w : World) (hr0 : Kd.C k100 w A0 l.length l) (hc0 : l.length ≤ c0) (hr1 : Kd.C k100 w A1 m.length m) (hc1 : m.length ≤ c1) : Calls Try.prog 83 #[.slice A0 l.length c0, .slice A1 m.length c1] w fun e w' => ∃ v0, e = .returned v0 ∧ Kd.R k100 100 w' w.heap.size (fun _ => True) v0 (joinB l m) ∧ Below w.heap.size w w' := by
 have B := Aside0.mk (Below.refl w.heap.size w)
 have hu := Try.underlying100
 have HR0 := Aside0.mk hr0
 have HC0 := Aside0.mk hc0
 have L63 := Aside0.mk hr0.2.1
 clear hr0 hc0
 have HR1 := Aside0.mk hr1
 have M63 := Aside0.mk hr1.2.1
 clear hr1 hc1
 by_cases hv : sesB l = true ∧ sesB m = true
 ·obtain ⟨hv1, hv2⟩ := hv
  have h4 := sesB_len hv1
  have h5 := sesB_len hv2
  have hok := sesG_ok m none hv2
  rw [show joinB l m = joinL l m from if_pos ⟨hv1, hv2⟩]
  obtain ⟨r, hr⟩ : ∃ r, joinL l m = r := ⟨_, rfl⟩
  rw [hr]
  have H := Aside0.mk (show sesB l = true ∧ joinL l (m.drop 0) = r from ⟨hv1, hr⟩)
  have OK := Aside0.mk hok
  clear hr hok
  go_enter Try.func83, Try.ntmps83
  go_wp2_with (first
   | (go_at_call 57; with_reducible refine cl (impl_SessionsValid.M _ _ l _ (cb HR0 B)) B fun w1 hb B => ?_; clear hb)
   | (go_at_call 57; with_reducible refine cl (impl_SessionsValid.M _ _ m _ (cb HR1 B)) B fun w2 hb B => ?_; clear hb)
   | (go_at_call 107; with_reducible refine cr (impl_copyOfSession.M _ _ l _ (cb HR0 B) HC0.out (by omega)) B fun AC3 kC3 w3 hb B RC3 QC3 => ?_; clear QC3; clear hb))
  clear hv1 hv2
  go_loopg [5, 22] (m.length + 1) (fun kx v5 v22 wr => ∃ (j : Nat) (p : List S100), v22 = .int .i64 (j : Int) ∧ j ≤ m.length ∧ m.length < j + kx ∧ Aside0 (Below w.heap.size w wr) ∧ Aside0 (Ow k100 100 wr w.heap.size v5 p) ∧ Aside0 (sesB p = true ∧ joinL p (m.drop j) = r))
  case atStart => exact ⟨0, l, rfl, by omega, by omega, B, RC3, H⟩
  case round =>
   clear H B RC3
   obtain ⟨j, p, rfl, hj, hk, B, Rp6, H⟩ := hrel
   obtain ⟨A6, k6, rfl⟩ := Kd.R_slice Rp6.out
   by_cases hlt : j < m.length
   ·obtain ⟨hpv, HS⟩ := H.out
    have hp4 := sesB_len hpv
    rw [ses_drop hlt] at HS
    have hyo : okS (rd_T100 m (j : Int)) = true := OK.out _ (by rw [ses_nat hlt]; exact List.getElem_mem hlt)
    clear H
    obtain ⟨d, rfl⟩ : ∃ d, gk = d + 1 := ⟨gk - 1, by omega⟩
    have cj : decide ((j : Int) < (m.length : Int)) = true := decide_eq_true (by omega)
    obtain ⟨ad, hA, y0, y1, y2⟩ := at_T100 (cb HR1 B) (j : Int) (by omega) (by omega)
    cases hA
    rw [Int.toNat_natCast] at y0 y1 y2
    have j1 := eq_true (show (j : Int) < (m.length : Int) by omega)
    have j2 := eq_true hlt
    generalize hy : rd_T100 m (j : Int) = y at *
    obtain ⟨hnv, hne⟩ := putB_valid hpv hyo
    have HT := Aside0.mk (show sesB (putB p y).1 = true ∧ joinL (putB p y).1 (m.drop (j + 1)) = r from ⟨hnv, HS⟩)
    clear HS hpv hnv hyo
    cases hx : (putB p y).2 with
    | true =>
     go_wp2_with (first
      | ((with_reducible refine gate_dst (N := 7) rfl ?_); refine bx ?hg (N := 7) ?hd (cs := #[.int .i64 (0), .int .i64 (0), .int .i64 (0)]) (t := 100) ?hr B ?_; (case hd | hg => rfl); (case hr => go_simp; first | done | rfl); intro g7 w301 hb B F7 L7 E7; have NB7_p6 := nbx E7 Rp6; replace Rp6 := rn Rp6 hb; obtain ⟨c7_0, c7_1, c7_2⟩ := cs3 F7; clear hb E7)
      | ((with_reducible refine gate_store (t := 100) (p := 7) rfl ?_); obtain ⟨y0, y1, y2, z0, z1, z2⟩ := cz3 F7; refine sx (t := 100) (t' := 100) (p := 7) (v := ?vo302) ?hg ?ho ?hn 0 [.int .i64 (y.f0), .int .i64 (y.f1), .int .i64 (y.f2)] [.int .i64 (y.f0), .int .i64 (y.f1), .int .i64 (y.f2)] ?hr B F7 L7 rfl (Nat.le_of_ble_eq_true rfl) ?_; (case ho | hg | hn => rfl); (case hr => go_simp; first | done | rfl); intro w302 hk B G; replace Rp6 := rkn Rp6 hk NB7_p6; replace F7 := G; clear c7_0 c7_1 c7_2; obtain ⟨c7_0, c7_1, c7_2⟩ := cs3 F7; clear hk y0 z0 y1 z1 y2 z2)
      | (go_at_call 109; with_reducible refine cr (impl_SessionPut.M _ _ p y.f0 y.f1 y.f2 _ (rc Rp6) (rl Rp6)) B fun AU303 kU303 w303 hb B RU303 QU303 => ?_; replace Rp6 := rn Rp6 hb; clear QU303; clear hb))
     go_roundg d
     case measure => omega
     case rel => exact ⟨j + 1, _, congrArg (Value.int .i64) (Int.natCast_succ _).symm, by omega, by omega, B, RU303, HT⟩
    | false =>
     rw [hx, if_neg (by simp)] at hne
     rw [← hne] at HT
     clear hne
     go_wp2_with (first
      | ((with_reducible refine gate_dst (N := 7) rfl ?_); refine bx ?hg (N := 7) ?hd (cs := #[.int .i64 (0), .int .i64 (0), .int .i64 (0)]) (t := 100) ?hr B ?_; (case hd | hg => rfl); (case hr => go_simp; first | done | rfl); intro g7 w401 hb B F7 L7 E7; have NB7_p6 := nbx E7 Rp6; replace Rp6 := rn Rp6 hb; obtain ⟨c7_0, c7_1, c7_2⟩ := cs3 F7; clear hb E7)
      | ((with_reducible refine gate_store (t := 100) (p := 7) rfl ?_); obtain ⟨y0, y1, y2, z0, z1, z2⟩ := cz3 F7; refine sx (t := 100) (t' := 100) (p := 7) (v := ?vo402) ?hg ?ho ?hn 0 [.int .i64 (y.f0), .int .i64 (y.f1), .int .i64 (y.f2)] [.int .i64 (y.f0), .int .i64 (y.f1), .int .i64 (y.f2)] ?hr B F7 L7 rfl (Nat.le_of_ble_eq_true rfl) ?_; (case ho | hg | hn => rfl); (case hr => go_simp; first | done | rfl); intro w402 hk B G; replace Rp6 := rkn Rp6 hk NB7_p6; replace F7 := G; clear c7_0 c7_1 c7_2; obtain ⟨c7_0, c7_1, c7_2⟩ := cs3 F7; clear hk y0 z0 y1 z1 y2 z2)
      | (go_at_call 109; with_reducible refine cr (impl_SessionPut.M _ _ p y.f0 y.f1 y.f2 _ (rc Rp6) (rl Rp6)) B fun AU403 kU403 w403 hb B RU403 QU403 => ?_; replace Rp6 := rn Rp6 hb; clear QU403; clear hb))
     go_roundg d
     case measure => omega
     case rel => exact ⟨j + 1, p, congrArg (Value.int .i64) (Int.natCast_succ _).symm, by omega, by omega, B, Rp6, HT⟩
   ·have cj : decide ((j : Int) < (m.length : Int)) = false := decide_eq_false (by omega)
    have hr := H.out.2
    rw [List.drop_of_length_le (by omega)] at hr
    have hr2 : p = r := hr
    subst hr2
    clear hr H
    go_wp2
    go_ret
    exact ⟨_, rfl, Rp6.out, B.out⟩
 ·rw [show joinB l m = [] from if_neg hv]
  have hvn : (!sesB l || !sesB m) = true := by cases h1 : sesB l <;> cases h2 : sesB m <;> simp_all
  cases h1 : sesB l with
  | false =>
   go_enter Try.func83, Try.ntmps83
   go_wp2_with (first
    | (go_at_call 57; with_reducible refine cl (impl_SessionsValid.M _ _ l _ (cb HR0 B)) B fun w1 hb B => ?_; clear hb)
    | (go_at_call 57; with_reducible refine cl (impl_SessionsValid.M _ _ m _ (cb HR1 B)) B fun w2 hb B => ?_; clear hb))
   go_ret
   exact ⟨_, rfl, Kd.R_nil _ _ _ _ _, B.out⟩
  | true =>
   have h2 : sesB m = false := by cases h2 : sesB m <;> simp_all
   clear hvn hv
   go_enter Try.func83, Try.ntmps83
   go_wp2_with (first
    | (go_at_call 57; with_reducible refine cl (impl_SessionsValid.M _ _ l _ (cb HR0 B)) B fun w1 hb B => ?_; clear hb)
    | (go_at_call 57; with_reducible refine cl (impl_SessionsValid.M _ _ m _ (cb HR1 B)) B fun w2 hb B => ?_; clear hb))
   go_ret
   exact ⟨_, rfl, Kd.R_nil _ _ _ _ _, B.out⟩

theorem sj_bad {s u : SM} (h : joinOk s u = false) : sjM s u = (SM.zero, false) := if_neg (by rw [h]; simp)
theorem sj_good {s u : SM} (h : joinOk s u = true) : sjM s u = (⟨s.a, u.b, s.ps ++ u.ps, joinB s.ss u.ss, false, ⟨#[]⟩⟩, true) := if_pos h

def impl_StateJoin.T9 : Bool × List (List Nat × List Nat) := (true, [([], []), ([], []), ([], []), ([2], [2]), ([], []), ([4], [4]), ([3, 5], [3, 5]), ([0, 1, 6], [0, 1, 6]), ([7, 6, 0, 1, 2, 3, 4, 5, 6, 7], [7]), ([8, 0, 1, 2, 3, 4, 5, 6, 7, 8], [])])
def impl_StateJoin.B9 : List Nat := [0, 0, 0, 4, 0, 16, 60, 127, 255, 511]
theorem impl_StateJoin.tab9 : rtab .any (opsOf Try.f40 9) = impl_StateJoin.T9 := by kernel_rfl
theorem impl_StateJoin.bits9 : waitsOk impl_StateJoin.T9.2 impl_StateJoin.B9 = true := by kernel_rfl
theorem impl_StateJoin.M (a b : ByteArray) (AP : Option Addr) (cP : Nat) (ps : List S61) (AS : Option Addr) (cS : Nat) (ss : List S100) (t : Bool) (c : ByteArray) (lo hi : ByteArray) (AQ : Option Addr) (cQ : Nat) (qs : List S61) (AU : Option Addr) (cU : Nat) (us : List S100) (u2 : Bool) (ct : ByteArray) (w : World) (hrp : Kd.C k61 w AP ps.length ps) (hrs : Kd.C k100 w AS ss.length ss) (hrq : Kd.C k61 w AQ qs.length qs) (hru : Kd.C k100 w AU us.length us) (hcp : ps.length ≤ cP) (hcs : ss.length ≤ cS) (hcq : qs.length ≤ cQ) (hcu : us.length ≤ cU) : Calls Try.prog 40 #[.agg #[.string a, .string b, .slice AP ps.length cP, .slice AS ss.length cS, .bool t, .string c], .agg #[.string lo, .string hi, .slice AQ qs.length cQ, .slice AU us.length cU, .bool u2, .string ct]] w fun e w' => ∃ v2 v3, e = .returned (.tuple #[.agg #[.string (sjM ⟨a, b, ps, ss, t, c⟩ ⟨lo, hi, qs, us, u2, ct⟩).1.a, .string (sjM ⟨a, b, ps, ss, t, c⟩ ⟨lo, hi, qs, us, u2, ct⟩).1.b, v2, v3, .bool (sjM ⟨a, b, ps, ss, t, c⟩ ⟨lo, hi, qs, us, u2, ct⟩).1.t, .string (sjM ⟨a, b, ps, ss, t, c⟩ ⟨lo, hi, qs, us, u2, ct⟩).1.c], .bool (sjM ⟨a, b, ps, ss, t, c⟩ ⟨lo, hi, qs, us, u2, ct⟩).2]) ∧ Kd.R k61 61 w' w.heap.size (fun _ => True) v2 (sjM ⟨a, b, ps, ss, t, c⟩ ⟨lo, hi, qs, us, u2, ct⟩).1.ps ∧ Kd.R k100 100 w' w.heap.size (fun _ => True) v3 (sjM ⟨a, b, ps, ss, t, c⟩ ⟨lo, hi, qs, us, u2, ct⟩).1.ss ∧ Below w.heap.size w w' := by
 have B := Aside0.mk (Below.refl w.heap.size w)
 have hu := Try.underlying34
 have hu2 := Try.underlying30
 have HRP := Aside0.mk hrp
 have HRS := Aside0.mk hrs
 have HRQ := Aside0.mk hrq
 have HRU := Aside0.mk hru
 have HCP := Aside0.mk hcp
 have HCS := Aside0.mk hcs
 have HCQ := Aside0.mk hcq
 have HCU := Aside0.mk hcu
 clear hrp hrs hrq hru hcp hcs hcq hcu
 cases hs : stB a b ps ss t c with
 | false =>
  rw [sj_bad (show joinOk ⟨a, b, ps, ss, t, c⟩ ⟨lo, hi, qs, us, u2, ct⟩ = false by unfold joinOk SM.ok; rw [hs]; rfl)]
  go_enter Try.func40, Try.ntmps40
  go_wp2_with (first
   | ((with_reducible refine gate_dst (N := 2) rfl ?_); refine bx ?hg (N := 2) ?hd (cs := #[.string a, .string b, .slice AP ps.length cP, .slice AS ss.length cS, .bool t, .string c]) (t := 34) ?hr B ?_; (case hd | hg => rfl); (case hr => go_simp; first | done | rfl); intro g2 w1 hb B F2 L2 E2; obtain ⟨c2_0, c2_1, c2_2, c2_3, c2_4, c2_5⟩ := cs6 F2; clear hb E2)
   | ((with_reducible refine gate_dst (N := 3) rfl ?_); refine bx ?hg (N := 3) ?hd (cs := #[.string lo, .string hi, .slice AQ qs.length cQ, .slice AU us.length cU, .bool u2, .string ct]) (t := 34) ?hr B ?_; (case hd | hg => rfl); (case hr => go_simp; first | done | rfl); intro g3 w2 hb B F3 L3 E3; replace F2 := bn F2 hb; clear c2_0 c2_1 c2_2 c2_3 c2_4 c2_5; obtain ⟨c2_0, c2_1, c2_2, c2_3, c2_4, c2_5⟩ := cs6 F2; obtain ⟨c3_0, c3_1, c3_2, c3_3, c3_4, c3_5⟩ := cs6 F3; clear hb E3)
   | ((with_reducible refine gate_dst (N := 4) rfl ?_); refine bx ?hg (N := 4) ?hd (cs := #[.string (⟨#[]⟩ : ByteArray), .string (⟨#[]⟩ : ByteArray), .slice none 0 0, .slice none 0 0, .bool false, .string (⟨#[]⟩ : ByteArray)]) (t := 34) ?hr B ?_; (case hd | hg => rfl); (case hr => go_simp; first | done | rfl); intro g4 w3 hb B F4 L4 E4; have N2_4 := ne1 E4 F2; have N3_4 := ne1 E4 F3; replace F2 := bn F2 hb; replace F3 := bn F3 hb; clear c2_0 c2_1 c2_2 c2_3 c2_4 c2_5; obtain ⟨c2_0, c2_1, c2_2, c2_3, c2_4, c2_5⟩ := cs6 F2; clear c3_0 c3_1 c3_2 c3_3 c3_4 c3_5; obtain ⟨c3_0, c3_1, c3_2, c3_3, c3_4, c3_5⟩ := cs6 F3; clear hb E4)
   | (go_at_call 14; with_reducible refine cl (impl_StateValid.M a b _ _ ps _ _ ss t c _ (cb HRP B) (cb HRS B)) B fun w4 hb B => ?_; replace F2 := bn F2 hb; replace F3 := bn F3 hb; replace F4 := bn F4 hb; clear c2_0 c2_1 c2_2 c2_3 c2_4 c2_5; obtain ⟨c2_0, c2_1, c2_2, c2_3, c2_4, c2_5⟩ := cs6 F2; clear c3_0 c3_1 c3_2 c3_3 c3_4 c3_5; obtain ⟨c3_0, c3_1, c3_2, c3_3, c3_4, c3_5⟩ := cs6 F3; clear hb)
   | (go_at_call 14; with_reducible refine cl (impl_StateValid.M lo hi _ _ qs _ _ us u2 ct _ (cb HRQ B) (cb HRU B)) B fun w5 hb B => ?_; replace F2 := bn F2 hb; replace F3 := bn F3 hb; replace F4 := bn F4 hb; clear c2_0 c2_1 c2_2 c2_3 c2_4 c2_5; obtain ⟨c2_0, c2_1, c2_2, c2_3, c2_4, c2_5⟩ := cs6 F2; clear c3_0 c3_1 c3_2 c3_3 c3_4 c3_5; obtain ⟨c3_0, c3_1, c3_2, c3_3, c3_4, c3_5⟩ := cs6 F3; clear hb)
   | ((with_reducible refine gate_store (t := 34) (p := 4) rfl ?_); obtain ⟨y0, y1, y2, y3, y4, y5, z0, z1, z2, z3, z4, z5⟩ := cz6 F4; refine sx (t := 34) (t' := 34) (p := 4) (v := ?vo6) ?hg ?ho ?hn 0 [.string (⟨#[]⟩ : ByteArray), .string (⟨#[]⟩ : ByteArray), .slice none 0 0, .slice none 0 0, .bool false, .string (⟨#[]⟩ : ByteArray)] [.string (⟨#[]⟩ : ByteArray), .string (⟨#[]⟩ : ByteArray), .slice none 0 0, .slice none 0 0, .bool false, .string (⟨#[]⟩ : ByteArray)] ?hr B F4 L4 rfl (Nat.le_of_ble_eq_true rfl) ?_; (case ho | hg | hn => rfl); (case hr => go_simp; first | done | rfl); intro w6 hk B G; replace F2 := bk F2 hk N2_4.out; replace F3 := bk F3 hk N3_4.out; replace F4 := G; clear hk y0 z0 y1 z1 y2 z2 y3 z3 y4 z4 y5 z5))
  all_goals (refine bodyPost_ret (results_list (rs := [.cell 4 34, .tmp 5]) rfl (by simp) (.cell g4 34 _ (0, 0) _ rfl F4.out hu rfl (by kernel_rfl) (.tmp .nil))) rfl ?_; exact ⟨_, _, rfl, Kd.R_nil _ _ _ _ _, Kd.R_nil _ _ _ _ _, B.out⟩)
 | true =>
  cases hu_ : stB lo hi qs us u2 ct with
  | false =>
   rw [sj_bad (show joinOk ⟨a, b, ps, ss, t, c⟩ ⟨lo, hi, qs, us, u2, ct⟩ = false by unfold joinOk SM.ok; rw [hs, hu_]; rfl)]
   go_enter Try.func40, Try.ntmps40
   go_wp2_with (first
    | ((with_reducible refine gate_dst (N := 2) rfl ?_); refine bx ?hg (N := 2) ?hd (cs := #[.string a, .string b, .slice AP ps.length cP, .slice AS ss.length cS, .bool t, .string c]) (t := 34) ?hr B ?_; (case hd | hg => rfl); (case hr => go_simp; first | done | rfl); intro g2 w101 hb B F2 L2 E2; obtain ⟨c2_0, c2_1, c2_2, c2_3, c2_4, c2_5⟩ := cs6 F2; clear hb E2)
    | ((with_reducible refine gate_dst (N := 3) rfl ?_); refine bx ?hg (N := 3) ?hd (cs := #[.string lo, .string hi, .slice AQ qs.length cQ, .slice AU us.length cU, .bool u2, .string ct]) (t := 34) ?hr B ?_; (case hd | hg => rfl); (case hr => go_simp; first | done | rfl); intro g3 w102 hb B F3 L3 E3; replace F2 := bn F2 hb; clear c2_0 c2_1 c2_2 c2_3 c2_4 c2_5; obtain ⟨c2_0, c2_1, c2_2, c2_3, c2_4, c2_5⟩ := cs6 F2; obtain ⟨c3_0, c3_1, c3_2, c3_3, c3_4, c3_5⟩ := cs6 F3; clear hb E3)
    | ((with_reducible refine gate_dst (N := 4) rfl ?_); refine bx ?hg (N := 4) ?hd (cs := #[.string (⟨#[]⟩ : ByteArray), .string (⟨#[]⟩ : ByteArray), .slice none 0 0, .slice none 0 0, .bool false, .string (⟨#[]⟩ : ByteArray)]) (t := 34) ?hr B ?_; (case hd | hg => rfl); (case hr => go_simp; first | done | rfl); intro g4 w103 hb B F4 L4 E4; have N2_4 := ne1 E4 F2; have N3_4 := ne1 E4 F3; replace F2 := bn F2 hb; replace F3 := bn F3 hb; clear c2_0 c2_1 c2_2 c2_3 c2_4 c2_5; obtain ⟨c2_0, c2_1, c2_2, c2_3, c2_4, c2_5⟩ := cs6 F2; clear c3_0 c3_1 c3_2 c3_3 c3_4 c3_5; obtain ⟨c3_0, c3_1, c3_2, c3_3, c3_4, c3_5⟩ := cs6 F3; clear hb E4)
    | (go_at_call 14; with_reducible refine cl (impl_StateValid.M a b _ _ ps _ _ ss t c _ (cb HRP B) (cb HRS B)) B fun w104 hb B => ?_; replace F2 := bn F2 hb; replace F3 := bn F3 hb; replace F4 := bn F4 hb; clear c2_0 c2_1 c2_2 c2_3 c2_4 c2_5; obtain ⟨c2_0, c2_1, c2_2, c2_3, c2_4, c2_5⟩ := cs6 F2; clear c3_0 c3_1 c3_2 c3_3 c3_4 c3_5; obtain ⟨c3_0, c3_1, c3_2, c3_3, c3_4, c3_5⟩ := cs6 F3; clear hb)
    | (go_at_call 14; with_reducible refine cl (impl_StateValid.M lo hi _ _ qs _ _ us u2 ct _ (cb HRQ B) (cb HRU B)) B fun w105 hb B => ?_; replace F2 := bn F2 hb; replace F3 := bn F3 hb; replace F4 := bn F4 hb; clear c2_0 c2_1 c2_2 c2_3 c2_4 c2_5; obtain ⟨c2_0, c2_1, c2_2, c2_3, c2_4, c2_5⟩ := cs6 F2; clear c3_0 c3_1 c3_2 c3_3 c3_4 c3_5; obtain ⟨c3_0, c3_1, c3_2, c3_3, c3_4, c3_5⟩ := cs6 F3; clear hb)
    | ((with_reducible refine gate_store (t := 34) (p := 4) rfl ?_); obtain ⟨y0, y1, y2, y3, y4, y5, z0, z1, z2, z3, z4, z5⟩ := cz6 F4; refine sx (t := 34) (t' := 34) (p := 4) (v := ?vo106) ?hg ?ho ?hn 0 [.string (⟨#[]⟩ : ByteArray), .string (⟨#[]⟩ : ByteArray), .slice none 0 0, .slice none 0 0, .bool false, .string (⟨#[]⟩ : ByteArray)] [.string (⟨#[]⟩ : ByteArray), .string (⟨#[]⟩ : ByteArray), .slice none 0 0, .slice none 0 0, .bool false, .string (⟨#[]⟩ : ByteArray)] ?hr B F4 L4 rfl (Nat.le_of_ble_eq_true rfl) ?_; (case ho | hg | hn => rfl); (case hr => go_simp; first | done | rfl); intro w106 hk B G; replace F2 := bk F2 hk N2_4.out; replace F3 := bk F3 hk N3_4.out; replace F4 := G; clear hk y0 z0 y1 z1 y2 z2 y3 z3 y4 z4 y5 z5))
   all_goals (refine bodyPost_ret (results_list (rs := [.cell 4 34, .tmp 5]) rfl (by simp) (.cell g4 34 _ (0, 0) _ rfl F4.out hu rfl (by kernel_rfl) (.tmp .nil))) rfl ?_; exact ⟨_, _, rfl, Kd.R_nil _ _ _ _ _, Kd.R_nil _ _ _ _ _, B.out⟩)
  | true =>
   obtain ⟨hiv1, hp1, hs1, -, -⟩ := stB_parts.mp hs
   obtain ⟨hiv2, hp2, hs2, -, -⟩ := stB_parts.mp hu_
   have hl1 := prB_len hp1
   have hl2 := prB_len hp2
   by_cases hfl : (t = true ∧ u2 = true) ∧ (c.toList = ([] : List UInt8) ∧ ct.toList = ([] : List UInt8))
   ·obtain ⟨⟨rfl, rfl⟩, hc0, hh0⟩ := hfl
    have dc : (c.toList == ([] : List UInt8)) = true := by simp [hc0]
    have dh : (ct.toList == ([] : List UInt8)) = true := by simp [hh0]
    cases hij : ijB a b lo hi with
    | false =>
     rw [sj_bad (show joinOk ⟨a, b, ps, ss, true, c⟩ ⟨lo, hi, qs, us, true, ct⟩ = false by unfold joinOk SM.ok; rw [hs, hu_, hij, decide_eq_true hc0, decide_eq_true hh0]; rfl)]
     go_enter Try.func40, Try.ntmps40
     go_wp2_with (first
      | ((with_reducible refine gate_dst (N := 2) rfl ?_); refine bx ?hg (N := 2) ?hd (cs := #[.string a, .string b, .slice AP ps.length cP, .slice AS ss.length cS, .bool true, .string c]) (t := 34) ?hr B ?_; (case hd | hg => rfl); (case hr => go_simp; first | done | rfl); intro g2 w301 hb B F2 L2 E2; obtain ⟨c2_0, c2_1, c2_2, c2_3, c2_4, c2_5⟩ := cs6 F2; clear hb E2)
      | ((with_reducible refine gate_dst (N := 3) rfl ?_); refine bx ?hg (N := 3) ?hd (cs := #[.string lo, .string hi, .slice AQ qs.length cQ, .slice AU us.length cU, .bool true, .string ct]) (t := 34) ?hr B ?_; (case hd | hg => rfl); (case hr => go_simp; first | done | rfl); intro g3 w302 hb B F3 L3 E3; replace F2 := bn F2 hb; clear c2_0 c2_1 c2_2 c2_3 c2_4 c2_5; obtain ⟨c2_0, c2_1, c2_2, c2_3, c2_4, c2_5⟩ := cs6 F2; obtain ⟨c3_0, c3_1, c3_2, c3_3, c3_4, c3_5⟩ := cs6 F3; clear hb E3)
      | ((with_reducible refine gate_dst (N := 4) rfl ?_); refine bx ?hg (N := 4) ?hd (cs := #[.string (⟨#[]⟩ : ByteArray), .string (⟨#[]⟩ : ByteArray), .slice none 0 0, .slice none 0 0, .bool false, .string (⟨#[]⟩ : ByteArray)]) (t := 34) ?hr B ?_; (case hd | hg => rfl); (case hr => go_simp; first | done | rfl); intro g4 w303 hb B F4 L4 E4; have N2_4 := ne1 E4 F2; have N3_4 := ne1 E4 F3; replace F2 := bn F2 hb; replace F3 := bn F3 hb; clear c2_0 c2_1 c2_2 c2_3 c2_4 c2_5; obtain ⟨c2_0, c2_1, c2_2, c2_3, c2_4, c2_5⟩ := cs6 F2; clear c3_0 c3_1 c3_2 c3_3 c3_4 c3_5; obtain ⟨c3_0, c3_1, c3_2, c3_3, c3_4, c3_5⟩ := cs6 F3; clear hb E4)
      | (go_at_call 14; with_reducible refine cl (impl_StateValid.M a b _ _ ps _ _ ss true c _ (cb HRP B) (cb HRS B)) B fun w304 hb B => ?_; replace F2 := bn F2 hb; replace F3 := bn F3 hb; replace F4 := bn F4 hb; clear c2_0 c2_1 c2_2 c2_3 c2_4 c2_5; obtain ⟨c2_0, c2_1, c2_2, c2_3, c2_4, c2_5⟩ := cs6 F2; clear c3_0 c3_1 c3_2 c3_3 c3_4 c3_5; obtain ⟨c3_0, c3_1, c3_2, c3_3, c3_4, c3_5⟩ := cs6 F3; clear hb)
      | (go_at_call 14; with_reducible refine cl (impl_StateValid.M lo hi _ _ qs _ _ us true ct _ (cb HRQ B) (cb HRU B)) B fun w305 hb B => ?_; replace F2 := bn F2 hb; replace F3 := bn F3 hb; replace F4 := bn F4 hb; clear c2_0 c2_1 c2_2 c2_3 c2_4 c2_5; obtain ⟨c2_0, c2_1, c2_2, c2_3, c2_4, c2_5⟩ := cs6 F2; clear c3_0 c3_1 c3_2 c3_3 c3_4 c3_5; obtain ⟨c3_0, c3_1, c3_2, c3_3, c3_4, c3_5⟩ := cs6 F3; clear hb)
      | (go_at_call 81; with_reducible refine cl (impl_IntervalJoin.Mf a b lo hi hij _) B fun w306 hb B => ?_; replace F2 := bn F2 hb; replace F3 := bn F3 hb; replace F4 := bn F4 hb; clear hb)
      | ((with_reducible refine gate_dst (N := 6) rfl ?_); refine bx ?hg (N := 6) ?hd (cs := #[.string (⟨#[]⟩ : ByteArray), .string (⟨#[]⟩ : ByteArray)]) (t := 30) ?hr B ?_; (case hd | hg => rfl); (case hr => go_simp; first | done | rfl); intro g6 w307 hb B F6 L6 E6; have N2_6 := ne1 E6 F2; have N3_6 := ne1 E6 F3; have N4_6 := ne1 E6 F4; replace F2 := bn F2 hb; replace F3 := bn F3 hb; replace F4 := bn F4 hb; clear hb E6)
      | ((with_reducible refine gate_store (t := 30) (p := 6) rfl ?_); obtain ⟨y0, y1, z0, z1⟩ := cz2 F6; refine sx (t := 30) (t' := 30) (p := 6) (v := ?vo308) ?hg ?ho ?hn 0 [.string (⟨#[]⟩ : ByteArray), .string (⟨#[]⟩ : ByteArray)] [.string (⟨#[]⟩ : ByteArray), .string (⟨#[]⟩ : ByteArray)] ?hr B F6 L6 rfl (Nat.le_of_ble_eq_true rfl) ?_; (case ho | hg | hn => rfl); (case hr => go_simp; first | done | rfl); intro w308 hk B G; replace F2 := bk F2 hk N2_6.out; replace F3 := bk F3 hk N3_6.out; replace F4 := bk F4 hk N4_6.out; replace F6 := G; clear hk y0 z0 y1 z1)
      | ((with_reducible refine gate_store (t := 34) (p := 4) rfl ?_); obtain ⟨y0, y1, y2, y3, y4, y5, z0, z1, z2, z3, z4, z5⟩ := cz6 F4; refine sx (t := 34) (t' := 34) (p := 4) (v := ?vo309) ?hg ?ho ?hn 0 [.string (⟨#[]⟩ : ByteArray), .string (⟨#[]⟩ : ByteArray), .slice none 0 0, .slice none 0 0, .bool false, .string (⟨#[]⟩ : ByteArray)] [.string (⟨#[]⟩ : ByteArray), .string (⟨#[]⟩ : ByteArray), .slice none 0 0, .slice none 0 0, .bool false, .string (⟨#[]⟩ : ByteArray)] ?hr B F4 L4 rfl (Nat.le_of_ble_eq_true rfl) ?_; (case ho | hg | hn => rfl); (case hr => go_simp; first | done | rfl); intro w309 hk B G; replace F2 := bk F2 hk N2_4.out; replace F3 := bk F3 hk N3_4.out; replace F4 := G; clear hk y0 z0 y1 z1 y2 z2 y3 z3 y4 z4 y5 z5))
     all_goals (refine bodyPost_ret (results_list (rs := [.cell 4 34, .tmp 5]) rfl (by simp) (.cell g4 34 _ (0, 0) _ rfl F4.out hu rfl (by kernel_rfl) (.tmp .nil))) rfl ?_; exact ⟨_, _, rfl, Kd.R_nil _ _ _ _ _, Kd.R_nil _ _ _ _ _, B.out⟩)
    | true =>
     cases hpj : pjB ps qs with
     | false =>
      rw [sj_bad (show joinOk ⟨a, b, ps, ss, true, c⟩ ⟨lo, hi, qs, us, true, ct⟩ = false by unfold joinOk SM.ok; rw [hs, hu_, hij, hpj, decide_eq_true hc0, decide_eq_true hh0]; rfl)]
      go_enter Try.func40, Try.ntmps40
      go_wp2_with (first
       | ((with_reducible refine gate_dst (N := 2) rfl ?_); refine bx ?hg (N := 2) ?hd (cs := #[.string a, .string b, .slice AP ps.length cP, .slice AS ss.length cS, .bool true, .string c]) (t := 34) ?hr B ?_; (case hd | hg => rfl); (case hr => go_simp; first | done | rfl); intro g2 w401 hb B F2 L2 E2; obtain ⟨c2_0, c2_1, c2_2, c2_3, c2_4, c2_5⟩ := cs6 F2; clear hb E2)
       | ((with_reducible refine gate_dst (N := 3) rfl ?_); refine bx ?hg (N := 3) ?hd (cs := #[.string lo, .string hi, .slice AQ qs.length cQ, .slice AU us.length cU, .bool true, .string ct]) (t := 34) ?hr B ?_; (case hd | hg => rfl); (case hr => go_simp; first | done | rfl); intro g3 w402 hb B F3 L3 E3; replace F2 := bn F2 hb; clear c2_0 c2_1 c2_2 c2_3 c2_4 c2_5; obtain ⟨c2_0, c2_1, c2_2, c2_3, c2_4, c2_5⟩ := cs6 F2; obtain ⟨c3_0, c3_1, c3_2, c3_3, c3_4, c3_5⟩ := cs6 F3; clear hb E3)
       | ((with_reducible refine gate_dst (N := 4) rfl ?_); refine bx ?hg (N := 4) ?hd (cs := #[.string (⟨#[]⟩ : ByteArray), .string (⟨#[]⟩ : ByteArray), .slice none 0 0, .slice none 0 0, .bool false, .string (⟨#[]⟩ : ByteArray)]) (t := 34) ?hr B ?_; (case hd | hg => rfl); (case hr => go_simp; first | done | rfl); intro g4 w403 hb B F4 L4 E4; have N2_4 := ne1 E4 F2; have N3_4 := ne1 E4 F3; replace F2 := bn F2 hb; replace F3 := bn F3 hb; clear c2_0 c2_1 c2_2 c2_3 c2_4 c2_5; obtain ⟨c2_0, c2_1, c2_2, c2_3, c2_4, c2_5⟩ := cs6 F2; clear c3_0 c3_1 c3_2 c3_3 c3_4 c3_5; obtain ⟨c3_0, c3_1, c3_2, c3_3, c3_4, c3_5⟩ := cs6 F3; clear hb E4)
       | (go_at_call 14; with_reducible refine cl (impl_StateValid.M a b _ _ ps _ _ ss true c _ (cb HRP B) (cb HRS B)) B fun w404 hb B => ?_; replace F2 := bn F2 hb; replace F3 := bn F3 hb; replace F4 := bn F4 hb; clear c2_0 c2_1 c2_2 c2_3 c2_4 c2_5; obtain ⟨c2_0, c2_1, c2_2, c2_3, c2_4, c2_5⟩ := cs6 F2; clear c3_0 c3_1 c3_2 c3_3 c3_4 c3_5; obtain ⟨c3_0, c3_1, c3_2, c3_3, c3_4, c3_5⟩ := cs6 F3; clear hb)
       | (go_at_call 14; with_reducible refine cl (impl_StateValid.M lo hi _ _ qs _ _ us true ct _ (cb HRQ B) (cb HRU B)) B fun w405 hb B => ?_; replace F2 := bn F2 hb; replace F3 := bn F3 hb; replace F4 := bn F4 hb; clear c2_0 c2_1 c2_2 c2_3 c2_4 c2_5; obtain ⟨c2_0, c2_1, c2_2, c2_3, c2_4, c2_5⟩ := cs6 F2; clear c3_0 c3_1 c3_2 c3_3 c3_4 c3_5; obtain ⟨c3_0, c3_1, c3_2, c3_3, c3_4, c3_5⟩ := cs6 F3; clear hb)
       | (go_at_call 81; with_reducible refine cl (impl_IntervalJoin.Mt a b lo hi hij _) B fun w406 hb B => ?_; replace F2 := bn F2 hb; replace F3 := bn F3 hb; replace F4 := bn F4 hb; clear c2_0 c2_1 c2_2 c2_3 c2_4 c2_5; obtain ⟨c2_0, c2_1, c2_2, c2_3, c2_4, c2_5⟩ := cs6 F2; clear c3_0 c3_1 c3_2 c3_3 c3_4 c3_5; obtain ⟨c3_0, c3_1, c3_2, c3_3, c3_4, c3_5⟩ := cs6 F3; clear hb)
       | ((with_reducible refine gate_dst (N := 6) rfl ?_); refine bx ?hg (N := 6) ?hd (cs := #[.string (⟨#[]⟩ : ByteArray), .string (⟨#[]⟩ : ByteArray)]) (t := 30) ?hr B ?_; (case hd | hg => rfl); (case hr => go_simp; first | done | rfl); intro g6 w407 hb B F6 L6 E6; have N2_6 := ne1 E6 F2; have N3_6 := ne1 E6 F3; have N4_6 := ne1 E6 F4; replace F2 := bn F2 hb; replace F3 := bn F3 hb; replace F4 := bn F4 hb; clear c2_0 c2_1 c2_2 c2_3 c2_4 c2_5; obtain ⟨c2_0, c2_1, c2_2, c2_3, c2_4, c2_5⟩ := cs6 F2; clear c3_0 c3_1 c3_2 c3_3 c3_4 c3_5; obtain ⟨c3_0, c3_1, c3_2, c3_3, c3_4, c3_5⟩ := cs6 F3; clear hb E6)
       | ((with_reducible refine gate_store (t := 30) (p := 6) rfl ?_); obtain ⟨y0, y1, z0, z1⟩ := cz2 F6; refine sx (t := 30) (t' := 30) (p := 6) (v := ?vo408) ?hg ?ho ?hn 0 [.string a, .string hi] [.string a, .string hi] ?hr B F6 L6 rfl (Nat.le_of_ble_eq_true rfl) ?_; (case ho | hg | hn => rfl); (case hr => go_simp; first | done | rfl); intro w408 hk B G; replace F2 := bk F2 hk N2_6.out; replace F3 := bk F3 hk N3_6.out; replace F4 := bk F4 hk N4_6.out; replace F6 := G; clear c2_0 c2_1 c2_2 c2_3 c2_4 c2_5; obtain ⟨c2_0, c2_1, c2_2, c2_3, c2_4, c2_5⟩ := cs6 F2; clear c3_0 c3_1 c3_2 c3_3 c3_4 c3_5; obtain ⟨c3_0, c3_1, c3_2, c3_3, c3_4, c3_5⟩ := cs6 F3; clear hk y0 z0 y1 z1)
       | (go_at_call 82; with_reducible refine crz (impl_PairsJoin.Mf _ _ ps _ _ qs hpj _ (cb HRP B) HCP.out (cb HRQ B) HCQ.out (by omega) (by omega)) B fun zJ409 hzJ409 AJ409 kJ409 w409 hb B RJ409 QJ409 => ?_; replace F2 := bn F2 hb; replace F3 := bn F3 hb; replace F4 := bn F4 hb; clear QJ409; clear hb)
       | ((with_reducible refine gate_store (t := 34) (p := 4) rfl ?_); obtain ⟨y0, y1, y2, y3, y4, y5, z0, z1, z2, z3, z4, z5⟩ := cz6 F4; refine sx (t := 34) (t' := 34) (p := 4) (v := ?vo410) ?hg ?ho ?hn 0 [.string (⟨#[]⟩ : ByteArray), .string (⟨#[]⟩ : ByteArray), .slice none 0 0, .slice none 0 0, .bool false, .string (⟨#[]⟩ : ByteArray)] [.string (⟨#[]⟩ : ByteArray), .string (⟨#[]⟩ : ByteArray), .slice none 0 0, .slice none 0 0, .bool false, .string (⟨#[]⟩ : ByteArray)] ?hr B F4 L4 rfl (Nat.le_of_ble_eq_true rfl) ?_; (case ho | hg | hn => rfl); (case hr => go_simp; first | done | rfl); intro w410 hk B G; replace F2 := bk F2 hk N2_4.out; replace F3 := bk F3 hk N3_4.out; replace RJ409 := rk RJ409 F4 (by decide) hk; replace F4 := G; clear hk y0 z0 y1 z1 y2 z2 y3 z3 y4 z4 y5 z5))
      all_goals (refine bodyPost_ret (results_list (rs := [.cell 4 34, .tmp 5]) rfl (by simp) (.cell g4 34 _ (0, 0) _ rfl F4.out hu rfl (by kernel_rfl) (.tmp .nil))) rfl ?_; exact ⟨_, _, rfl, Kd.R_nil _ _ _ _ _, Kd.R_nil _ _ _ _ _, B.out⟩)
     | true =>
      rw [sj_good (show joinOk ⟨a, b, ps, ss, true, c⟩ ⟨lo, hi, qs, us, true, ct⟩ = true by unfold joinOk SM.ok; rw [hs, hu_, hij, hpj, decide_eq_true hc0, decide_eq_true hh0]; rfl)]
      go_enter Try.func40, Try.ntmps40
      go_wp2_with (first
       | ((with_reducible refine gate_dst (N := 2) rfl ?_); refine bx ?hg (N := 2) ?hd (cs := #[.string a, .string b, .slice AP ps.length cP, .slice AS ss.length cS, .bool true, .string c]) (t := 34) ?hr B ?_; (case hd | hg => rfl); (case hr => go_simp; first | done | rfl); intro g2 w501 hb B F2 L2 E2; obtain ⟨c2_0, c2_1, c2_2, c2_3, c2_4, c2_5⟩ := cs6 F2; clear hb E2)
       | ((with_reducible refine gate_dst (N := 3) rfl ?_); refine bx ?hg (N := 3) ?hd (cs := #[.string lo, .string hi, .slice AQ qs.length cQ, .slice AU us.length cU, .bool true, .string ct]) (t := 34) ?hr B ?_; (case hd | hg => rfl); (case hr => go_simp; first | done | rfl); intro g3 w502 hb B F3 L3 E3; replace F2 := bn F2 hb; clear c2_0 c2_1 c2_2 c2_3 c2_4 c2_5; obtain ⟨c2_0, c2_1, c2_2, c2_3, c2_4, c2_5⟩ := cs6 F2; obtain ⟨c3_0, c3_1, c3_2, c3_3, c3_4, c3_5⟩ := cs6 F3; clear hb E3)
       | ((with_reducible refine gate_dst (N := 4) rfl ?_); refine bx ?hg (N := 4) ?hd (cs := #[.string (⟨#[]⟩ : ByteArray), .string (⟨#[]⟩ : ByteArray), .slice none 0 0, .slice none 0 0, .bool false, .string (⟨#[]⟩ : ByteArray)]) (t := 34) ?hr B ?_; (case hd | hg => rfl); (case hr => go_simp; first | done | rfl); intro g4 w503 hb B F4 L4 E4; have N2_4 := ne1 E4 F2; have N3_4 := ne1 E4 F3; replace F2 := bn F2 hb; replace F3 := bn F3 hb; clear c2_0 c2_1 c2_2 c2_3 c2_4 c2_5; obtain ⟨c2_0, c2_1, c2_2, c2_3, c2_4, c2_5⟩ := cs6 F2; clear c3_0 c3_1 c3_2 c3_3 c3_4 c3_5; obtain ⟨c3_0, c3_1, c3_2, c3_3, c3_4, c3_5⟩ := cs6 F3; clear hb E4)
       | (go_at_call 14; with_reducible refine cl (impl_StateValid.M a b _ _ ps _ _ ss true c _ (cb HRP B) (cb HRS B)) B fun w504 hb B => ?_; replace F2 := bn F2 hb; replace F3 := bn F3 hb; replace F4 := bn F4 hb; clear c2_0 c2_1 c2_2 c2_3 c2_4 c2_5; obtain ⟨c2_0, c2_1, c2_2, c2_3, c2_4, c2_5⟩ := cs6 F2; clear c3_0 c3_1 c3_2 c3_3 c3_4 c3_5; obtain ⟨c3_0, c3_1, c3_2, c3_3, c3_4, c3_5⟩ := cs6 F3; clear hb)
       | (go_at_call 14; with_reducible refine cl (impl_StateValid.M lo hi _ _ qs _ _ us true ct _ (cb HRQ B) (cb HRU B)) B fun w505 hb B => ?_; replace F2 := bn F2 hb; replace F3 := bn F3 hb; replace F4 := bn F4 hb; clear c2_0 c2_1 c2_2 c2_3 c2_4 c2_5; obtain ⟨c2_0, c2_1, c2_2, c2_3, c2_4, c2_5⟩ := cs6 F2; clear c3_0 c3_1 c3_2 c3_3 c3_4 c3_5; obtain ⟨c3_0, c3_1, c3_2, c3_3, c3_4, c3_5⟩ := cs6 F3; clear hb)
       | (go_at_call 81; with_reducible refine cl (impl_IntervalJoin.Mt a b lo hi hij _) B fun w506 hb B => ?_; replace F2 := bn F2 hb; replace F3 := bn F3 hb; replace F4 := bn F4 hb; clear c2_0 c2_1 c2_2 c2_3 c2_4 c2_5; obtain ⟨c2_0, c2_1, c2_2, c2_3, c2_4, c2_5⟩ := cs6 F2; clear c3_0 c3_1 c3_2 c3_3 c3_4 c3_5; obtain ⟨c3_0, c3_1, c3_2, c3_3, c3_4, c3_5⟩ := cs6 F3; clear hb)
       | ((with_reducible refine gate_dst (N := 6) rfl ?_); refine bx ?hg (N := 6) ?hd (cs := #[.string (⟨#[]⟩ : ByteArray), .string (⟨#[]⟩ : ByteArray)]) (t := 30) ?hr B ?_; (case hd | hg => rfl); (case hr => go_simp; first | done | rfl); intro g6 w507 hb B F6 L6 E6; have N2_6 := ne1 E6 F2; have N3_6 := ne1 E6 F3; have N4_6 := ne1 E6 F4; replace F2 := bn F2 hb; replace F3 := bn F3 hb; replace F4 := bn F4 hb; clear c2_0 c2_1 c2_2 c2_3 c2_4 c2_5; obtain ⟨c2_0, c2_1, c2_2, c2_3, c2_4, c2_5⟩ := cs6 F2; clear c3_0 c3_1 c3_2 c3_3 c3_4 c3_5; obtain ⟨c3_0, c3_1, c3_2, c3_3, c3_4, c3_5⟩ := cs6 F3; obtain ⟨c6_0, c6_1⟩ := cs2 F6; clear hb E6)
       | ((with_reducible refine gate_store (t := 30) (p := 6) rfl ?_); obtain ⟨y0, y1, z0, z1⟩ := cz2 F6; refine sx (t := 30) (t' := 30) (p := 6) (v := ?vo508) ?hg ?ho ?hn 0 [.string a, .string hi] [.string a, .string hi] ?hr B F6 L6 rfl (Nat.le_of_ble_eq_true rfl) ?_; (case ho | hg | hn => rfl); (case hr => go_simp; first | done | rfl); intro w508 hk B G; replace F2 := bk F2 hk N2_6.out; replace F3 := bk F3 hk N3_6.out; replace F4 := bk F4 hk N4_6.out; replace F6 := G; clear c2_0 c2_1 c2_2 c2_3 c2_4 c2_5; obtain ⟨c2_0, c2_1, c2_2, c2_3, c2_4, c2_5⟩ := cs6 F2; clear c3_0 c3_1 c3_2 c3_3 c3_4 c3_5; obtain ⟨c3_0, c3_1, c3_2, c3_3, c3_4, c3_5⟩ := cs6 F3; clear c6_0 c6_1; obtain ⟨c6_0, c6_1⟩ := cs2 F6; clear hk y0 z0 y1 z1)
       | (go_at_call 82; with_reducible refine crz (impl_PairsJoin.Mt _ _ ps _ _ qs hpj _ (cb HRP B) HCP.out (cb HRQ B) HCQ.out (by omega) (by omega)) B fun zJ509 hzJ509 AJ509 kJ509 w509 hb B RJ509 QJ509 => ?_; replace F2 := bn F2 hb; replace F3 := bn F3 hb; replace F4 := bn F4 hb; replace F6 := bn F6 hb; clear QJ509; clear c2_0 c2_1 c2_2 c2_3 c2_4 c2_5; obtain ⟨c2_0, c2_1, c2_2, c2_3, c2_4, c2_5⟩ := cs6 F2; clear c3_0 c3_1 c3_2 c3_3 c3_4 c3_5; obtain ⟨c3_0, c3_1, c3_2, c3_3, c3_4, c3_5⟩ := cs6 F3; clear c6_0 c6_1; obtain ⟨c6_0, c6_1⟩ := cs2 F6; clear hb))
      all_goals (
       refine rg (n := 10) (S := fun W => W.heap[g6]? = some (.cells #[.string a, .string hi] 30 (0, 0)) ∧ W.heap[g2]? = some (.cells #[.string a, .string b, .slice AP ps.length cP, .slice AS ss.length cS, .bool true, .string c] 34 (0, 0)) ∧ W.heap[g3]? = some (.cells #[.string lo, .string hi, .slice AQ qs.length cQ, .slice AU us.length cU, .bool true, .string ct] 34 (0, 0))) (ds := []) #[false, false, false, false, false, false, false, false, false, false] (by kernel_rfl) rfl rfl ⟨F6.out, F2.out, F3.out⟩ id B (fun w510 hb B hHeld => ?_)
       refine with_tabW impl_StateJoin.tab9 impl_StateJoin.bits9 (fun HT_ HW_ => ?_)
       replace F2 := bn F2 hb
       replace F3 := bn F3 hb
       replace F4 := bn F4 hb
       replace F6 := bn F6 hb
       replace RJ509 := rn RJ509 hb
       clear hb
       refine tv 0 (some 60) (v := ?_) (bits 10 1) HT_ HW_ (by kernel_rfl) rfl rfl (fun _ _ _ h => h) (by kernel_rfl) hHeld ?_ ?_; rotate_left; (intro w' hS; obtain ⟨s0, s1, s2⟩ := hS; obtain ⟨q0, q1⟩ := cs2 (Aside0.mk s0); go_simp; with_reducible rfl)
       refine pv 1 (some 61) (v := ?_) (bits 10 3) HT_ (by kernel_rfl) rfl rfl (fun _ _ _ h => h) (by kernel_rfl) ?_ ?_; rotate_left; (intro w'; go_simp; with_reducible rfl)
       refine pv 2 (some 62) (v := ?_) (bits 10 7) HT_ (by kernel_rfl) rfl rfl (fun _ _ _ h => h) (by kernel_rfl) ?_ ?_; rotate_left; (intro w'; go_simp; with_reducible rfl)
       refine tv 3 (some 63) (v := ?_) (bits 10 15) HT_ HW_ (by kernel_rfl) rfl rfl (fun _ _ _ h => h) (by kernel_rfl) hHeld ?_ ?_; rotate_left; (intro w' hS; obtain ⟨s0, s1, s2⟩ := hS; obtain ⟨q0, q1, q2, q3, q4, q5⟩ := cs6 (Aside0.mk s1); go_simp; with_reducible rfl)
       refine pv 4 (some 64) (v := ?_) (bits 10 31) HT_ (by kernel_rfl) rfl rfl (fun _ _ _ h => h) (by kernel_rfl) ?_ ?_; rotate_left; (intro w'; go_simp; with_reducible rfl)
       refine tv 5 (some 65) (v := ?_) (bits 10 63) HT_ HW_ (by kernel_rfl) rfl rfl (fun _ _ _ h => h) (by kernel_rfl) hHeld ?_ ?_; rotate_left; (intro w' hS; obtain ⟨s0, s1, s2⟩ := hS; obtain ⟨q0, q1, q2, q3, q4, q5⟩ := cs6 (Aside0.mk s2); go_simp; with_reducible rfl)
       refine norm_ (a' := ?_) ?_ ?_
       rotate_left
       ·simp only [Act.put, za, zb, zc, i64_w, i32_w]
        rfl
       refine one_ (i := 6) (N := some 66) (bits 10 127) rfl rfl (one_of HT_.out (by kernel_rfl)) (by decide) (fun K hK => ?_)
       refine goes_ Try.func83 (by kernel_rfl) rfl #[.slice AS ss.length cS, .slice AU us.length cU] (by rfl) rfl rfl (by (try simp only [List.map_toArray, List.map_cons, List.map_nil]); rfl) ?_
       with_reducible refine cr (impl_SessionsJoin.M _ _ ss _ _ us _ (cb HRS B) HCS.out (cb HRU B) HCU.out) B fun AJ511 kJ511 w511 hb B RJ511 QJ511 => ?_
       replace F2 := bn F2 hb
       replace F3 := bn F3 hb
       replace F4 := bn F4 hb
       replace F6 := bn F6 hb
       replace RJ509 := rn RJ509 hb
       clear hb
       refine ⟨_, rfl, ?_⟩
       refine hK.out _ _ ⟨F6.out, F2.out, F3.out⟩ (fun hHeld => ?_)
       clear hK K
       refine norm_ (a' := ?_) ?_ ?_
       rotate_left
       ·show Act.put _ (some 66) _ = _
        simp only [Act.put, za, zb, zc, i64_w, i32_w]
        rfl
       clear QJ511
       refine pv 7 (some 67) (v := ?_) (bits 10 255) HT_ (by kernel_rfl) rfl rfl (fun _ _ _ h => h) (by kernel_rfl) ?_ ?_; rotate_left; (intro w'; go_simp; with_reducible rfl)
       refine norm_ (a' := ?_) ?_ ?_
       rotate_left
       ·simp only [Act.put, za, zb, zc, i64_w, i32_w]
        rfl
       refine one_ (i := 8) (N := none) (bits 10 511) rfl rfl (one_of HT_.out (by kernel_rfl)) (by decide) (fun K hK => ?_)
       obtain ⟨y0, y1, y2, y3, y4, y5, z0, z1, z2, z3, z4, z5⟩ := cz6 F4
       refine sxs (g := g4) 0 [.string a, .string hi, .slice AJ509 zJ509.length kJ509, .slice AJ511 (joinB ss us).length kJ511, .bool false, .string (⟨#[]⟩ : ByteArray)] [.string a, .string hi, .slice AJ509 zJ509.length kJ509, .slice AJ511 (joinB ss us).length kJ511, .bool false, .string (⟨#[]⟩ : ByteArray)] (by rfl) rfl ?hr B F4 L4 rfl (Nat.le_of_ble_eq_true rfl) (fun w512 hk B G => ?_)
       (case hr => go_simp; first | done | rfl)
       replace F2 := bk F2 hk N2_4.out
       replace F3 := bk F3 hk N3_4.out
       replace F6 := bk F6 hk N4_6.out.symm
       replace RJ509 := rk RJ509 F4 (by decide) hk
       replace RJ511 := rk RJ511 F4 (by decide) hk
       replace F4 := G
       clear hk y0 z0 y1 z1 y2 z2 y3 z3 y4 z4 y5 z5
       refine hK.out _ _ ⟨F6.out, F2.out, F3.out⟩ (fun hHeld => ?_)
       clear hK K
       refine pv 9 (some 5) (v := ?_) (bits 10 1023) HT_ (by kernel_rfl) rfl rfl (fun _ _ _ h => h) (by kernel_rfl) ?_ ?_; rotate_left; (intro w'; go_simp; with_reducible rfl)
       refine norm_ (a' := ?_) ?_ ?_
       rotate_left
       ·simp only [Act.put, za, zb, zc, i64_w, i32_w]
        rfl
       refine done_ (done_of HT_.out (by kernel_rfl)) ?_)
      all_goals try go_wp2
      all_goals (refine bodyPost_ret (results_list (rs := [.cell 4 34, .tmp 5]) rfl (by simp) (.cell g4 34 _ (0, 0) _ rfl F4.out hu rfl (by kernel_rfl) (.tmp .nil))) rfl ?_; subst hzJ509; exact ⟨_, _, rfl, RJ509.out, RJ511.out, B.out⟩)
   ·rw [sj_bad (show joinOk ⟨a, b, ps, ss, t, c⟩ ⟨lo, hi, qs, us, u2, ct⟩ = false by cases hj : joinOk ⟨a, b, ps, ss, t, c⟩ ⟨lo, hi, qs, us, u2, ct⟩ with | false => rfl | true => exact absurd (by obtain ⟨_, _, h1, h2, h3, h4, _⟩ := joinOk_parts hj; exact ⟨⟨h1, h2⟩, h3, h4⟩) hfl)]
    go_enter Try.func40, Try.ntmps40
    go_wp2_with (first
     | ((with_reducible refine gate_dst (N := 2) rfl ?_); refine bx ?hg (N := 2) ?hd (cs := #[.string a, .string b, .slice AP ps.length cP, .slice AS ss.length cS, .bool t, .string c]) (t := 34) ?hr B ?_; (case hd | hg => rfl); (case hr => go_simp; first | done | rfl); intro g2 w201 hb B F2 L2 E2; obtain ⟨c2_0, c2_1, c2_2, c2_3, c2_4, c2_5⟩ := cs6 F2; clear hb E2)
     | ((with_reducible refine gate_dst (N := 3) rfl ?_); refine bx ?hg (N := 3) ?hd (cs := #[.string lo, .string hi, .slice AQ qs.length cQ, .slice AU us.length cU, .bool u2, .string ct]) (t := 34) ?hr B ?_; (case hd | hg => rfl); (case hr => go_simp; first | done | rfl); intro g3 w202 hb B F3 L3 E3; replace F2 := bn F2 hb; clear c2_0 c2_1 c2_2 c2_3 c2_4 c2_5; obtain ⟨c2_0, c2_1, c2_2, c2_3, c2_4, c2_5⟩ := cs6 F2; obtain ⟨c3_0, c3_1, c3_2, c3_3, c3_4, c3_5⟩ := cs6 F3; clear hb E3)
     | ((with_reducible refine gate_dst (N := 4) rfl ?_); refine bx ?hg (N := 4) ?hd (cs := #[.string (⟨#[]⟩ : ByteArray), .string (⟨#[]⟩ : ByteArray), .slice none 0 0, .slice none 0 0, .bool false, .string (⟨#[]⟩ : ByteArray)]) (t := 34) ?hr B ?_; (case hd | hg => rfl); (case hr => go_simp; first | done | rfl); intro g4 w203 hb B F4 L4 E4; have N2_4 := ne1 E4 F2; have N3_4 := ne1 E4 F3; replace F2 := bn F2 hb; replace F3 := bn F3 hb; clear c2_0 c2_1 c2_2 c2_3 c2_4 c2_5; obtain ⟨c2_0, c2_1, c2_2, c2_3, c2_4, c2_5⟩ := cs6 F2; clear c3_0 c3_1 c3_2 c3_3 c3_4 c3_5; obtain ⟨c3_0, c3_1, c3_2, c3_3, c3_4, c3_5⟩ := cs6 F3; clear hb E4)
     | (go_at_call 14; with_reducible refine cl (impl_StateValid.M a b _ _ ps _ _ ss t c _ (cb HRP B) (cb HRS B)) B fun w204 hb B => ?_; replace F2 := bn F2 hb; replace F3 := bn F3 hb; replace F4 := bn F4 hb; clear c2_0 c2_1 c2_2 c2_3 c2_4 c2_5; obtain ⟨c2_0, c2_1, c2_2, c2_3, c2_4, c2_5⟩ := cs6 F2; clear c3_0 c3_1 c3_2 c3_3 c3_4 c3_5; obtain ⟨c3_0, c3_1, c3_2, c3_3, c3_4, c3_5⟩ := cs6 F3; clear hb)
     | (go_at_call 14; with_reducible refine cl (impl_StateValid.M lo hi _ _ qs _ _ us u2 ct _ (cb HRQ B) (cb HRU B)) B fun w205 hb B => ?_; replace F2 := bn F2 hb; replace F3 := bn F3 hb; replace F4 := bn F4 hb; clear c2_0 c2_1 c2_2 c2_3 c2_4 c2_5; obtain ⟨c2_0, c2_1, c2_2, c2_3, c2_4, c2_5⟩ := cs6 F2; clear c3_0 c3_1 c3_2 c3_3 c3_4 c3_5; obtain ⟨c3_0, c3_1, c3_2, c3_3, c3_4, c3_5⟩ := cs6 F3; clear hb)
     | ((with_reducible refine gate_store (t := 34) (p := 4) rfl ?_); obtain ⟨y0, y1, y2, y3, y4, y5, z0, z1, z2, z3, z4, z5⟩ := cz6 F4; refine sx (t := 34) (t' := 34) (p := 4) (v := ?vo206) ?hg ?ho ?hn 0 [.string (⟨#[]⟩ : ByteArray), .string (⟨#[]⟩ : ByteArray), .slice none 0 0, .slice none 0 0, .bool false, .string (⟨#[]⟩ : ByteArray)] [.string (⟨#[]⟩ : ByteArray), .string (⟨#[]⟩ : ByteArray), .slice none 0 0, .slice none 0 0, .bool false, .string (⟨#[]⟩ : ByteArray)] ?hr B F4 L4 rfl (Nat.le_of_ble_eq_true rfl) ?_; (case ho | hg | hn => rfl); (case hr => go_simp; first | done | rfl); intro w206 hk B G; replace F2 := bk F2 hk N2_4.out; replace F3 := bk F3 hk N3_4.out; replace F4 := G; clear hk y0 z0 y1 z1 y2 z2 y3 z3 y4 z4 y5 z5))
    all_goals first
     | (refine bodyPost_ret (results_list (rs := [.cell 4 34, .tmp 5]) rfl (by simp) (.cell g4 34 _ (0, 0) _ rfl F4.out hu rfl (by kernel_rfl) (.tmp .nil))) rfl ?_; exact ⟨_, _, rfl, Kd.R_nil _ _ _ _ _, Kd.R_nil _ _ _ _ _, B.out⟩)
     | (exfalso; apply hfl; simp_all)

theorem impl_StateJoin.Mr (a b : ByteArray) (AP : Option Addr) (cP : Nat) (ps : List S61) (AS : Option Addr) (cS : Nat) (ss : List S100) (t : Bool) (c : ByteArray) (lo hi : ByteArray) (AQ : Option Addr) (cQ : Nat) (qs : List S61) (AU : Option Addr) (cU : Nat) (us : List S100) (u2 : Bool) (ct : ByteArray) (xa xb : ByteArray) (xp : List S61) (xs : List S100) (xt : Bool) (xc : ByteArray) (ok : Bool) (hm : sjM ⟨a, b, ps, ss, t, c⟩ ⟨lo, hi, qs, us, u2, ct⟩ = (⟨xa, xb, xp, xs, xt, xc⟩, ok)) (w : World) (hrp : Kd.C k61 w AP ps.length ps) (hrs : Kd.C k100 w AS ss.length ss) (hrq : Kd.C k61 w AQ qs.length qs) (hru : Kd.C k100 w AU us.length us) (hcp : ps.length ≤ cP) (hcs : ss.length ≤ cS) (hcq : qs.length ≤ cQ) (hcu : us.length ≤ cU) : Calls Try.prog 40 #[.agg #[.string a, .string b, .slice AP ps.length cP, .slice AS ss.length cS, .bool t, .string c], .agg #[.string lo, .string hi, .slice AQ qs.length cQ, .slice AU us.length cU, .bool u2, .string ct]] w fun e w' => ∃ v2 v3, e = .returned (.tuple #[.agg #[.string xa, .string xb, v2, v3, .bool xt, .string xc], .bool ok]) ∧ Kd.R k61 61 w' w.heap.size (fun _ => True) v2 xp ∧ Kd.R k100 100 w' w.heap.size (fun _ => True) v3 xs ∧ Below w.heap.size w w' := by
 have h := impl_StateJoin.M a b AP cP ps AS cS ss t c lo hi AQ cQ qs AU cU us u2 ct w hrp hrs hrq hru hcp hcs hcq hcu
 rw [hm] at h
 exact h

theorem laws_noState.E (AP : Option Addr) (cP : Nat) (ps : List S61) (AS : Option Addr) (cS : Nat) (ss : List S100) (hp : ps = []) (hs : ss = []) (w : World) (hrp : Kd.C k61 w AP ps.length ps) (hrs : Kd.C k100 w AS ss.length ss) :
  Calls Try.prog 36 #[.agg #[.string (⟨#[]⟩ : ByteArray), .string (⟨#[]⟩ : ByteArray), .slice AP ps.length cP, .slice AS ss.length cS, .bool false, .string (⟨#[]⟩ : ByteArray)]] w fun e w' => e = .returned (.bool true) ∧ Below w.heap.size w w' := by
 subst hp hs
 exact laws_noState.M AP cP AS cS w hrp hrs

end Go.Proofs.Ytenfiihcdhnamaa.PFnStateCut
