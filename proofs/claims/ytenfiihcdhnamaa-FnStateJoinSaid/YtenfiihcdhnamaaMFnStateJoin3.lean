/- Walks over models, part 3: lawFnStateJoin. -/
import Derived.Test.YtenfiihcdhnamaaPFnStateJoinx0
import Derived.Deep.RegionHeld3
import Derived.Lib.Strings
import Derived.Laws.BytesArg
import Derived.Test.YtenfiihcdhnamaaPFnStateJoinx19
import Derived.Test.YtenfiihcdhnamaaPFnStateJoinx27
import Derived.Test.YtenfiihcdhnamaaPFnStateJoinx18
import Derived.Test.YtenfiihcdhnamaaPFnStateJoinx56
import Derived.Test.YtenfiihcdhnamaaPFnStateJoinx57
import Derived.Test.YtenfiihcdhnamaaPFnStateJoinx53
import Derived.Test.YtenfiihcdhnamaaPFnStateJoinx63
import Derived.Test.YtenfiihcdhnamaaPFnStateJoinx62
import Derived.Test.YtenfiihcdhnamaaMFnStateJoin0
import Derived.Test.YtenfiihcdhnamaaMFnStateJoin1
import Derived.Test.YtenfiihcdhnamaaMFnStateJoin2
namespace Go.Proofs.Ytenfiihcdhnamaa.PFnStateJoin
open Go.RowKit Go.Proofs.YtenfiihcdhnamaaW.PrintWords Go.Proofs.YtenfiihcdhnamaaW.PrintLast Go.Proofs.YtenfiihcdhnamaaW.PrintMore
set_option linter.unusedVariables false
set_option linter.unusedSimpArgs false
set_option maxHeartbeats 4000000
set_option maxRecDepth 100000
attribute [local go_sem] leq_str geq_str gtr_str
theorem laws_noState.E (AP : Option Addr) (cP : Nat) (ps : List S61) (AS : Option Addr) (cS : Nat) (ss : List S100) (hp : ps = []) (hs : ss = []) (w : World) (hrp : Kd.C k61 w AP ps.length ps) (hrs : Kd.C k100 w AS ss.length ss) :
  Calls Try.prog 36 #[.agg #[.string (⟨#[]⟩ : ByteArray), .string (⟨#[]⟩ : ByteArray), .slice AP ps.length cP, .slice AS ss.length cS, .bool false, .string (⟨#[]⟩ : ByteArray)]] w fun e w' => e = .returned (.bool true) ∧ Below w.heap.size w w' := by
 subst hp hs
 exact laws_noState.M AP cP AS cS w hrp hrs
def laws_FnStateJoin.T13 : Bool × List (List Nat × List Nat) := (true, [([], []), ([0], [0]), ([], []), ([1, 2], [1, 2]), ([], []), ([4], [4]), ([], []), ([5, 6, 3], [5, 6]), ([], []), ([8], [8]), ([], []), ([9, 10, 7], [9, 10]), ([7, 11], [7, 11]), ([3, 12], [3, 12])])
def laws_FnStateJoin.B13 : List Nat := [0, 1, 0, 7, 0, 16, 0, 127, 0, 256, 0, 2047, 4095, 8191]
theorem laws_FnStateJoin.tab13 : rtab .any (opsOf Try.f10 13) = laws_FnStateJoin.T13 := by kernel_rfl
theorem laws_FnStateJoin.bits13 : waitsOk laws_FnStateJoin.T13.2 laws_FnStateJoin.B13 = true := by kernel_rfl
theorem laws_FnStateJoin.M (A0 : Option Addr) (c0 : Nat) (l : List Int) (w : World) (hr0 : Kd.C (Kd.int .u8) w A0 l.length l) (hc0 : l.length ≤ c0) (hs : ∀ x ∈ l, (Lit.int .u8 x).wf = true) : Calls Try.prog 10 #[.slice A0 l.length c0] w fun e w' => e = .returned (.bool true) ∧ Below w.heap.size w w' := by
 have B := Aside0.mk (Below.refl w.heap.size w)
 have HR0 := Aside0.mk hr0
 have HC0 := Aside0.mk hc0
 clear hr0 hc0
 have hu := Try.underlying34
 have hu2 := Try.underlying30
 have HSL := Aside0.mk hs
 clear hs
 go_enter Try.func10, Try.ntmps10
 go_wp2_with (first
  | (go_at_call 42; (with_reducible refine cdst2 (spec_DrawStateJoin.D A0 c0 l w HR0.out HC0.out HSL.out) B fun a b t c ps ss AP kP AS kS lo hi tb ct qs us AO kO AT kT w0 hq hb B RP RS RO RT => ?_); clear hb; refine Stop.out ?_))
 ·go_ret
  exact ⟨rfl, B.out⟩
 refine ⟨?_⟩
 obtain ⟨⟨hl1, hl2⟩, hl3, hl4⟩ := hq
 have hb1 : ps.length ≤ 2097152 := by omega
 have hb2 : ss.length ≤ 2097152 := by omega
 have hb3 : qs.length ≤ 2097152 := by omega
 have hb4 : us.length ≤ 2097152 := by omega
 cases hj : joinOk ⟨a, b, ps, ss, t, c⟩ ⟨lo, hi, qs, us, tb, ct⟩ with
 | false =>
  obtain ⟨zp, hzp⟩ : ∃ z : List S61, z = [] := ⟨[], rfl⟩
  obtain ⟨zs, hzs⟩ : ∃ z : List S100, z = [] := ⟨[], rfl⟩
  have HM := Aside0.mk (show sjM ⟨a, b, ps, ss, t, c⟩ ⟨lo, hi, qs, us, tb, ct⟩ = (⟨⟨#[]⟩, ⟨#[]⟩, zp, zs, false, ⟨#[]⟩⟩, false) by rw [hzp, hzs]; exact sj_bad hj)
  have hb5 : zp.length ≤ 2097152 := by rw [hzp]; exact Nat.zero_le _
  have hb6 : zs.length ≤ 2097152 := by rw [hzs]; exact Nat.zero_le _
  have HZP := Aside0.mk hzp
  have HZS := Aside0.mk hzs
  clear hzp hzs hj hl1 hl2 hl3 hl4
  go_wp2_with (first
   | ((with_reducible refine gate_dst (N := 3) rfl ?_); refine bx ?hg (N := 3) ?hd (cs := #[.string (⟨#[]⟩ : ByteArray), .string (⟨#[]⟩ : ByteArray), .slice none 0 0, .slice none 0 0, .bool false, .string (⟨#[]⟩ : ByteArray)]) (t := 34) ?hr B ?_; (case hd => rfl); (case hg => rfl); (case hr => first | (go_simp; done) | (go_simp; rfl)); intro g3 w1 hb B F3 L3 E3; replace RP := rn RP hb; replace RS := rn RS hb; replace RO := rn RO hb; replace RT := rn RT hb; obtain ⟨c3_0, c3_1, c3_2, c3_3, c3_4, c3_5⟩ := cs6 F3; clear hb E3)
   | ((with_reducible refine gate_dst (N := 4) rfl ?_); refine bx ?hg (N := 4) ?hd (cs := #[.string (⟨#[]⟩ : ByteArray), .string (⟨#[]⟩ : ByteArray), .slice none 0 0, .slice none 0 0, .bool false, .string (⟨#[]⟩ : ByteArray)]) (t := 34) ?hr B ?_; (case hd => rfl); (case hg => rfl); (case hr => first | (go_simp; done) | (go_simp; rfl)); intro g4 w2 hb B F4 L4 E4; have N3_4 := ne1 E4 F3; replace F3 := bn F3 hb; replace RP := rn RP hb; replace RS := rn RS hb; replace RO := rn RO hb; replace RT := rn RT hb; clear c3_0 c3_1 c3_2 c3_3 c3_4 c3_5; obtain ⟨c3_0, c3_1, c3_2, c3_3, c3_4, c3_5⟩ := cs6 F3; obtain ⟨c4_0, c4_1, c4_2, c4_3, c4_4, c4_5⟩ := cs6 F4; clear hb E4)
   | ((with_reducible refine gate_store (t := 34) (p := 3) rfl ?_); obtain ⟨y0, y1, y2, y3, y4, y5⟩ := cs6 F3; have z0 := fz F3 0; have z1 := fz F3 1; have z2 := fz F3 2; have z3 := fz F3 3; have z4 := fz F3 4; have z5 := fz F3 5; refine sx (t := 34) (t' := 34) (p := 3) (v := ?vo3) ?hg ?ho ?hn 0 [.string a, .string b, .slice AP ps.length kP, .slice AS ss.length kS, .bool t, .string c] [.string a, .string b, .slice AP ps.length kP, .slice AS ss.length kS, .bool t, .string c] ?hr B F3 L3 rfl (Nat.le_of_ble_eq_true rfl) ?_; (case ho => rfl); (case hg => rfl); (case hn => rfl); (case hr => first | (go_simp; done) | (go_simp; rfl)); intro w3 hk B G; replace F4 := bk F4 hk N3_4.out.symm; replace RP := rk RP F3 (by decide) hk; replace RS := rk RS F3 (by decide) hk; replace RO := rk RO F3 (by decide) hk; replace RT := rk RT F3 (by decide) hk; replace F3 := G; clear c3_0 c3_1 c3_2 c3_3 c3_4 c3_5; obtain ⟨c3_0, c3_1, c3_2, c3_3, c3_4, c3_5⟩ := cs6 F3; clear c4_0 c4_1 c4_2 c4_3 c4_4 c4_5; obtain ⟨c4_0, c4_1, c4_2, c4_3, c4_4, c4_5⟩ := cs6 F4; clear hk y0 z0 y1 z1 y2 z2 y3 z3 y4 z4 y5 z5)
   | ((with_reducible refine gate_store (t := 34) (p := 4) rfl ?_); obtain ⟨y0, y1, y2, y3, y4, y5⟩ := cs6 F4; have z0 := fz F4 0; have z1 := fz F4 1; have z2 := fz F4 2; have z3 := fz F4 3; have z4 := fz F4 4; have z5 := fz F4 5; refine sx (t := 34) (t' := 34) (p := 4) (v := ?vo4) ?hg ?ho ?hn 0 [.string lo, .string hi, .slice AO qs.length kO, .slice AT us.length kT, .bool tb, .string ct] [.string lo, .string hi, .slice AO qs.length kO, .slice AT us.length kT, .bool tb, .string ct] ?hr B F4 L4 rfl (Nat.le_of_ble_eq_true rfl) ?_; (case ho => rfl); (case hg => rfl); (case hn => rfl); (case hr => first | (go_simp; done) | (go_simp; rfl)); intro w4 hk B G; replace F3 := bk F3 hk N3_4.out; replace RP := rk RP F4 (by decide) hk; replace RS := rk RS F4 (by decide) hk; replace RO := rk RO F4 (by decide) hk; replace RT := rk RT F4 (by decide) hk; replace F4 := G; clear c3_0 c3_1 c3_2 c3_3 c3_4 c3_5; obtain ⟨c3_0, c3_1, c3_2, c3_3, c3_4, c3_5⟩ := cs6 F3; clear c4_0 c4_1 c4_2 c4_3 c4_4 c4_5; obtain ⟨c4_0, c4_1, c4_2, c4_3, c4_4, c4_5⟩ := cs6 F4; clear hk y0 z0 y1 z1 y2 z2 y3 z3 y4 z4 y5 z5)
   | (go_at_call 40; with_reducible refine c2r (impl_StateJoin.Mr a b _ _ ps _ _ ss t c lo hi _ _ qs _ _ us tb ct (⟨#[]⟩ : ByteArray) (⟨#[]⟩ : ByteArray) zp zs false (⟨#[]⟩ : ByteArray) false HM.out _ (rc RP) (rc RS) (rc RO) (rc RT) (rl RP) (rl RS) (rl RO) (rl RT)) B fun AP5 kP5 AS5 kS5 w5 hb B RP5 QP5 RS5 QS5 => ?_; replace F3 := bn F3 hb; replace F4 := bn F4 hb; replace RP := rn RP hb; replace RS := rn RS hb; replace RO := rn RO hb; replace RT := rn RT hb; clear QP5 QS5; clear c3_0 c3_1 c3_2 c3_3 c3_4 c3_5; obtain ⟨c3_0, c3_1, c3_2, c3_3, c3_4, c3_5⟩ := cs6 F3; clear c4_0 c4_1 c4_2 c4_3 c4_4 c4_5; obtain ⟨c4_0, c4_1, c4_2, c4_3, c4_4, c4_5⟩ := cs6 F4; clear hb)
   | ((with_reducible refine gate_dst (N := 5) rfl ?_); refine bx ?hg (N := 5) ?hd (cs := #[.string (⟨#[]⟩ : ByteArray), .string (⟨#[]⟩ : ByteArray), .slice none 0 0, .slice none 0 0, .bool false, .string (⟨#[]⟩ : ByteArray)]) (t := 34) ?hr B ?_; (case hd => rfl); (case hg => rfl); (case hr => first | (go_simp; done) | (go_simp; rfl)); intro g5 w6 hb B F5 L5 E5; have N3_5 := ne1 E5 F3; have N4_5 := ne1 E5 F4; replace F3 := bn F3 hb; replace F4 := bn F4 hb; replace RP := rn RP hb; replace RS := rn RS hb; replace RO := rn RO hb; replace RT := rn RT hb; replace RP5 := rn RP5 hb; replace RS5 := rn RS5 hb; clear c3_0 c3_1 c3_2 c3_3 c3_4 c3_5; obtain ⟨c3_0, c3_1, c3_2, c3_3, c3_4, c3_5⟩ := cs6 F3; clear c4_0 c4_1 c4_2 c4_3 c4_4 c4_5; obtain ⟨c4_0, c4_1, c4_2, c4_3, c4_4, c4_5⟩ := cs6 F4; obtain ⟨c5_0, c5_1, c5_2, c5_3, c5_4, c5_5⟩ := cs6 F5; clear hb E5)
   | ((with_reducible refine gate_store (t := 34) (p := 5) rfl ?_); obtain ⟨y0, y1, y2, y3, y4, y5⟩ := cs6 F5; have z0 := fz F5 0; have z1 := fz F5 1; have z2 := fz F5 2; have z3 := fz F5 3; have z4 := fz F5 4; have z5 := fz F5 5; refine sx (t := 34) (t' := 34) (p := 5) (v := ?vo7) ?hg ?ho ?hn 0 [.string (⟨#[]⟩ : ByteArray), .string (⟨#[]⟩ : ByteArray), .slice AP5 zp.length kP5, .slice AS5 zs.length kS5, .bool false, .string (⟨#[]⟩ : ByteArray)] [.string (⟨#[]⟩ : ByteArray), .string (⟨#[]⟩ : ByteArray), .slice AP5 zp.length kP5, .slice AS5 zs.length kS5, .bool false, .string (⟨#[]⟩ : ByteArray)] ?hr B F5 L5 rfl (Nat.le_of_ble_eq_true rfl) ?_; (case ho => rfl); (case hg => rfl); (case hn => rfl); (case hr => first | (go_simp; done) | (go_simp; rfl)); intro w7 hk B G; replace F3 := bk F3 hk N3_5.out; replace F4 := bk F4 hk N4_5.out; replace RP := rk RP F5 (by decide) hk; replace RS := rk RS F5 (by decide) hk; replace RO := rk RO F5 (by decide) hk; replace RT := rk RT F5 (by decide) hk; replace RP5 := rk RP5 F5 (by decide) hk; replace RS5 := rk RS5 F5 (by decide) hk; replace F5 := G; clear c3_0 c3_1 c3_2 c3_3 c3_4 c3_5; obtain ⟨c3_0, c3_1, c3_2, c3_3, c3_4, c3_5⟩ := cs6 F3; clear c4_0 c4_1 c4_2 c4_3 c4_4 c4_5; obtain ⟨c4_0, c4_1, c4_2, c4_3, c4_4, c4_5⟩ := cs6 F4; clear c5_0 c5_1 c5_2 c5_3 c5_4 c5_5; obtain ⟨c5_0, c5_1, c5_2, c5_3, c5_4, c5_5⟩ := cs6 F5; clear hk y0 z0 y1 z1 y2 z2 y3 z3 y4 z4 y5 z5)
   | (go_at_call 41; with_reducible refine c2r (spec_StateJoin.Mr a b _ _ ps _ _ ss t c lo hi _ _ qs _ _ us tb ct (⟨#[]⟩ : ByteArray) (⟨#[]⟩ : ByteArray) zp zs false (⟨#[]⟩ : ByteArray) false HM.out _ (rc RP) (rc RS) (rc RO) (rc RT) (rl RP) (rl RS) (rl RO) (rl RT)) B fun AP8 kP8 AS8 kS8 w8 hb B RP8 QP8 RS8 QS8 => ?_; replace F5 := bn F5 hb; replace RP5 := rn RP5 hb; replace RS5 := rn RS5 hb; clear QP8 QS8; clear c5_0 c5_1 c5_2 c5_3 c5_4 c5_5; obtain ⟨c5_0, c5_1, c5_2, c5_3, c5_4, c5_5⟩ := cs6 F5; clear hb)
   | ((with_reducible refine gate_dst (N := 7) rfl ?_); refine bx ?hg (N := 7) ?hd (cs := #[.string (⟨#[]⟩ : ByteArray), .string (⟨#[]⟩ : ByteArray), .slice none 0 0, .slice none 0 0, .bool false, .string (⟨#[]⟩ : ByteArray)]) (t := 34) ?hr B ?_; (case hd => rfl); (case hg => rfl); (case hr => first | (go_simp; done) | (go_simp; rfl)); intro g7 w9 hb B F7 L7 E7; have N5_7 := ne1 E7 F5; replace F5 := bn F5 hb; replace RP5 := rn RP5 hb; replace RS5 := rn RS5 hb; replace RP8 := rn RP8 hb; replace RS8 := rn RS8 hb; clear c5_0 c5_1 c5_2 c5_3 c5_4 c5_5; obtain ⟨c5_0, c5_1, c5_2, c5_3, c5_4, c5_5⟩ := cs6 F5; obtain ⟨c7_0, c7_1, c7_2, c7_3, c7_4, c7_5⟩ := cs6 F7; clear hb E7)
   | ((with_reducible refine gate_store (t := 34) (p := 7) rfl ?_); obtain ⟨y0, y1, y2, y3, y4, y5⟩ := cs6 F7; have z0 := fz F7 0; have z1 := fz F7 1; have z2 := fz F7 2; have z3 := fz F7 3; have z4 := fz F7 4; have z5 := fz F7 5; refine sx (t := 34) (t' := 34) (p := 7) (v := ?vo10) ?hg ?ho ?hn 0 [.string (⟨#[]⟩ : ByteArray), .string (⟨#[]⟩ : ByteArray), .slice AP8 zp.length kP8, .slice AS8 zs.length kS8, .bool false, .string (⟨#[]⟩ : ByteArray)] [.string (⟨#[]⟩ : ByteArray), .string (⟨#[]⟩ : ByteArray), .slice AP8 zp.length kP8, .slice AS8 zs.length kS8, .bool false, .string (⟨#[]⟩ : ByteArray)] ?hr B F7 L7 rfl (Nat.le_of_ble_eq_true rfl) ?_; (case ho => rfl); (case hg => rfl); (case hn => rfl); (case hr => first | (go_simp; done) | (go_simp; rfl)); intro w10 hk B G; replace F5 := bk F5 hk N5_7.out; replace RP5 := rk RP5 F7 (by decide) hk; replace RS5 := rk RS5 F7 (by decide) hk; replace RP8 := rk RP8 F7 (by decide) hk; replace RS8 := rk RS8 F7 (by decide) hk; replace F7 := G; clear c5_0 c5_1 c5_2 c5_3 c5_4 c5_5; obtain ⟨c5_0, c5_1, c5_2, c5_3, c5_4, c5_5⟩ := cs6 F5; clear c7_0 c7_1 c7_2 c7_3 c7_4 c7_5; obtain ⟨c7_0, c7_1, c7_2, c7_3, c7_4, c7_5⟩ := cs6 F7; clear hk y0 z0 y1 z1 y2 z2 y3 z3 y4 z4 y5 z5)
   | (go_at_call 35; with_reducible refine cl (laws_sameState.M (⟨#[]⟩ : ByteArray) (⟨#[]⟩ : ByteArray) _ _ _ _ zp _ _ _ _ zs false (⟨#[]⟩ : ByteArray) _ (rc RP5) (rc RP8) (rc RS5) (rc RS8) (rl RP5) (rl RP8) (rl RS5) (rl RS8) (by assumption) (by assumption)) B fun w11 hb B => ?_; replace F5 := bn F5 hb; replace RP5 := rn RP5 hb; replace RS5 := rn RS5 hb; clear c5_0 c5_1 c5_2 c5_3 c5_4 c5_5; obtain ⟨c5_0, c5_1, c5_2, c5_3, c5_4, c5_5⟩ := cs6 F5; clear hb)
   | (go_at_call 36; with_reducible refine cl (laws_noState.E _ _ _ _ _ _ HZP.out HZS.out _ (rc RP5) (rc RS5)) B fun w12 hb B => ?_; clear hb)
   | (go_at_call 17; with_reducible refine cl (laws_alive.M _) B fun w13 hb B => ?_; clear hb))
  all_goals go_ret
  all_goals exact ⟨by simp_all, B.out⟩
 | true =>
  obtain ⟨hv, ht, hseq, h1, h2, h3⟩ := join_law hj
  have hsj := sj_good hj
  obtain ⟨js, hjs⟩ : ∃ js, joinB ss us = js := ⟨_, rfl⟩
  obtain ⟨xp, hxp⟩ : ∃ xp, ps ++ qs = xp := ⟨_, rfl⟩
  rw [hsj] at hv ht hseq h1 h2 h3
  have HM := Aside0.mk (show sjM ⟨a, b, ps, ss, t, c⟩ ⟨lo, hi, qs, us, tb, ct⟩ = (⟨a, hi, xp, js, false, ⟨#[]⟩⟩, true) by rw [hsj]; rw [← hjs, ← hxp])
  have HV := Aside0.mk (show stB a hi xp js false ⟨#[]⟩ = true by rw [← hjs, ← hxp]; exact hv)
  have HK := Aside0.mk (show csM ⟨a, hi, xp, js, true, lo⟩ = (⟨a, b, ps, js, false, ⟨#[]⟩⟩, ⟨lo, hi, qs, js, false, ⟨#[]⟩⟩, true) by
   rw [← hjs, ← hxp]
   exact Prod.ext h2 (Prod.ext h3 h1))
  have HQ := Aside0.mk (show ∀ c, 0 ≤ c → c ≤ 3 → seqB js c = max (seqB ss c) (seqB us c) by rw [← hjs]; exact hseq)
  have hb5 : xp.length ≤ 2097152 := by rw [← hxp, List.length_append]; omega
  have hb6 : js.length ≤ 2097152 := by
   have := sesB_len (stB_parts.mp HV.out).2.2.1
   omega
  clear hv ht hseq h1 h2 h3 hsj hjs hxp hj hl1 hl2 hl3 hl4
  go_wp2_with (first
   | ((with_reducible refine gate_dst (N := 3) rfl ?_); refine bx ?hg (N := 3) ?hd (cs := #[.string (⟨#[]⟩ : ByteArray), .string (⟨#[]⟩ : ByteArray), .slice none 0 0, .slice none 0 0, .bool false, .string (⟨#[]⟩ : ByteArray)]) (t := 34) ?hr B ?_; (case hd => rfl); (case hg => rfl); (case hr => first | (go_simp; done) | (go_simp; rfl)); intro g3 w1001 hb B F3 L3 E3; replace RP := rn RP hb; replace RS := rn RS hb; replace RO := rn RO hb; replace RT := rn RT hb; obtain ⟨c3_0, c3_1, c3_2, c3_3, c3_4, c3_5⟩ := cs6 F3; clear hb E3)
   | ((with_reducible refine gate_dst (N := 4) rfl ?_); refine bx ?hg (N := 4) ?hd (cs := #[.string (⟨#[]⟩ : ByteArray), .string (⟨#[]⟩ : ByteArray), .slice none 0 0, .slice none 0 0, .bool false, .string (⟨#[]⟩ : ByteArray)]) (t := 34) ?hr B ?_; (case hd => rfl); (case hg => rfl); (case hr => first | (go_simp; done) | (go_simp; rfl)); intro g4 w1002 hb B F4 L4 E4; have N3_4 := ne1 E4 F3; replace F3 := bn F3 hb; replace RP := rn RP hb; replace RS := rn RS hb; replace RO := rn RO hb; replace RT := rn RT hb; clear c3_0 c3_1 c3_2 c3_3 c3_4 c3_5; obtain ⟨c3_0, c3_1, c3_2, c3_3, c3_4, c3_5⟩ := cs6 F3; obtain ⟨c4_0, c4_1, c4_2, c4_3, c4_4, c4_5⟩ := cs6 F4; clear hb E4)
   | ((with_reducible refine gate_store (t := 34) (p := 3) rfl ?_); obtain ⟨y0, y1, y2, y3, y4, y5⟩ := cs6 F3; have z0 := fz F3 0; have z1 := fz F3 1; have z2 := fz F3 2; have z3 := fz F3 3; have z4 := fz F3 4; have z5 := fz F3 5; refine sx (t := 34) (t' := 34) (p := 3) (v := ?vo1003) ?hg ?ho ?hn 0 [.string a, .string b, .slice AP ps.length kP, .slice AS ss.length kS, .bool t, .string c] [.string a, .string b, .slice AP ps.length kP, .slice AS ss.length kS, .bool t, .string c] ?hr B F3 L3 rfl (Nat.le_of_ble_eq_true rfl) ?_; (case ho => rfl); (case hg => rfl); (case hn => rfl); (case hr => first | (go_simp; done) | (go_simp; rfl)); intro w1003 hk B G; replace F4 := bk F4 hk N3_4.out.symm; replace RP := rk RP F3 (by decide) hk; replace RS := rk RS F3 (by decide) hk; replace RO := rk RO F3 (by decide) hk; replace RT := rk RT F3 (by decide) hk; replace F3 := G; clear c3_0 c3_1 c3_2 c3_3 c3_4 c3_5; obtain ⟨c3_0, c3_1, c3_2, c3_3, c3_4, c3_5⟩ := cs6 F3; clear c4_0 c4_1 c4_2 c4_3 c4_4 c4_5; obtain ⟨c4_0, c4_1, c4_2, c4_3, c4_4, c4_5⟩ := cs6 F4; clear hk y0 z0 y1 z1 y2 z2 y3 z3 y4 z4 y5 z5)
   | ((with_reducible refine gate_store (t := 34) (p := 4) rfl ?_); obtain ⟨y0, y1, y2, y3, y4, y5⟩ := cs6 F4; have z0 := fz F4 0; have z1 := fz F4 1; have z2 := fz F4 2; have z3 := fz F4 3; have z4 := fz F4 4; have z5 := fz F4 5; refine sx (t := 34) (t' := 34) (p := 4) (v := ?vo1004) ?hg ?ho ?hn 0 [.string lo, .string hi, .slice AO qs.length kO, .slice AT us.length kT, .bool tb, .string ct] [.string lo, .string hi, .slice AO qs.length kO, .slice AT us.length kT, .bool tb, .string ct] ?hr B F4 L4 rfl (Nat.le_of_ble_eq_true rfl) ?_; (case ho => rfl); (case hg => rfl); (case hn => rfl); (case hr => first | (go_simp; done) | (go_simp; rfl)); intro w1004 hk B G; replace F3 := bk F3 hk N3_4.out; replace RP := rk RP F4 (by decide) hk; replace RS := rk RS F4 (by decide) hk; replace RO := rk RO F4 (by decide) hk; replace RT := rk RT F4 (by decide) hk; replace F4 := G; clear c3_0 c3_1 c3_2 c3_3 c3_4 c3_5; obtain ⟨c3_0, c3_1, c3_2, c3_3, c3_4, c3_5⟩ := cs6 F3; clear c4_0 c4_1 c4_2 c4_3 c4_4 c4_5; obtain ⟨c4_0, c4_1, c4_2, c4_3, c4_4, c4_5⟩ := cs6 F4; clear hk y0 z0 y1 z1 y2 z2 y3 z3 y4 z4 y5 z5)
   | (go_at_call 40; with_reducible refine c2r (impl_StateJoin.Mr a b _ _ ps _ _ ss t c lo hi _ _ qs _ _ us tb ct a hi xp js false (⟨#[]⟩ : ByteArray) true HM.out _ (rc RP) (rc RS) (rc RO) (rc RT) (rl RP) (rl RS) (rl RO) (rl RT)) B fun AP1005 kP1005 AS1005 kS1005 w1005 hb B RP1005 QP1005 RS1005 QS1005 => ?_; replace F3 := bn F3 hb; replace F4 := bn F4 hb; replace RP := rn RP hb; replace RS := rn RS hb; replace RO := rn RO hb; replace RT := rn RT hb; clear QP1005 QS1005; clear c3_0 c3_1 c3_2 c3_3 c3_4 c3_5; obtain ⟨c3_0, c3_1, c3_2, c3_3, c3_4, c3_5⟩ := cs6 F3; clear c4_0 c4_1 c4_2 c4_3 c4_4 c4_5; obtain ⟨c4_0, c4_1, c4_2, c4_3, c4_4, c4_5⟩ := cs6 F4; clear hb)
   | ((with_reducible refine gate_dst (N := 5) rfl ?_); refine bx ?hg (N := 5) ?hd (cs := #[.string (⟨#[]⟩ : ByteArray), .string (⟨#[]⟩ : ByteArray), .slice none 0 0, .slice none 0 0, .bool false, .string (⟨#[]⟩ : ByteArray)]) (t := 34) ?hr B ?_; (case hd => rfl); (case hg => rfl); (case hr => first | (go_simp; done) | (go_simp; rfl)); intro g5 w1006 hb B F5 L5 E5; have N3_5 := ne1 E5 F3; have N4_5 := ne1 E5 F4; replace F3 := bn F3 hb; replace F4 := bn F4 hb; replace RP := rn RP hb; replace RS := rn RS hb; replace RO := rn RO hb; replace RT := rn RT hb; replace RP1005 := rn RP1005 hb; replace RS1005 := rn RS1005 hb; clear c3_0 c3_1 c3_2 c3_3 c3_4 c3_5; obtain ⟨c3_0, c3_1, c3_2, c3_3, c3_4, c3_5⟩ := cs6 F3; clear c4_0 c4_1 c4_2 c4_3 c4_4 c4_5; obtain ⟨c4_0, c4_1, c4_2, c4_3, c4_4, c4_5⟩ := cs6 F4; obtain ⟨c5_0, c5_1, c5_2, c5_3, c5_4, c5_5⟩ := cs6 F5; clear hb E5)
   | ((with_reducible refine gate_store (t := 34) (p := 5) rfl ?_); obtain ⟨y0, y1, y2, y3, y4, y5⟩ := cs6 F5; have z0 := fz F5 0; have z1 := fz F5 1; have z2 := fz F5 2; have z3 := fz F5 3; have z4 := fz F5 4; have z5 := fz F5 5; refine sx (t := 34) (t' := 34) (p := 5) (v := ?vo1007) ?hg ?ho ?hn 0 [.string a, .string hi, .slice AP1005 xp.length kP1005, .slice AS1005 js.length kS1005, .bool false, .string (⟨#[]⟩ : ByteArray)] [.string a, .string hi, .slice AP1005 xp.length kP1005, .slice AS1005 js.length kS1005, .bool false, .string (⟨#[]⟩ : ByteArray)] ?hr B F5 L5 rfl (Nat.le_of_ble_eq_true rfl) ?_; (case ho => rfl); (case hg => rfl); (case hn => rfl); (case hr => first | (go_simp; done) | (go_simp; rfl)); intro w1007 hk B G; replace F3 := bk F3 hk N3_5.out; replace F4 := bk F4 hk N4_5.out; replace RP := rk RP F5 (by decide) hk; replace RS := rk RS F5 (by decide) hk; replace RO := rk RO F5 (by decide) hk; replace RT := rk RT F5 (by decide) hk; replace RP1005 := rk RP1005 F5 (by decide) hk; replace RS1005 := rk RS1005 F5 (by decide) hk; replace F5 := G; clear c3_0 c3_1 c3_2 c3_3 c3_4 c3_5; obtain ⟨c3_0, c3_1, c3_2, c3_3, c3_4, c3_5⟩ := cs6 F3; clear c4_0 c4_1 c4_2 c4_3 c4_4 c4_5; obtain ⟨c4_0, c4_1, c4_2, c4_3, c4_4, c4_5⟩ := cs6 F4; clear c5_0 c5_1 c5_2 c5_3 c5_4 c5_5; obtain ⟨c5_0, c5_1, c5_2, c5_3, c5_4, c5_5⟩ := cs6 F5; clear hk y0 z0 y1 z1 y2 z2 y3 z3 y4 z4 y5 z5)
   | (go_at_call 41; with_reducible refine c2r (spec_StateJoin.Mr a b _ _ ps _ _ ss t c lo hi _ _ qs _ _ us tb ct a hi xp js false (⟨#[]⟩ : ByteArray) true HM.out _ (rc RP) (rc RS) (rc RO) (rc RT) (rl RP) (rl RS) (rl RO) (rl RT)) B fun AP1008 kP1008 AS1008 kS1008 w1008 hb B RP1008 QP1008 RS1008 QS1008 => ?_; replace F3 := bn F3 hb; replace F4 := bn F4 hb; replace F5 := bn F5 hb; replace RP := rn RP hb; replace RS := rn RS hb; replace RO := rn RO hb; replace RT := rn RT hb; replace RP1005 := rn RP1005 hb; replace RS1005 := rn RS1005 hb; clear QP1008 QS1008; clear c5_0 c5_1 c5_2 c5_3 c5_4 c5_5; obtain ⟨c5_0, c5_1, c5_2, c5_3, c5_4, c5_5⟩ := cs6 F5; clear hb)
   | ((with_reducible refine gate_dst (N := 7) rfl ?_); refine bx ?hg (N := 7) ?hd (cs := #[.string (⟨#[]⟩ : ByteArray), .string (⟨#[]⟩ : ByteArray), .slice none 0 0, .slice none 0 0, .bool false, .string (⟨#[]⟩ : ByteArray)]) (t := 34) ?hr B ?_; (case hd => rfl); (case hg => rfl); (case hr => first | (go_simp; done) | (go_simp; rfl)); intro g7 w1009 hb B F7 L7 E7; have N3_7 := ne1 E7 F3; have N4_7 := ne1 E7 F4; have N5_7 := ne1 E7 F5; replace F3 := bn F3 hb; replace F4 := bn F4 hb; replace F5 := bn F5 hb; replace RP := rn RP hb; replace RS := rn RS hb; replace RO := rn RO hb; replace RT := rn RT hb; replace RP1005 := rn RP1005 hb; replace RS1005 := rn RS1005 hb; replace RP1008 := rn RP1008 hb; replace RS1008 := rn RS1008 hb; clear c5_0 c5_1 c5_2 c5_3 c5_4 c5_5; obtain ⟨c5_0, c5_1, c5_2, c5_3, c5_4, c5_5⟩ := cs6 F5; obtain ⟨c7_0, c7_1, c7_2, c7_3, c7_4, c7_5⟩ := cs6 F7; clear hb E7)
   | ((with_reducible refine gate_store (t := 34) (p := 7) rfl ?_); obtain ⟨y0, y1, y2, y3, y4, y5⟩ := cs6 F7; have z0 := fz F7 0; have z1 := fz F7 1; have z2 := fz F7 2; have z3 := fz F7 3; have z4 := fz F7 4; have z5 := fz F7 5; refine sx (t := 34) (t' := 34) (p := 7) (v := ?vo1010) ?hg ?ho ?hn 0 [.string a, .string hi, .slice AP1008 xp.length kP1008, .slice AS1008 js.length kS1008, .bool false, .string (⟨#[]⟩ : ByteArray)] [.string a, .string hi, .slice AP1008 xp.length kP1008, .slice AS1008 js.length kS1008, .bool false, .string (⟨#[]⟩ : ByteArray)] ?hr B F7 L7 rfl (Nat.le_of_ble_eq_true rfl) ?_; (case ho => rfl); (case hg => rfl); (case hn => rfl); (case hr => first | (go_simp; done) | (go_simp; rfl)); intro w1010 hk B G; replace F3 := bk F3 hk N3_7.out; replace F4 := bk F4 hk N4_7.out; replace F5 := bk F5 hk N5_7.out; replace RP := rk RP F7 (by decide) hk; replace RS := rk RS F7 (by decide) hk; replace RO := rk RO F7 (by decide) hk; replace RT := rk RT F7 (by decide) hk; replace RP1005 := rk RP1005 F7 (by decide) hk; replace RS1005 := rk RS1005 F7 (by decide) hk; replace RP1008 := rk RP1008 F7 (by decide) hk; replace RS1008 := rk RS1008 F7 (by decide) hk; replace F7 := G; clear c5_0 c5_1 c5_2 c5_3 c5_4 c5_5; obtain ⟨c5_0, c5_1, c5_2, c5_3, c5_4, c5_5⟩ := cs6 F5; clear c7_0 c7_1 c7_2 c7_3 c7_4 c7_5; obtain ⟨c7_0, c7_1, c7_2, c7_3, c7_4, c7_5⟩ := cs6 F7; clear hk y0 z0 y1 z1 y2 z2 y3 z3 y4 z4 y5 z5)
   | (go_at_call 35; with_reducible refine cl (laws_sameState.M a hi _ _ _ _ xp _ _ _ _ js false (⟨#[]⟩ : ByteArray) _ (rc RP1005) (rc RP1008) (rc RS1005) (rc RS1008) (rl RP1005) (rl RP1008) (rl RS1005) (rl RS1008) (by assumption) (by assumption)) B fun w1011 hb B => ?_; replace F3 := bn F3 hb; replace F4 := bn F4 hb; replace F5 := bn F5 hb; replace RP := rn RP hb; replace RS := rn RS hb; replace RO := rn RO hb; replace RT := rn RT hb; replace RP1005 := rn RP1005 hb; replace RS1005 := rn RS1005 hb; clear hb))
  go_loopg [9] 5 (fun kx v9 wr => ∃ j : Nat, v9 = .int .i64 (j : Int) ∧ j ≤ 4 ∧ 4 < j + kx ∧ Aside0 (Below w.heap.size w wr) ∧ Aside0 (wr.heap[g3]? = some (.cells #[.string a, .string b, .slice AP ps.length kP, .slice AS ss.length kS, .bool t, .string c] 34 (0, 0))) ∧ Aside0 (wr.heap[g4]? = some (.cells #[.string lo, .string hi, .slice AO qs.length kO, .slice AT us.length kT, .bool tb, .string ct] 34 (0, 0))) ∧ Aside0 (wr.heap[g5]? = some (.cells #[.string a, .string hi, .slice AP1005 xp.length kP1005, .slice AS1005 js.length kS1005, .bool false, .string (⟨#[]⟩ : ByteArray)] 34 (0, 0))) ∧ Aside0 (Ow k61 61 wr w.heap.size (.slice AP ps.length kP) ps) ∧ Aside0 (Ow k100 100 wr w.heap.size (.slice AS ss.length kS) ss) ∧ Aside0 (Ow k61 61 wr w.heap.size (.slice AO qs.length kO) qs) ∧ Aside0 (Ow k100 100 wr w.heap.size (.slice AT us.length kT) us) ∧ Aside0 (Ow k61 61 wr w.heap.size (.slice AP1005 xp.length kP1005) xp) ∧ Aside0 (Ow k100 100 wr w.heap.size (.slice AS1005 js.length kS1005) js))
  case atStart => exact ⟨0, rfl, by omega, by omega, B, F3, F4, F5, RP, RS, RO, RT, RP1005, RS1005⟩
  case round =>
   clear B F3 F4 F5 RP RS RO RT RP1005 RS1005
   obtain ⟨j, rfl, hj4, hk, B, F3, F4, F5, RP, RS, RO, RT, RP1005, RS1005⟩ := hrel
   obtain ⟨c3_0, c3_1, c3_2, c3_3, c3_4, c3_5⟩ := cs6 F3
   obtain ⟨c4_0, c4_1, c4_2, c4_3, c4_4, c4_5⟩ := cs6 F4
   obtain ⟨c5_0, c5_1, c5_2, c5_3, c5_4, c5_5⟩ := cs6 F5
   by_cases hlt : j < 4
   ·obtain ⟨d, rfl⟩ : ∃ d, gk = d + 1 := ⟨gk - 1, by omega⟩
    have cj : decide ((j : Int) < 4) = true := decide_eq_true (by omega)
    have hsq := HQ.out (j : Int) (by omega) (by omega)
    have dne : (seqB js (j : Int) != max (seqB ss (j : Int)) (seqB us (j : Int))) = false := by rw [hsq]; simp
    clear hsq
    try go_wp2
    all_goals (
     refine rg (n := 14) (S := fun W => W.heap[g5]? = some (.cells #[.string a, .string hi, .slice AP1005 xp.length kP1005, .slice AS1005 js.length kS1005, .bool false, .string (⟨#[]⟩ : ByteArray)] 34 (0, 0)) ∧ W.heap[g3]? = some (.cells #[.string a, .string b, .slice AP ps.length kP, .slice AS ss.length kS, .bool t, .string c] 34 (0, 0)) ∧ W.heap[g4]? = some (.cells #[.string lo, .string hi, .slice AO qs.length kO, .slice AT us.length kT, .bool tb, .string ct] 34 (0, 0))) (ds := []) #[false, false, false, false, false, false, false, false, false, false, false, false, false, false] (by kernel_rfl) rfl rfl ⟨F5.out, F3.out, F4.out⟩ id B (fun w2001 hb B hHeld => ?_)
     refine with_tabW laws_FnStateJoin.tab13 laws_FnStateJoin.bits13 (fun HT_ HW_ => ?_)
     replace F3 := bn F3 hb
     replace F4 := bn F4 hb
     replace F5 := bn F5 hb
     replace RP := rn RP hb
     replace RS := rn RS hb
     replace RO := rn RO hb
     replace RT := rn RT hb
     replace RP1005 := rn RP1005 hb
     replace RS1005 := rn RS1005 hb
     clear hb
     refine pu (i := 0) (N := some 53) (v := ?_) (bits 14 1) rfl rfl (any_of HT_.out (by kernel_rfl)) (fun _ _ _ h => h) (by kernel_rfl) ?_ ?_; rotate_left; (intro w'; go_simp; with_reducible rfl)
     refine ta (i := 1) (N := some 54) (v := ?_) (bits 14 3) rfl rfl (take_ofW HT_.out HW_.out (by kernel_rfl)) (fun _ _ _ h => h) (by kernel_rfl) hHeld ?_ ?_; rotate_left; (intro w' hS; obtain ⟨s0, s1, s2⟩ := hS; obtain ⟨q0, q1, q2, q3, q4, q5⟩ := cs6 (Aside0.mk s0); go_simp; with_reducible rfl)
     refine pu (i := 2) (N := some 55) (v := ?_) (bits 14 7) rfl rfl (any_of HT_.out (by kernel_rfl)) (fun _ _ _ h => h) (by kernel_rfl) ?_ ?_; rotate_left; (intro w'; go_simp; with_reducible rfl)
     refine pu (i := 4) (N := some 57) (v := ?_) (bits 14 23) rfl rfl (any_of HT_.out (by kernel_rfl)) (fun _ _ _ h => h) (by kernel_rfl) ?_ ?_; rotate_left; (intro w'; go_simp; with_reducible rfl)
     refine ta (i := 5) (N := some 58) (v := ?_) (bits 14 55) rfl rfl (take_ofW HT_.out HW_.out (by kernel_rfl)) (fun _ _ _ h => h) (by kernel_rfl) hHeld ?_ ?_; rotate_left; (intro w' hS; obtain ⟨s0, s1, s2⟩ := hS; obtain ⟨q0, q1, q2, q3, q4, q5⟩ := cs6 (Aside0.mk s1); go_simp; with_reducible rfl)
     refine pu (i := 6) (N := some 59) (v := ?_) (bits 14 119) rfl rfl (any_of HT_.out (by kernel_rfl)) (fun _ _ _ h => h) (by kernel_rfl) ?_ ?_; rotate_left; (intro w'; go_simp; with_reducible rfl)
     refine pu (i := 8) (N := some 61) (v := ?_) (bits 14 375) rfl rfl (any_of HT_.out (by kernel_rfl)) (fun _ _ _ h => h) (by kernel_rfl) ?_ ?_; rotate_left; (intro w'; go_simp; with_reducible rfl)
     refine ta (i := 9) (N := some 62) (v := ?_) (bits 14 887) rfl rfl (take_ofW HT_.out HW_.out (by kernel_rfl)) (fun _ _ _ h => h) (by kernel_rfl) hHeld ?_ ?_; rotate_left; (intro w' hS; obtain ⟨s0, s1, s2⟩ := hS; obtain ⟨q0, q1, q2, q3, q4, q5⟩ := cs6 (Aside0.mk s2); go_simp; with_reducible rfl)
     refine pu (i := 10) (N := some 63) (v := ?_) (bits 14 1911) rfl rfl (any_of HT_.out (by kernel_rfl)) (fun _ _ _ h => h) (by kernel_rfl) ?_ ?_; rotate_left; (intro w'; go_simp; with_reducible rfl)
     refine norm_ (a' := ?_) ?_ ?_
     rotate_left
     ·simp only [Act.put, List.setIfInBounds_toArray, List.set_cons_zero, List.set_cons_succ, i64_w, i32_w]
      rfl
     refine one_ (i := 3) (N := some 56) (bits 14 1919) rfl rfl (one_of HT_.out (by kernel_rfl)) (by decide) (fun K hK => ?_)
     refine goes_ Try.func43 (by kernel_rfl) rfl #[.slice AS1005 js.length kS1005, .int .i64 ((j : Int))] (by rfl) rfl rfl (by (try simp only [List.map_toArray, List.map_cons, List.map_nil]); rfl) ?_
     with_reducible refine cl (impl_SessionSeq.M _ _ js (j : Int) _ (rc RS1005) (rl RS1005)) B fun w2002 hb B => ?_
     replace F3 := bn F3 hb
     replace F4 := bn F4 hb
     replace F5 := bn F5 hb
     replace RP := rn RP hb
     replace RS := rn RS hb
     replace RO := rn RO hb
     replace RT := rn RT hb
     replace RP1005 := rn RP1005 hb
     replace RS1005 := rn RS1005 hb
     clear hb
     refine ⟨_, rfl, ?_⟩
     refine hK.out _ _ ⟨F5.out, F3.out, F4.out⟩ (fun hHeld => ?_)
     clear hK K
     refine norm_ (a' := ?_) ?_ ?_
     rotate_left
     ·show Act.put _ (some 56) _ = _
      simp only [Act.put, List.setIfInBounds_toArray, List.set_cons_zero, List.set_cons_succ, i64_w, i32_w]
      rfl
     refine one_ (i := 7) (N := some 60) (bits 14 2047) rfl rfl (one_of HT_.out (by kernel_rfl)) (by decide) (fun K hK => ?_)
     refine goes_ Try.func43 (by kernel_rfl) rfl #[.slice AS ss.length kS, .int .i64 ((j : Int))] (by rfl) rfl rfl (by (try simp only [List.map_toArray, List.map_cons, List.map_nil]); rfl) ?_
     with_reducible refine cl (impl_SessionSeq.M _ _ ss (j : Int) _ (rc RS) (rl RS)) B fun w2003 hb B => ?_
     replace F3 := bn F3 hb
     replace F4 := bn F4 hb
     replace F5 := bn F5 hb
     replace RP := rn RP hb
     replace RS := rn RS hb
     replace RO := rn RO hb
     replace RT := rn RT hb
     replace RP1005 := rn RP1005 hb
     replace RS1005 := rn RS1005 hb
     clear hb
     refine ⟨_, rfl, ?_⟩
     refine hK.out _ _ ⟨F5.out, F3.out, F4.out⟩ (fun hHeld => ?_)
     clear hK K
     refine norm_ (a' := ?_) ?_ ?_
     rotate_left
     ·show Act.put _ (some 60) _ = _
      simp only [Act.put, List.setIfInBounds_toArray, List.set_cons_zero, List.set_cons_succ, i64_w, i32_w]
      rfl
     refine one_ (i := 11) (N := some 64) (bits 14 4095) rfl rfl (one_of HT_.out (by kernel_rfl)) (by decide) (fun K hK => ?_)
     refine goes_ Try.func43 (by kernel_rfl) rfl #[.slice AT us.length kT, .int .i64 ((j : Int))] (by rfl) rfl rfl (by (try simp only [List.map_toArray, List.map_cons, List.map_nil]); rfl) ?_
     with_reducible refine cl (impl_SessionSeq.M _ _ us (j : Int) _ (rc RT) (rl RT)) B fun w2004 hb B => ?_
     replace F3 := bn F3 hb
     replace F4 := bn F4 hb
     replace F5 := bn F5 hb
     replace RP := rn RP hb
     replace RS := rn RS hb
     replace RO := rn RO hb
     replace RT := rn RT hb
     replace RP1005 := rn RP1005 hb
     replace RS1005 := rn RS1005 hb
     clear hb
     refine ⟨_, rfl, ?_⟩
     refine hK.out _ _ ⟨F5.out, F3.out, F4.out⟩ (fun hHeld => ?_)
     clear hK K
     refine norm_ (a' := ?_) ?_ ?_
     rotate_left
     ·show Act.put _ (some 64) _ = _
      simp only [Act.put, List.setIfInBounds_toArray, List.set_cons_zero, List.set_cons_succ, i64_w, i32_w]
      rfl
     refine pu (i := 12) (N := some 65) (v := ?_) (bits 14 8191) rfl rfl (any_of HT_.out (by kernel_rfl)) (fun _ _ _ h => h) (by kernel_rfl) ?_ ?_; rotate_left; (intro w'; go_simp; with_reducible rfl)
     refine pu (i := 13) (N := some 66) (v := ?_) (bits 14 16383) rfl rfl (any_of HT_.out (by kernel_rfl)) (fun _ _ _ h => h) (by kernel_rfl) ?_ ?_; rotate_left; (intro w'; go_simp; with_reducible rfl)
     refine norm_ (a' := ?_) ?_ ?_
     rotate_left
     ·simp only [Act.put, List.setIfInBounds_toArray, List.set_cons_zero, List.set_cons_succ, i64_w, i32_w]
      rfl
     refine done_ (done_of HT_.out (by kernel_rfl)) ?_
     clear c3_0 c3_1 c3_2 c3_3 c3_4 c3_5
     obtain ⟨c3_0, c3_1, c3_2, c3_3, c3_4, c3_5⟩ := cs6 F3
     clear c4_0 c4_1 c4_2 c4_3 c4_4 c4_5
     obtain ⟨c4_0, c4_1, c4_2, c4_3, c4_4, c4_5⟩ := cs6 F4
     clear c5_0 c5_1 c5_2 c5_3 c5_4 c5_5
     obtain ⟨c5_0, c5_1, c5_2, c5_3, c5_4, c5_5⟩ := cs6 F5)
    all_goals try go_wp2
    all_goals (go_roundg d; (case measure => omega); (case rel => exact ⟨j + 1, congrArg (Value.int .i64) (by omega), by omega, by omega, B, F3, F4, F5, RP, RS, RO, RT, RP1005, RS1005⟩))
   ·have cj : decide ((j : Int) < 4) = false := decide_eq_false (by omega)
    go_wp2_with (first
     | (go_at_call 14; with_reducible refine cl (clv (impl_StateValid.M a hi _ _ xp _ _ js false (⟨#[]⟩ : ByteArray) _ (rc RP1005) (rc RS1005)) (congrArg Value.bool HV.out)) B fun w3001 hb B => ?_; replace F3 := bn F3 hb; replace F4 := bn F4 hb; replace F5 := bn F5 hb; replace RP := rn RP hb; replace RS := rn RS hb; replace RO := rn RO hb; replace RT := rn RT hb; replace RP1005 := rn RP1005 hb; replace RS1005 := rn RS1005 hb; clear c3_0 c3_1 c3_2 c3_3 c3_4 c3_5; obtain ⟨c3_0, c3_1, c3_2, c3_3, c3_4, c3_5⟩ := cs6 F3; clear c4_0 c4_1 c4_2 c4_3 c4_4 c4_5; obtain ⟨c4_0, c4_1, c4_2, c4_3, c4_4, c4_5⟩ := cs6 F4; clear c5_0 c5_1 c5_2 c5_3 c5_4 c5_5; obtain ⟨c5_0, c5_1, c5_2, c5_3, c5_4, c5_5⟩ := cs6 F5; clear hb)
     | ((with_reducible refine gate_store (t := 4) (p := 74) rfl ?_); obtain ⟨y0, y1, y2, y3, y4, y5⟩ := cs6 F5; have z0 := fz F5 0; have z1 := fz F5 1; have z2 := fz F5 2; have z3 := fz F5 3; have z4 := fz F5 4; have z5 := fz F5 5; refine sx (t := 34) (t' := 4) (p := 74) (v := ?vo3002) ?hg ?ho ?hn 4 [.bool true] [.string a, .string hi, .slice AP1005 xp.length kP1005, .slice AS1005 js.length kS1005, .bool true, .string (⟨#[]⟩ : ByteArray)] ?hr B F5 L5 rfl (Nat.le_of_ble_eq_true rfl) ?_; (case ho => rfl); (case hg => rfl); (case hn => rfl); (case hr => first | (go_simp; done) | (go_simp; rfl)); intro w3002 hk B G; replace F3 := bk F3 hk N3_5.out; replace F4 := bk F4 hk N4_5.out; replace RP := rk RP F5 (by decide) hk; replace RS := rk RS F5 (by decide) hk; replace RO := rk RO F5 (by decide) hk; replace RT := rk RT F5 (by decide) hk; replace RP1005 := rk RP1005 F5 (by decide) hk; replace RS1005 := rk RS1005 F5 (by decide) hk; replace F5 := G; clear c3_0 c3_1 c3_2 c3_3 c3_4 c3_5; obtain ⟨c3_0, c3_1, c3_2, c3_3, c3_4, c3_5⟩ := cs6 F3; clear c4_0 c4_1 c4_2 c4_3 c4_4 c4_5; obtain ⟨c4_0, c4_1, c4_2, c4_3, c4_4, c4_5⟩ := cs6 F4; clear c5_0 c5_1 c5_2 c5_3 c5_4 c5_5; obtain ⟨c5_0, c5_1, c5_2, c5_3, c5_4, c5_5⟩ := cs6 F5; clear hk y0 z0 y1 z1 y2 z2 y3 z3 y4 z4 y5 z5)
     | ((with_reducible refine gate_store (t := 9) (p := 78) rfl ?_); obtain ⟨y0, y1, y2, y3, y4, y5⟩ := cs6 F5; have z0 := fz F5 0; have z1 := fz F5 1; have z2 := fz F5 2; have z3 := fz F5 3; have z4 := fz F5 4; have z5 := fz F5 5; refine sx (t := 34) (t' := 9) (p := 78) (v := ?vo3003) ?hg ?ho ?hn 5 [.string lo] [.string a, .string hi, .slice AP1005 xp.length kP1005, .slice AS1005 js.length kS1005, .bool true, .string lo] ?hr B F5 L5 rfl (Nat.le_of_ble_eq_true rfl) ?_; (case ho => rfl); (case hg => rfl); (case hn => rfl); (case hr => first | (go_simp; done) | (go_simp; rfl)); intro w3003 hk B G; replace F3 := bk F3 hk N3_5.out; replace F4 := bk F4 hk N4_5.out; replace RP := rk RP F5 (by decide) hk; replace RS := rk RS F5 (by decide) hk; replace RO := rk RO F5 (by decide) hk; replace RT := rk RT F5 (by decide) hk; replace RP1005 := rk RP1005 F5 (by decide) hk; replace RS1005 := rk RS1005 F5 (by decide) hk; replace F5 := G; clear c3_0 c3_1 c3_2 c3_3 c3_4 c3_5; obtain ⟨c3_0, c3_1, c3_2, c3_3, c3_4, c3_5⟩ := cs6 F3; clear c4_0 c4_1 c4_2 c4_3 c4_4 c4_5; obtain ⟨c4_0, c4_1, c4_2, c4_3, c4_4, c4_5⟩ := cs6 F4; clear c5_0 c5_1 c5_2 c5_3 c5_4 c5_5; obtain ⟨c5_0, c5_1, c5_2, c5_3, c5_4, c5_5⟩ := cs6 F5; clear hk y0 z0 y1 z1 y2 z2 y3 z3 y4 z4 y5 z5)
     | (go_at_call 31; with_reducible refine c4r (impl_StateCut.Mr a hi _ _ xp _ _ js true lo a b ps js false (⟨#[]⟩ : ByteArray) lo hi qs js false (⟨#[]⟩ : ByteArray) true HK.out _ (rc RP1005) (rc RS1005) (rl RP1005) (rl RS1005)) B fun AP3004 kP3004 AS3004 kS3004 AO3004 kO3004 AT3004 kT3004 w3004 hb B RP3004 QP3004 RS3004 QS3004 RO3004 QO3004 RT3004 QT3004 DP3004_O3004 DS3004_T3004 => ?_; replace F3 := bn F3 hb; replace F4 := bn F4 hb; replace RP := rn RP hb; replace RS := rn RS hb; replace RO := rn RO hb; replace RT := rn RT hb; clear QP3004 QS3004 QO3004 QT3004; clear c3_0 c3_1 c3_2 c3_3 c3_4 c3_5; obtain ⟨c3_0, c3_1, c3_2, c3_3, c3_4, c3_5⟩ := cs6 F3; clear c4_0 c4_1 c4_2 c4_3 c4_4 c4_5; obtain ⟨c4_0, c4_1, c4_2, c4_3, c4_4, c4_5⟩ := cs6 F4; clear hb)
     | ((with_reducible refine gate_dst (N := 10) rfl ?_); refine bx ?hg (N := 10) ?hd (cs := #[.string (⟨#[]⟩ : ByteArray), .string (⟨#[]⟩ : ByteArray), .slice none 0 0, .slice none 0 0, .bool false, .string (⟨#[]⟩ : ByteArray)]) (t := 34) ?hr B ?_; (case hd => rfl); (case hg => rfl); (case hr => first | (go_simp; done) | (go_simp; rfl)); intro g10 w3005 hb B F10 L10 E10; have N3_10 := ne1 E10 F3; have N4_10 := ne1 E10 F4; replace F3 := bn F3 hb; replace F4 := bn F4 hb; replace RP := rn RP hb; replace RS := rn RS hb; replace RO := rn RO hb; replace RT := rn RT hb; replace RP3004 := rn RP3004 hb; replace RS3004 := rn RS3004 hb; replace RO3004 := rn RO3004 hb; replace RT3004 := rn RT3004 hb; clear c3_0 c3_1 c3_2 c3_3 c3_4 c3_5; obtain ⟨c3_0, c3_1, c3_2, c3_3, c3_4, c3_5⟩ := cs6 F3; clear c4_0 c4_1 c4_2 c4_3 c4_4 c4_5; obtain ⟨c4_0, c4_1, c4_2, c4_3, c4_4, c4_5⟩ := cs6 F4; obtain ⟨c10_0, c10_1, c10_2, c10_3, c10_4, c10_5⟩ := cs6 F10; clear hb E10)
     | ((with_reducible refine gate_dst (N := 11) rfl ?_); refine bx ?hg (N := 11) ?hd (cs := #[.string (⟨#[]⟩ : ByteArray), .string (⟨#[]⟩ : ByteArray), .slice none 0 0, .slice none 0 0, .bool false, .string (⟨#[]⟩ : ByteArray)]) (t := 34) ?hr B ?_; (case hd => rfl); (case hg => rfl); (case hr => first | (go_simp; done) | (go_simp; rfl)); intro g11 w3006 hb B F11 L11 E11; have N3_11 := ne1 E11 F3; have N4_11 := ne1 E11 F4; have N10_11 := ne1 E11 F10; replace F3 := bn F3 hb; replace F4 := bn F4 hb; replace F10 := bn F10 hb; replace RP := rn RP hb; replace RS := rn RS hb; replace RO := rn RO hb; replace RT := rn RT hb; replace RP3004 := rn RP3004 hb; replace RS3004 := rn RS3004 hb; replace RO3004 := rn RO3004 hb; replace RT3004 := rn RT3004 hb; clear c3_0 c3_1 c3_2 c3_3 c3_4 c3_5; obtain ⟨c3_0, c3_1, c3_2, c3_3, c3_4, c3_5⟩ := cs6 F3; clear c4_0 c4_1 c4_2 c4_3 c4_4 c4_5; obtain ⟨c4_0, c4_1, c4_2, c4_3, c4_4, c4_5⟩ := cs6 F4; clear c10_0 c10_1 c10_2 c10_3 c10_4 c10_5; obtain ⟨c10_0, c10_1, c10_2, c10_3, c10_4, c10_5⟩ := cs6 F10; obtain ⟨c11_0, c11_1, c11_2, c11_3, c11_4, c11_5⟩ := cs6 F11; clear hb E11)
     | ((with_reducible refine gate_store (t := 34) (p := 10) rfl ?_); obtain ⟨y0, y1, y2, y3, y4, y5⟩ := cs6 F10; have z0 := fz F10 0; have z1 := fz F10 1; have z2 := fz F10 2; have z3 := fz F10 3; have z4 := fz F10 4; have z5 := fz F10 5; refine sx (t := 34) (t' := 34) (p := 10) (v := ?vo3007) ?hg ?ho ?hn 0 [.string a, .string b, .slice AP3004 ps.length kP3004, .slice AS3004 js.length kS3004, .bool false, .string (⟨#[]⟩ : ByteArray)] [.string a, .string b, .slice AP3004 ps.length kP3004, .slice AS3004 js.length kS3004, .bool false, .string (⟨#[]⟩ : ByteArray)] ?hr B F10 L10 rfl (Nat.le_of_ble_eq_true rfl) ?_; (case ho => rfl); (case hg => rfl); (case hn => rfl); (case hr => first | (go_simp; done) | (go_simp; rfl)); intro w3007 hk B G; replace F3 := bk F3 hk N3_10.out; replace F4 := bk F4 hk N4_10.out; replace F11 := bk F11 hk N10_11.out.symm; replace RP := rk RP F10 (by decide) hk; replace RS := rk RS F10 (by decide) hk; replace RO := rk RO F10 (by decide) hk; replace RT := rk RT F10 (by decide) hk; replace RP3004 := rk RP3004 F10 (by decide) hk; replace RS3004 := rk RS3004 F10 (by decide) hk; replace RO3004 := rk RO3004 F10 (by decide) hk; replace RT3004 := rk RT3004 F10 (by decide) hk; replace F10 := G; clear c3_0 c3_1 c3_2 c3_3 c3_4 c3_5; obtain ⟨c3_0, c3_1, c3_2, c3_3, c3_4, c3_5⟩ := cs6 F3; clear c4_0 c4_1 c4_2 c4_3 c4_4 c4_5; obtain ⟨c4_0, c4_1, c4_2, c4_3, c4_4, c4_5⟩ := cs6 F4; clear c10_0 c10_1 c10_2 c10_3 c10_4 c10_5; obtain ⟨c10_0, c10_1, c10_2, c10_3, c10_4, c10_5⟩ := cs6 F10; clear c11_0 c11_1 c11_2 c11_3 c11_4 c11_5; obtain ⟨c11_0, c11_1, c11_2, c11_3, c11_4, c11_5⟩ := cs6 F11; clear hk y0 z0 y1 z1 y2 z2 y3 z3 y4 z4 y5 z5)
     | ((with_reducible refine gate_store (t := 34) (p := 11) rfl ?_); obtain ⟨y0, y1, y2, y3, y4, y5⟩ := cs6 F11; have z0 := fz F11 0; have z1 := fz F11 1; have z2 := fz F11 2; have z3 := fz F11 3; have z4 := fz F11 4; have z5 := fz F11 5; refine sx (t := 34) (t' := 34) (p := 11) (v := ?vo3008) ?hg ?ho ?hn 0 [.string lo, .string hi, .slice AO3004 qs.length kO3004, .slice AT3004 js.length kT3004, .bool false, .string (⟨#[]⟩ : ByteArray)] [.string lo, .string hi, .slice AO3004 qs.length kO3004, .slice AT3004 js.length kT3004, .bool false, .string (⟨#[]⟩ : ByteArray)] ?hr B F11 L11 rfl (Nat.le_of_ble_eq_true rfl) ?_; (case ho => rfl); (case hg => rfl); (case hn => rfl); (case hr => first | (go_simp; done) | (go_simp; rfl)); intro w3008 hk B G; replace F3 := bk F3 hk N3_11.out; replace F4 := bk F4 hk N4_11.out; replace F10 := bk F10 hk N10_11.out; replace RP := rk RP F11 (by decide) hk; replace RS := rk RS F11 (by decide) hk; replace RO := rk RO F11 (by decide) hk; replace RT := rk RT F11 (by decide) hk; replace RP3004 := rk RP3004 F11 (by decide) hk; replace RS3004 := rk RS3004 F11 (by decide) hk; replace RO3004 := rk RO3004 F11 (by decide) hk; replace RT3004 := rk RT3004 F11 (by decide) hk; replace F11 := G; clear c3_0 c3_1 c3_2 c3_3 c3_4 c3_5; obtain ⟨c3_0, c3_1, c3_2, c3_3, c3_4, c3_5⟩ := cs6 F3; clear c4_0 c4_1 c4_2 c4_3 c4_4 c4_5; obtain ⟨c4_0, c4_1, c4_2, c4_3, c4_4, c4_5⟩ := cs6 F4; clear c10_0 c10_1 c10_2 c10_3 c10_4 c10_5; obtain ⟨c10_0, c10_1, c10_2, c10_3, c10_4, c10_5⟩ := cs6 F10; clear c11_0 c11_1 c11_2 c11_3 c11_4 c11_5; obtain ⟨c11_0, c11_1, c11_2, c11_3, c11_4, c11_5⟩ := cs6 F11; clear hk y0 z0 y1 z1 y2 z2 y3 z3 y4 z4 y5 z5)
     | (go_at_call 28; with_reducible refine cl (laws_samePairs.M _ _ _ _ ps ps rfl _ (rc RP3004) (rl RP3004) (rc RP) (rl RP) (by assumption)) B fun w3009 hb B => ?_; replace F4 := bn F4 hb; replace F11 := bn F11 hb; replace RO := rn RO hb; replace RT := rn RT hb; replace RO3004 := rn RO3004 hb; replace RT3004 := rn RT3004 hb; clear c4_0 c4_1 c4_2 c4_3 c4_4 c4_5; obtain ⟨c4_0, c4_1, c4_2, c4_3, c4_4, c4_5⟩ := cs6 F4; clear c11_0 c11_1 c11_2 c11_3 c11_4 c11_5; obtain ⟨c11_0, c11_1, c11_2, c11_3, c11_4, c11_5⟩ := cs6 F11; clear hb)
     | (go_at_call 28; with_reducible refine cl (laws_samePairs.M _ _ _ _ qs qs rfl _ (rc RO3004) (rl RO3004) (rc RO) (rl RO) (by assumption)) B fun w3010 hb B => ?_; clear hb))
    all_goals go_ret
    all_goals exact ⟨by simp_all, B.out⟩
def laws_FnStateJoin.f (k : Nat) (l : List Int) : Option Bool := if ∀ x ∈ l, (Lit.int .u8 x).wf = true then some true else none
theorem laws_FnStateJoin.calls (k : Nat) (A0 : Option Addr) (c0 : Nat) (l : List Int) (r : Bool) (w : World) (hr0 : Kd.C (Kd.int .u8) w A0 l.length l) (hc0 : l.length ≤ c0) (h : laws_FnStateJoin.f k l = some r) : Calls Try.prog 10 #[.slice A0 l.length c0] w fun e w' => e = .returned (.bool r) ∧ Below w.heap.size w w' := by
 unfold laws_FnStateJoin.f at h
 split at h
 ·rename_i hc
  obtain rfl := Option.some.inj h
  exact laws_FnStateJoin.M A0 c0 l w hr0 hc0 hc
 ·cases h

end Go.Proofs.Ytenfiihcdhnamaa.PFnStateJoin
