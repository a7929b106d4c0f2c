-- PRINTED BY print.sh 35421559b90ae4d0a3588c463048766b98c2df88dd9212a6774a882060cdf62d: not written by this session
import Derived.Test.YtlimhkjnnpmpkaaPFnReadFramex0
import Derived.Test.YtlimhkjnnpmpkaaPFnReadFramex9
import Derived.Test.YtlimhkjnnpmpkaaPFnReadFramex15
import Derived.Test.YtlimhkjnnpmpkaaPFnReadFramex22
import Derived.Test.YtlimhkjnnpmpkaaPFnReadFramex23
namespace Go.Proofs.Ytlimhkjnnpmpkaa.PFnReadFrame
open Go.RowKit Go.Proofs.YtlimhkjnnpmpkaaW.PrintWords Go.Proofs.YtlimhkjnnpmpkaaW.PrintLast Go.Proofs.YtlimhkjnnpmpkaaW.PrintMore
attribute [local go_sem] max2_int min2_int max_two min_two max_three min_three max_four min_four   -- for this text's walks alone
set_option linter.unusedVariables false
set_option linter.unusedSimpArgs false

/-! ### spec_FrameEntry: function 27 -/
def spec_FrameEntry.j0 : Nat → Int → List Int → Bool → Option (List Int)
  | 0, _, _, _ => none
  | k + 1, x0, x5, x16 => if x16 = true then (some (([] : List Int))) else ((spec_EncodeNumber.f k x0).bind fun t364 => ((spec_EncodeNumber.f k (x5.length : Int)).bind fun t367 => (if t364.length + t367.length < 17592186044416 then ((some (t364 ++ t367 : List Int)).bind fun y370 => (if y370.length + x5.length < 17592186044416 then ((some (y370 ++ x5 : List Int)).bind fun y373 => ((spec_RecordSum.f k y373).bind fun t376 => ((spec_EncodeNumber.f k t376).bind fun t377 => (if y373.length + t377.length < 17592186044416 then (some (y373 ++ t377)) else (none))))) else (none))) else (none))))
def spec_FrameEntry.f (k : Nat) (a0 : Int) (a1_0 : Int) (a1_1 : Int) (a1_2 : Int) (a1_3 : ByteArray) (a1_4 : Int) (a1_5 : Int) : Option (List Int) := (spec_EncodeEntry.f k a1_0 a1_1 a1_2 a1_3 a1_4 a1_5).bind fun t357 => ((spec_l1In.f a0 0 23).bind fun t360 => (if t360 = true then (spec_FrameEntry.j0 k a0 t357 ((t357.length : Int) == 0)) else (spec_FrameEntry.j0 k a0 t357 true)))
theorem spec_FrameEntry.mono_l : ∀ k, (∀ y0 y1 y2, LeO (spec_FrameEntry.j0 k y0 y1 y2) (spec_FrameEntry.j0 (k + 1) y0 y1 y2))
  | 0 => fun _ _ _ r h => by simp [spec_FrameEntry.j0] at h
  | k + 1 => by
    have ih0 := spec_FrameEntry.mono_l k
    · intro y0 y1 y2
      unfold spec_FrameEntry.j0
      repeat' first
      | (with_reducible exact ih0 _ _ _)
      | (with_reducible exact spec_EncodeEntry.mono _ _ _ _ _ _ _)
      | (with_reducible exact spec_EncodeNumber.mono _ _)
      | (with_reducible exact spec_RecordSum.mono _ _)
      | (with_reducible exact LeO.refl _)
      | (with_reducible exact LeO.none _)
      | (with_reducible refine LeO.ite ?_ ?_)
      | (with_reducible refine LeO.bind ?_ (fun _ => ?_))
      | exact ih0 _ _ _
      | exact spec_EncodeEntry.mono _ _ _ _ _ _ _
      | exact spec_EncodeNumber.mono _ _
      | exact spec_RecordSum.mono _ _
      | exact LeO.none _
      | refine LeO.ite ?_ ?_
      | refine LeO.bind ?_ (fun _ => ?_)
theorem spec_FrameEntry.mono : ∀ a0 a1 a2 a3 a4 a5 a6 k, LeO (spec_FrameEntry.f k a0 a1 a2 a3 a4 a5 a6) (spec_FrameEntry.f (k + 1) a0 a1 a2 a3 a4 a5 a6) := by
  intro a0 a1 a2 a3 a4 a5 a6 k
  have ih0 := spec_FrameEntry.mono_l k
  unfold spec_FrameEntry.f
  repeat' first
      | (with_reducible exact ih0 _ _ _)
      | (with_reducible exact spec_EncodeEntry.mono _ _ _ _ _ _ _)
      | (with_reducible exact spec_EncodeNumber.mono _ _)
      | (with_reducible exact spec_RecordSum.mono _ _)
      | (with_reducible exact LeO.refl _)
      | (with_reducible exact LeO.none _)
      | (with_reducible refine LeO.ite ?_ ?_)
      | (with_reducible refine LeO.bind ?_ (fun _ => ?_))
      | exact ih0 _ _ _
      | exact spec_EncodeEntry.mono _ _ _ _ _ _ _
      | exact spec_EncodeNumber.mono _ _
      | exact spec_RecordSum.mono _ _
      | exact LeO.none _
      | refine LeO.ite ?_ ?_
      | refine LeO.bind ?_ (fun _ => ?_)
set_option maxHeartbeats 8000000 in
set_option maxRecDepth 100000 in
theorem spec_FrameEntry.calls (k : Nat) (a0 : Int) (a1_0 : Int) (a1_1 : Int) (a1_2 : Int) (a1_3 : ByteArray) (a1_4 : Int) (a1_5 : Int) (r : List Int) (w : World) (h : spec_FrameEntry.f k a0 a1_0 a1_1 a1_2 a1_3 a1_4 a1_5 = some r) :
    Calls Try.prog 27 #[.int .i64 a0, .agg #[.int .i64 a1_0, .int .i64 a1_1, .int .i64 a1_2, .string a1_3, .int .i64 a1_4, .int .i64 a1_5]] w fun e w' => ∃ v0_ : Value, e = .returned (v0_) ∧ Kd.R (Kd.int .i64) 3 w' w.heap.size (fun _ => True) v0_ r ∧ Below w.heap.size w w' := by
  have hu31 := Try.underlying31
  have HB := Aside0.mk (Below.refl w.heap.size w)
  have H : ((spec_EncodeEntry.f k a1_0 a1_1 a1_2 a1_3 a1_4 a1_5).bind fun t357 => ((spec_l1In.f a0 0 23).bind fun t360 => (if t360 = true then (spec_FrameEntry.j0 k a0 t357 ((t357.length : Int) == 0)) else (spec_FrameEntry.j0 k a0 t357 true)))) = some r := h
  clear h
  replace H := Option.bind_eq_some_iff.mp H
  obtain ⟨t357, A30, H⟩ := H
  replace H : ((spec_l1In.f a0 0 23).bind fun t360 => (if t360 = true then (spec_FrameEntry.j0 k a0 t357 ((t357.length : Int) == 0)) else (spec_FrameEntry.j0 k a0 t357 true))) = some r := H
  have A3 := Aside0.mk A30
  clear A30
  have HC4 := Aside0.mk H
  clear H
  go_enter Try.func27, Try.ntmps27
  go_upto_region 2 with (first | ((with_reducible refine gate_dst (N := 3) rfl ?_); (try (refine gate_guard (by rfl) ?_; dsimp only)); refine box_event ?hg (N := 3) ?hd (cs := #[.int .i64 a1_0, .int .i64 a1_1, .int .i64 a1_2, .string a1_3, .int .i64 a1_4, .int .i64 a1_5]) (t := 31) ?hr ?_; (case hd => rfl); (case hg => rfl); (case hr => first | (go_simp; done) | (go_simp; rfl)); intro gb356 hg w5 hbox hb; have n0_ := Aside0.mk (below_step (by repeat (first | (with_reducible first | exact HB.out | apply below_alloc | apply pw_below_drewN | apply below_drew1) | exact HB.out)) hb); have n1_ := Aside0.mk (hbox); have n2_ := Aside0.mk ((by rw [hg]; exact (below_size (by repeat (first | (with_reducible first | exact HB.out | apply below_alloc | apply pw_below_drewN | apply below_drew1) | exact HB.out))) : w.heap.size ≤ gb356)); have n3_ := Aside0.mk ((by rw [hg]; exact (below_size (by repeat (first | (with_reducible first | exact HB.out | apply below_alloc | apply pw_below_drewN | apply below_drew1) | exact HB.out))) : w.heap.size ≤ gb356)); clear HB; have HB := n0_; have BK356 := n1_; have GW356 := n2_; have GE356 := n3_; clear n0_ n1_ n2_ n3_; clear hb hbox hg; have hcz6_0 : w5.cell? ⟨gb356, 0, none⟩ = some (.int .i64 a1_0) := (blk_cell BK356.out 0).trans rfl; have hcz6_1 : w5.cell? ⟨gb356, 1, none⟩ = some (.int .i64 a1_1) := (blk_cell BK356.out 1).trans rfl; have hcz6_2 : w5.cell? ⟨gb356, 2, none⟩ = some (.int .i64 a1_2) := (blk_cell BK356.out 2).trans rfl; have hcz6_3 : w5.cell? ⟨gb356, 3, none⟩ = some (.string a1_3) := (blk_cell BK356.out 3).trans rfl; have hcz6_4 : w5.cell? ⟨gb356, 4, none⟩ = some (.int .i64 a1_4) := (blk_cell BK356.out 4).trans rfl; have hcz6_5 : w5.cell? ⟨gb356, 5, none⟩ = some (.int .i64 a1_5) := (blk_cell BK356.out 5).trans rfl; have hfz6_0 := blk_frozen BK356.out 0; have hfz6_1 := blk_frozen BK356.out 1; have hfz6_2 := blk_frozen BK356.out 2; have hfz6_3 := blk_frozen BK356.out 3; have hfz6_4 := blk_frozen BK356.out 4; have hfz6_5 := blk_frozen BK356.out 5) | ((with_reducible refine gate_callee (f := 12) rfl ?_); refine goesL_ (some 8) rfl rfl Try.func12 (by kernel_rfl) rfl #[.agg #[.int .i64 a1_0, .int .i64 a1_1, .int .i64 a1_2, .string a1_3, .int .i64 a1_4, .int .i64 a1_5]] rfl (by (try simp only [List.map_toArray, List.map_cons, List.map_nil]); first | done | rfl | (simp only [List.length_drop, List.length_take]; rfl)) ?_; (with_reducible refine (spec_EncodeEntry.calls k a1_0 a1_1 a1_2 a1_3 a1_4 a1_5 t357 _ A3.out).mono ?_); rintro e w7 ⟨v358, rfl, ho0, hb⟩; refine ⟨_, rfl, ?_⟩; have n0_ := Aside0.mk (Kd.R_lower ho0 (below_size (by repeat (first | (with_reducible first | exact HB.out | apply below_alloc | apply pw_below_drewN | apply below_drew1 | refine below_set ?_ GE356.out) | exact HB.out)))); have n1_ := Aside0.mk (blk_below (g := gb356) (o := .cells #[.int .i64 a1_0, .int .i64 a1_1, .int .i64 a1_2, .string a1_3, .int .i64 a1_4, .int .i64 a1_5] 31 (0, 0)) (by (with_reducible repeat (first | refine blk_drewN ?_ _ | refine blk_drew ?_ | refine blk_alloc ?_ _)); exact BK356.out) hb); have n2_ := Aside0.mk (below_step (by repeat (first | (with_reducible first | exact HB.out | apply below_alloc | apply pw_below_drewN | apply below_drew1 | refine below_set ?_ GE356.out) | exact HB.out)) hb); clear BK356; clear HB; have HO359 := n0_; have BK356 := n1_; have HB := n2_; clear n0_ n1_ n2_; (try clear hb); (try clear hb2); (try clear hk); (try clear hi); (try clear ho0)))
  (try simp only [Act.put, List.setIfInBounds_toArray, List.set_cons_zero, List.set_cons_succ])
  go_cut [16] (fun v16 wc => ∃ (kq : Nat) (x16_3 : Bool), v16 = .bool x16_3 ∧ Aside0 (spec_FrameEntry.j0 kq a0 t357 x16_3 = some r) ∧ Aside0 (kq ≤ k) ∧ Aside0 (Kd.R (Kd.int .i64) 3 wc w.heap.size (fun _ => True) v358 t357) ∧ Aside0 (wc.heap[gb356]? = some (.cells #[.int .i64 a1_0, .int .i64 a1_1, .int .i64 a1_2, .string a1_3, .int .i64 a1_4, .int .i64 a1_5] 31 (0, 0))) ∧ Aside0 (Below w.heap.size w wc))
  case first =>
    have H := HC4.out
    clear HC4
    replace H := Option.bind_eq_some_iff.mp H
    obtain ⟨t360, A80, H⟩ := H
    replace H : (if t360 = true then (spec_FrameEntry.j0 k a0 t357 ((t357.length : Int) == 0)) else (spec_FrameEntry.j0 k a0 t357 true)) = some r := H
    have A8 := Aside0.mk A80
    clear A80
    by_cases c9 : t360 = true
    · subst c9
      have H1 : (spec_FrameEntry.j0 k a0 t357 ((t357.length : Int) == 0)) = some r := by rw [if_pos rfl] at H; exact H
      clear H
      have H := H1
      clear H1
      have H' := Aside0.mk H
      clear H
      go_wp2_with (first | ((with_reducible refine gate_callee (f := 53) rfl ?_); refine goesL_ (some 10) rfl rfl Try.func53 (by kernel_rfl) rfl #[.int .i64 a0, .int .i64 0, .int .i64 23] rfl (by (try simp only [List.map_toArray, List.map_cons, List.map_nil]); first | done | rfl | (simp only [List.length_drop, List.length_take]; rfl)) ?_; (with_reducible refine (spec_l1In.calls a0 0 23 true _ A8.out).mono ?_); rintro e w' ⟨rfl, ⟨nd, rfl⟩⟩; refine ⟨_, rfl, ?_⟩; obtain ⟨Ao10, co10, eo10⟩ := Kd.R_slice HO359.out; subst eo10))
      go_meet
      case rel => exact ⟨_, (((t357.length : Int) == 0)), (by first | rfl | (simp; done) | (simp [*]; done)), H', ⟨by first | omega | exact Nat.le_refl _⟩, ⟨by (with_reducible repeat (first | apply Kd.R_alloc | apply Kd.R_drewN | apply Kd.R_drew)); exact HO359.out⟩, ⟨by (with_reducible repeat (first | refine blk_drewN ?_ _ | refine blk_drew ?_ | refine blk_alloc ?_ _)); exact BK356.out⟩, ⟨by repeat (first | (with_reducible first | exact HB.out | apply below_alloc | apply pw_below_drewN | apply below_drew1 | refine below_set ?_ GE356.out) | exact HB.out)⟩⟩
    · replace c9 := Bool.eq_false_iff.mpr c9
      subst c9
      have H1 : (spec_FrameEntry.j0 k a0 t357 true) = some r := by rw [if_neg (show ¬ (false = true) by decide)] at H; exact H
      clear H
      have H := H1
      clear H1
      have H' := Aside0.mk H
      clear H
      go_wp2_with (first | ((with_reducible refine gate_callee (f := 53) rfl ?_); refine goesL_ (some 10) rfl rfl Try.func53 (by kernel_rfl) rfl #[.int .i64 a0, .int .i64 0, .int .i64 23] rfl (by (try simp only [List.map_toArray, List.map_cons, List.map_nil]); first | done | rfl | (simp only [List.length_drop, List.length_take]; rfl)) ?_; (with_reducible refine (spec_l1In.calls a0 0 23 false _ A8.out).mono ?_); rintro e w' ⟨rfl, ⟨nd, rfl⟩⟩; refine ⟨_, rfl, ?_⟩))
      go_meet
      case rel => exact ⟨_, (true), (by first | rfl | (simp; done) | (simp [*]; done)), H', ⟨by first | omega | exact Nat.le_refl _⟩, ⟨by (with_reducible repeat (first | apply Kd.R_alloc | apply Kd.R_drewN | apply Kd.R_drew)); exact HO359.out⟩, ⟨by (with_reducible repeat (first | refine blk_drewN ?_ _ | refine blk_drew ?_ | refine blk_alloc ?_ _)); exact BK356.out⟩, ⟨by repeat (first | (with_reducible first | exact HB.out | apply below_alloc | apply pw_below_drewN | apply below_drew1 | refine below_set ?_ GE356.out) | exact HB.out)⟩⟩
  case rest =>
    clear HC4
    try clear c1
    try clear c2
    try clear p2
    try clear c5
    try clear c9
    try clear hcz6_0
    try clear hcz6_1
    try clear hcz6_2
    try clear hcz6_3
    try clear hcz6_4
    try clear hcz6_5
    try clear hfz6_0
    try clear hfz6_1
    try clear hfz6_2
    try clear hfz6_3
    try clear hfz6_4
    try clear hfz6_5
    obtain ⟨kq, x16_3, rfl, HA, HJ3, HO_5, BK356, HB⟩ := hcut
    cases kq with
    | zero => exact absurd HA.out (by simp [spec_FrameEntry.j0])
    | succ kj3 =>
      have H := HA.out
      clear HA
      simp only [spec_FrameEntry.j0] at H
      by_cases c11 : x16_3 = true
      · subst c11
        have H1 : (some (([] : List Int))) = some r := by rw [if_pos rfl] at H; exact H
        clear H
        have H := H1
        clear H1
        obtain ⟨y361, hy361⟩ : ∃ y_ : List Int, y_ = (([] : List Int)) := ⟨_, rfl⟩
        replace H : (some y361) = some r := by first | (rw [hy361]; with_reducible exact H) | (have H2_ := (Option.bind_some _ _).symm.trans H; rw [hy361]; with_reducible exact H2_) | (have H2_ := (Option.bind_some _ _).symm.trans H; with_reducible exact H2_) | with_reducible exact H | (rw [hy361]; exact H) | exact H
        have Ny361 := Aside0.mk hy361
        clear hy361
        obtain rfl := Option.some.inj H
        go_wp2_with (first | ((with_reducible refine gate_dst (N := 17) rfl ?_); (try (refine gate_guard (by rfl) ?_; dsimp only)); refine Kd.R_lit (Kd.int .i64) _ 3 ?hg (N := 17) ?hd (xs := ([] : List Int)) (inner := []) (ok := fun _ => True) (okp := fun _ => True) ?hr ?hp (fun _ hk => hk) trivial (Below.refl _ _) (Nat.le_refl _) (by simp) ?_; (case hd => rfl); (case hg => rfl); (case hr => first | (go_simp; done) | (go_simp; rfl)); (case hp => exact (Reps.none _ _)); intro v362 w12 ho13 hb hg_ hnew_; clear hg_ hnew_; (first | rw [← Ny361.out] at ho13 | (simp only [Int.reduceToNat] at ho13; rw [← Ny361.out] at ho13)); have n0_ := Aside0.mk (Kd.R_elder' (by (with_reducible repeat (first | apply Kd.R_alloc | apply Kd.R_drewN | apply Kd.R_drew)); exact HO_5.out) (Kd.R_base ho13) hb); have n1_ := Aside0.mk (Kd.R_lower (Kd.R_new' ho13 (Kd.R_lt (by (with_reducible repeat (first | apply Kd.R_alloc | apply Kd.R_drewN | apply Kd.R_drew)); exact HO_5.out))) (below_size (by repeat (first | (with_reducible first | exact HB.out | apply below_alloc | apply pw_below_drewN | apply below_drew1 | refine below_set ?_ GE356.out) | exact HB.out)))); have n2_ := Aside0.mk (blk_below (g := gb356) (o := .cells #[.int .i64 a1_0, .int .i64 a1_1, .int .i64 a1_2, .string a1_3, .int .i64 a1_4, .int .i64 a1_5] 31 (0, 0)) (by (with_reducible repeat (first | refine blk_drewN ?_ _ | refine blk_drew ?_ | refine blk_alloc ?_ _)); exact BK356.out) hb); have n3_ := Aside0.mk (below_step (by repeat (first | (with_reducible first | exact HB.out | apply below_alloc | apply pw_below_drewN | apply below_drew1 | refine below_set ?_ GE356.out) | exact HB.out)) hb); clear HO_5; clear BK356; clear HB; have HO_5 := n0_; have HO363 := n1_; have BK356 := n2_; have HB := n3_; clear n0_ n1_ n2_ n3_; clear hb ho13))
        go_ret
        exact ⟨_, by first | rfl | (simp [errW_none, errW_some] <;> rfl) | (simp [*, errW_none, errW_some] <;> rfl), by (with_reducible repeat (first | apply Kd.R_alloc | apply Kd.R_drewN | apply Kd.R_drew)); exact Kd.R_mono HO363.out (fun _ hk => trivial), by repeat (first | (with_reducible first | exact HB.out | apply below_alloc | apply pw_below_drewN | apply below_drew1 | refine below_set ?_ GE356.out) | exact HB.out)⟩
      · replace c11 := Bool.eq_false_iff.mpr c11
        subst c11
        have H1 : ((spec_EncodeNumber.f kj3 a0).bind fun t364 => ((spec_EncodeNumber.f kj3 (t357.length : Int)).bind fun t367 => (if t364.length + t367.length < 17592186044416 then ((some (t364 ++ t367 : List Int)).bind fun y370 => (if y370.length + t357.length < 17592186044416 then ((some (y370 ++ t357 : List Int)).bind fun y373 => ((spec_RecordSum.f kj3 y373).bind fun t376 => ((spec_EncodeNumber.f kj3 t376).bind fun t377 => (if y373.length + t377.length < 17592186044416 then (some (y373 ++ t377)) else (none))))) else (none))) else (none)))) = some r := by rw [if_neg (show ¬ (false = true) by decide)] at H; exact H
        clear H
        have H := H1
        clear H1
        replace H := Option.bind_eq_some_iff.mp H
        obtain ⟨t364, A140, H⟩ := H
        replace H : ((spec_EncodeNumber.f kj3 (t357.length : Int)).bind fun t367 => (if t364.length + t367.length < 17592186044416 then ((some (t364 ++ t367 : List Int)).bind fun y370 => (if y370.length + t357.length < 17592186044416 then ((some (y370 ++ t357 : List Int)).bind fun y373 => ((spec_RecordSum.f kj3 y373).bind fun t376 => ((spec_EncodeNumber.f kj3 t376).bind fun t377 => (if y373.length + t377.length < 17592186044416 then (some (y373 ++ t377)) else (none))))) else (none))) else (none))) = some r := H
        have A14 := Aside0.mk A140
        clear A140
        replace H := Option.bind_eq_some_iff.mp H
        obtain ⟨t367, A150, H⟩ := H
        replace H : (if t364.length + t367.length < 17592186044416 then ((some (t364 ++ t367 : List Int)).bind fun y370 => (if y370.length + t357.length < 17592186044416 then ((some (y370 ++ t357 : List Int)).bind fun y373 => ((spec_RecordSum.f kj3 y373).bind fun t376 => ((spec_EncodeNumber.f kj3 t376).bind fun t377 => (if y373.length + t377.length < 17592186044416 then (some (y373 ++ t377)) else (none))))) else (none))) else (none)) = some r := H
        have A15 := Aside0.mk A150
        clear A150
        by_cases c16 : t364.length + t367.length < 17592186044416
        · rw [if_pos c16] at H
          have LMc16 := Aside0.mk c16
          clear c16
          obtain ⟨y370, hy370⟩ : ∃ y_ : List Int, y_ = (t364 ++ t367) := ⟨_, rfl⟩
          replace H : (if y370.length + t357.length < 17592186044416 then ((some (y370 ++ t357 : List Int)).bind fun y373 => ((spec_RecordSum.f kj3 y373).bind fun t376 => ((spec_EncodeNumber.f kj3 t376).bind fun t377 => (if y373.length + t377.length < 17592186044416 then (some (y373 ++ t377)) else (none))))) else (none)) = some r := by first | (rw [hy370]; with_reducible exact H) | (have H2_ := (Option.bind_some _ _).symm.trans H; rw [hy370]; with_reducible exact H2_) | (have H2_ := (Option.bind_some _ _).symm.trans H; with_reducible exact H2_) | with_reducible exact H | (rw [hy370]; exact H) | exact H
          have Ny370 := Aside0.mk hy370
          clear hy370
          by_cases c17 : y370.length + t357.length < 17592186044416
          · rw [if_pos c17] at H
            have LMc17 := Aside0.mk c17
            clear c17
            obtain ⟨y373, hy373⟩ : ∃ y_ : List Int, y_ = (y370 ++ t357) := ⟨_, rfl⟩
            replace H : ((spec_RecordSum.f kj3 y373).bind fun t376 => ((spec_EncodeNumber.f kj3 t376).bind fun t377 => (if y373.length + t377.length < 17592186044416 then (some (y373 ++ t377)) else (none)))) = some r := by first | (rw [hy373]; with_reducible exact H) | (have H2_ := (Option.bind_some _ _).symm.trans H; rw [hy373]; with_reducible exact H2_) | (have H2_ := (Option.bind_some _ _).symm.trans H; with_reducible exact H2_) | with_reducible exact H | (rw [hy373]; exact H) | exact H
            have Ny373 := Aside0.mk hy373
            clear hy373
            replace H := Option.bind_eq_some_iff.mp H
            obtain ⟨t376, A180, H⟩ := H
            replace H : ((spec_EncodeNumber.f kj3 t376).bind fun t377 => (if y373.length + t377.length < 17592186044416 then (some (y373 ++ t377)) else (none))) = some r := H
            have A18 := Aside0.mk A180
            clear A180
            replace H := Option.bind_eq_some_iff.mp H
            obtain ⟨t377, A190, H⟩ := H
            replace H : (if y373.length + t377.length < 17592186044416 then (some (y373 ++ t377)) else (none)) = some r := H
            have A19 := Aside0.mk A190
            clear A190
            by_cases c20 : y373.length + t377.length < 17592186044416
            · rw [if_pos c20] at H
              have LMc20 := Aside0.mk c20
              clear c20
              obtain ⟨y380, hy380⟩ : ∃ y_ : List Int, y_ = (y373 ++ t377) := ⟨_, rfl⟩
              replace H : (some y380) = some r := by first | (rw [hy380]; with_reducible exact H) | (have H2_ := (Option.bind_some _ _).symm.trans H; rw [hy380]; with_reducible exact H2_) | (have H2_ := (Option.bind_some _ _).symm.trans H; with_reducible exact H2_) | with_reducible exact H | (rw [hy380]; exact H) | exact H
              have Ny380 := Aside0.mk hy380
              clear hy380
              obtain rfl := Option.some.inj H
              go_wp2_with (first | ((with_reducible refine gate_callee (f := 35) rfl ?_); refine goesL_ (some 19) rfl rfl Try.func35 (by kernel_rfl) rfl #[.int .i64 a0] rfl (by (try simp only [List.map_toArray, List.map_cons, List.map_nil]); first | done | rfl | (simp only [List.length_drop, List.length_take]; rfl)) ?_; (with_reducible refine (spec_EncodeNumber.calls kj3 a0 t364 _ A14.out).mono ?_); rintro e w21 ⟨v365, rfl, ho0, hb⟩; refine ⟨_, rfl, ?_⟩; have n0_ := Aside0.mk (Kd.R_elder' (by (with_reducible repeat (first | apply Kd.R_alloc | apply Kd.R_drewN | apply Kd.R_drew)); exact HO_5.out) (Kd.R_base ho0) hb); have n1_ := Aside0.mk (Kd.R_lower (Kd.R_new' ho0 (Kd.R_lt (by (with_reducible repeat (first | apply Kd.R_alloc | apply Kd.R_drewN | apply Kd.R_drew)); exact HO_5.out))) (below_size (by repeat (first | (with_reducible first | exact HB.out | apply below_alloc | apply pw_below_drewN | apply below_drew1 | refine below_set ?_ GE356.out) | exact HB.out)))); have n2_ := Aside0.mk (blk_below (g := gb356) (o := .cells #[.int .i64 a1_0, .int .i64 a1_1, .int .i64 a1_2, .string a1_3, .int .i64 a1_4, .int .i64 a1_5] 31 (0, 0)) (by (with_reducible repeat (first | refine blk_drewN ?_ _ | refine blk_drew ?_ | refine blk_alloc ?_ _)); exact BK356.out) hb); have n3_ := Aside0.mk (below_step (by repeat (first | (with_reducible first | exact HB.out | apply below_alloc | apply pw_below_drewN | apply below_drew1 | refine below_set ?_ GE356.out) | exact HB.out)) hb); clear HO_5; clear BK356; clear HB; have HO_5 := n0_; have HO366 := n1_; have BK356 := n2_; have HB := n3_; clear n0_ n1_ n2_ n3_; (try clear hb); (try clear hb2); (try clear hk); (try clear hi); (try clear ho0); obtain ⟨Ao22, co22, eo22⟩ := Kd.R_slice HO_5.out; subst eo22) | ((with_reducible refine gate_callee (f := 35) rfl ?_); refine goesL_ (some 23) rfl rfl Try.func35 (by kernel_rfl) rfl #[.int .i64 (t357.length : Int)] rfl (by (try simp only [List.map_toArray, List.map_cons, List.map_nil]); first | done | rfl | (simp only [List.length_drop, List.length_take]; rfl)) ?_; (with_reducible refine (spec_EncodeNumber.calls kj3 (t357.length : Int) t367 _ A15.out).mono ?_); rintro e w23 ⟨v368, rfl, ho0, hb⟩; refine ⟨_, rfl, ?_⟩; have n0_ := Aside0.mk (Kd.R_elder' (by (with_reducible repeat (first | apply Kd.R_alloc | apply Kd.R_drewN | apply Kd.R_drew)); exact HO_5.out) (Kd.R_base ho0) hb); have n1_ := Aside0.mk (Kd.R_elder' (by (with_reducible repeat (first | apply Kd.R_alloc | apply Kd.R_drewN | apply Kd.R_drew)); exact HO366.out) (Kd.R_base ho0) hb); have n2_ := Aside0.mk (Kd.R_lower (Kd.R_new' (Kd.R_new' ho0 (Kd.R_lt (by (with_reducible repeat (first | apply Kd.R_alloc | apply Kd.R_drewN | apply Kd.R_drew)); exact HO_5.out))) (Kd.R_lt (by (with_reducible repeat (first | apply Kd.R_alloc | apply Kd.R_drewN | apply Kd.R_drew)); exact HO366.out))) (below_size (by repeat (first | (with_reducible first | exact HB.out | apply below_alloc | apply pw_below_drewN | apply below_drew1 | refine below_set ?_ GE356.out) | exact HB.out)))); have n3_ := Aside0.mk (blk_below (g := gb356) (o := .cells #[.int .i64 a1_0, .int .i64 a1_1, .int .i64 a1_2, .string a1_3, .int .i64 a1_4, .int .i64 a1_5] 31 (0, 0)) (by (with_reducible repeat (first | refine blk_drewN ?_ _ | refine blk_drew ?_ | refine blk_alloc ?_ _)); exact BK356.out) hb); have n4_ := Aside0.mk (below_step (by repeat (first | (with_reducible first | exact HB.out | apply below_alloc | apply pw_below_drewN | apply below_drew1 | refine below_set ?_ GE356.out) | exact HB.out)) hb); clear HO_5; clear HO366; clear BK356; clear HB; have HO_5 := n0_; have HO366 := n1_; have HO369 := n2_; have BK356 := n3_; have HB := n4_; clear n0_ n1_ n2_ n3_ n4_; (try clear hb); (try clear hb2); (try clear hk); (try clear hi); (try clear ho0); obtain ⟨Ao25, co25, eo25⟩ := Kd.R_slice HO369.out; subst eo25) | ((with_reducible refine gate_builtin (b := .append) (xs := #[.tmp 20, .tmp 23]) rfl ?_); (try (refine gate_guard (by rfl) ?_; dsimp only)); at_builtin; refine Kd.R_append_rows (Kd.int .i64) (w0 := w) w.heap.size rfl (.tmp 20) (.tmp 23) 27 3 (.int .i64 0) 8 rfl Try.underlying27 info3 rfl (by decide) (by omega) v365 t364 t367 _ _ _ (fun k_ => some k_ ≠ (.slice Ao22 t357.length co22 : Value).ownBlock ∧ some k_ ≠ (.slice Ao25 t367.length co25 : Value).ownBlock) (fun _ => False) rfl rfl ?aO ?aR (fun _ _ h => h) (fun _ h => h.elim) ?aF ?aB ?aS ?aL ?_; (case aR => repeat (first | exact (Kd.R_reads' HO369.out).2.2 | (with_reducible refine Kd.C_alloc ?_ _) | (with_reducible refine Kd.C_drewN ?_ _) | (with_reducible refine Kd.C_drew ?_))); (case aB => exact (by repeat (first | (with_reducible first | exact HB.out | apply below_alloc | apply pw_below_drewN | apply below_drew1 | refine below_set ?_ GE356.out) | exact HB.out))); (case aF => exact (fun k_ hk => ⟨Kd.fresh' (Kd.R_lt (by (with_reducible repeat (first | apply Kd.R_alloc | apply Kd.R_drewN | apply Kd.R_drew)); exact HO_5.out)) k_ hk, Kd.fresh' (Kd.R_lt (by (with_reducible repeat (first | apply Kd.R_alloc | apply Kd.R_drewN | apply Kd.R_drew)); exact HO369.out)) k_ hk⟩)); (case aO => exact (by (with_reducible repeat (first | apply Kd.R_alloc | apply Kd.R_drewN | apply Kd.R_drew)); exact Kd.R_mono HO366.out (fun _ hk => ⟨hk.1.2, hk.2⟩))); (case aS => exact (below_size (by repeat (first | (with_reducible first | exact HB.out | apply below_alloc | apply pw_below_drewN | apply below_drew1 | refine below_set ?_ GE356.out) | exact HB.out)))); (case aL => have := LMc16.out; omega); intro v371 w24 ho hb hg hat; rw [← Ny370.out] at ho; have n0_ := Aside0.mk (Kd.R_after (ok := (fun k_ => some k_ ≠ (.slice Ao25 t367.length co25 : Value).ownBlock)) (by (with_reducible repeat (first | apply Kd.R_alloc | apply Kd.R_drewN | apply Kd.R_drew)); exact Kd.R_mono HO_5.out (fun _ hk => ⟨hk.2, hk.1.2⟩)) hg hat); have n1_ := Aside0.mk (blk_grown (g := gb356) (o := .cells #[.int .i64 a1_0, .int .i64 a1_1, .int .i64 a1_2, .string a1_3, .int .i64 a1_4, .int .i64 a1_5] 31 (0, 0)) (by (with_reducible repeat (first | refine blk_drewN ?_ _ | refine blk_drew ?_ | refine blk_alloc ?_ _)); exact BK356.out) hg (Kd.R_ne HO366.out BK356.out (by decide))); have n2_ := Aside0.mk (Kd.R_after (ok := (fun k_ => some k_ ≠ (.slice Ao22 t357.length co22 : Value).ownBlock)) (by (with_reducible repeat (first | apply Kd.R_alloc | apply Kd.R_drewN | apply Kd.R_drew)); exact Kd.R_mono HO369.out (fun _ hk => ⟨hk.1.2, hk.2⟩)) hg hat); have n3_ := Aside0.mk (hb); have n4_ := Aside0.mk (ho); clear HO_5; clear BK356; clear HO369; clear HB; clear HO366; have HO_5 := n0_; have BK356 := n1_; have HO369 := n2_; have HB := n3_; have HO372 := n4_; clear n0_ n1_ n2_ n3_ n4_; clear ho hb hg hat) | ((with_reducible refine gate_builtin (b := .append) (xs := #[.tmp 25, .tmp 26]) rfl ?_); (try (refine gate_guard (by rfl) ?_; dsimp only)); at_builtin; refine Kd.R_append_rows (Kd.int .i64) (w0 := w) w.heap.size rfl (.tmp 25) (.tmp 26) 27 3 (.int .i64 0) 8 rfl Try.underlying27 info3 rfl (by decide) (by omega) v371 y370 t357 _ _ _ (fun k_ => some k_ ≠ (.slice Ao22 t357.length co22 : Value).ownBlock ∧ some k_ ≠ (.slice Ao25 t367.length co25 : Value).ownBlock) (fun _ => False) rfl rfl ?aO ?aR (fun _ _ h => h) (fun _ h => h.elim) ?aF ?aB ?aS ?aL ?_; (case aR => repeat (first | exact (Kd.R_reads' HO_5.out).2.2 | (with_reducible refine Kd.C_alloc ?_ _) | (with_reducible refine Kd.C_drewN ?_ _) | (with_reducible refine Kd.C_drew ?_))); (case aB => exact (by repeat (first | (with_reducible first | exact HB.out | apply below_alloc | apply pw_below_drewN | apply below_drew1 | refine below_set ?_ GE356.out) | exact HB.out))); (case aF => exact (fun k_ hk => ⟨Kd.fresh' (Kd.R_lt (by (with_reducible repeat (first | apply Kd.R_alloc | apply Kd.R_drewN | apply Kd.R_drew)); exact HO_5.out)) k_ hk, Kd.fresh' (Kd.R_lt (by (with_reducible repeat (first | apply Kd.R_alloc | apply Kd.R_drewN | apply Kd.R_drew)); exact HO369.out)) k_ hk⟩)); (case aO => exact (by (with_reducible repeat (first | apply Kd.R_alloc | apply Kd.R_drewN | apply Kd.R_drew)); exact HO372.out)); (case aS => exact (below_size (by repeat (first | (with_reducible first | exact HB.out | apply below_alloc | apply pw_below_drewN | apply below_drew1 | refine below_set ?_ GE356.out) | exact HB.out)))); (case aL => have := LMc17.out; omega); intro v374 w26 ho hb hg hat; rw [← Ny373.out] at ho; have n0_ := Aside0.mk (Kd.R_after (ok := (fun k_ => some k_ ≠ (.slice Ao25 t367.length co25 : Value).ownBlock)) (by (with_reducible repeat (first | apply Kd.R_alloc | apply Kd.R_drewN | apply Kd.R_drew)); exact HO_5.out) hg hat); have n1_ := Aside0.mk (blk_grown (g := gb356) (o := .cells #[.int .i64 a1_0, .int .i64 a1_1, .int .i64 a1_2, .string a1_3, .int .i64 a1_4, .int .i64 a1_5] 31 (0, 0)) (by (with_reducible repeat (first | refine blk_drewN ?_ _ | refine blk_drew ?_ | refine blk_alloc ?_ _)); exact BK356.out) hg (Kd.R_ne HO372.out BK356.out (by decide))); have n2_ := Aside0.mk (Kd.R_after (ok := (fun k_ => some k_ ≠ (.slice Ao22 t357.length co22 : Value).ownBlock)) (by (with_reducible repeat (first | apply Kd.R_alloc | apply Kd.R_drewN | apply Kd.R_drew)); exact HO369.out) hg hat); have n3_ := Aside0.mk (hb); have n4_ := Aside0.mk (ho); clear HO_5; clear BK356; clear HO369; clear HB; clear HO372; have HO_5 := n0_; have BK356 := n1_; have HO369 := n2_; have HB := n3_; have HO375 := n4_; clear n0_ n1_ n2_ n3_ n4_; clear ho hb hg hat; obtain ⟨Ao27, co27, eo27⟩ := Kd.R_slice HO375.out; subst eo27) | ((with_reducible refine gate_callee (f := 54) rfl ?_); refine goesL_ (some 30) rfl rfl Try.func54 (by kernel_rfl) rfl #[.slice Ao27 y373.length co27] rfl (by (try simp only [List.map_toArray, List.map_cons, List.map_nil]); first | done | rfl | (simp only [List.length_drop, List.length_take]; rfl)) ?_; (with_reducible refine (spec_RecordSum.calls kj3 _ _ y373 t376 _ ?side1 ?side2 A18.out).mono ?_); (case side1 => repeat (first | exact (Kd.R_reads' HO375.out).2.2 | (with_reducible refine Kd.C_alloc ?_ _) | (with_reducible refine Kd.C_drewN ?_ _) | (with_reducible refine Kd.C_drew ?_))); (case side2 => exact (Kd.R_reads' HO375.out).2.1); rintro e w' ⟨rfl, ⟨nd, rfl⟩⟩; refine ⟨_, rfl, ?_⟩) | ((with_reducible refine gate_callee (f := 35) rfl ?_); refine goesL_ (some 31) rfl rfl Try.func35 (by kernel_rfl) rfl #[.int .i64 t376] rfl (by (try simp only [List.map_toArray, List.map_cons, List.map_nil]); first | done | rfl | (simp only [List.length_drop, List.length_take]; rfl)) ?_; (with_reducible refine (spec_EncodeNumber.calls kj3 t376 t377 _ A19.out).mono ?_); rintro e w28 ⟨v378, rfl, ho0, hb⟩; refine ⟨_, rfl, ?_⟩; have n0_ := Aside0.mk (Kd.R_elder' (by (with_reducible repeat (first | apply Kd.R_alloc | apply Kd.R_drewN | apply Kd.R_drew)); exact HO_5.out) (Kd.R_base ho0) hb); have n1_ := Aside0.mk (Kd.R_elder' (by (with_reducible repeat (first | apply Kd.R_alloc | apply Kd.R_drewN | apply Kd.R_drew)); exact HO369.out) (Kd.R_base ho0) hb); have n2_ := Aside0.mk (Kd.R_elder' (by (with_reducible repeat (first | apply Kd.R_alloc | apply Kd.R_drewN | apply Kd.R_drew)); exact HO375.out) (Kd.R_base ho0) hb); have n3_ := Aside0.mk (Kd.R_lower (Kd.R_new' (Kd.R_new' (Kd.R_new' ho0 (Kd.R_lt (by (with_reducible repeat (first | apply Kd.R_alloc | apply Kd.R_drewN | apply Kd.R_drew)); exact HO_5.out))) (Kd.R_lt (by (with_reducible repeat (first | apply Kd.R_alloc | apply Kd.R_drewN | apply Kd.R_drew)); exact HO369.out))) (Kd.R_lt (by (with_reducible repeat (first | apply Kd.R_alloc | apply Kd.R_drewN | apply Kd.R_drew)); exact HO375.out))) (below_size (by repeat (first | (with_reducible first | exact HB.out | apply below_alloc | apply pw_below_drewN | apply below_drew1 | refine below_set ?_ GE356.out) | exact HB.out)))); have n4_ := Aside0.mk (blk_below (g := gb356) (o := .cells #[.int .i64 a1_0, .int .i64 a1_1, .int .i64 a1_2, .string a1_3, .int .i64 a1_4, .int .i64 a1_5] 31 (0, 0)) (by (with_reducible repeat (first | refine blk_drewN ?_ _ | refine blk_drew ?_ | refine blk_alloc ?_ _)); exact BK356.out) hb); have n5_ := Aside0.mk (below_step (by repeat (first | (with_reducible first | exact HB.out | apply below_alloc | apply pw_below_drewN | apply below_drew1 | refine below_set ?_ GE356.out) | exact HB.out)) hb); clear HO_5; clear HO369; clear HO375; clear BK356; clear HB; have HO_5 := n0_; have HO369 := n1_; have HO375 := n2_; have HO379 := n3_; have BK356 := n4_; have HB := n5_; clear n0_ n1_ n2_ n3_ n4_ n5_; (try clear hb); (try clear hb2); (try clear hk); (try clear hi); (try clear ho0); obtain ⟨Ao30, co30, eo30⟩ := Kd.R_slice HO379.out; subst eo30) | ((with_reducible refine gate_builtin (b := .append) (xs := #[.tmp 28, .tmp 31]) rfl ?_); (try (refine gate_guard (by rfl) ?_; dsimp only)); at_builtin; refine Kd.R_append_rows (Kd.int .i64) (w0 := w) w.heap.size rfl (.tmp 28) (.tmp 31) 27 3 (.int .i64 0) 8 rfl Try.underlying27 info3 rfl (by decide) (by omega) (.slice Ao27 y373.length co27) y373 t377 _ _ _ (fun k_ => some k_ ≠ (.slice Ao22 t357.length co22 : Value).ownBlock ∧ some k_ ≠ (.slice Ao25 t367.length co25 : Value).ownBlock ∧ some k_ ≠ (.slice Ao30 t377.length co30 : Value).ownBlock) (fun _ => False) rfl rfl ?aO ?aR (fun _ _ h => h) (fun _ h => h.elim) ?aF ?aB ?aS ?aL ?_; (case aR => repeat (first | exact (Kd.R_reads' HO379.out).2.2 | (with_reducible refine Kd.C_alloc ?_ _) | (with_reducible refine Kd.C_drewN ?_ _) | (with_reducible refine Kd.C_drew ?_))); (case aB => exact (by repeat (first | (with_reducible first | exact HB.out | apply below_alloc | apply pw_below_drewN | apply below_drew1 | refine below_set ?_ GE356.out) | exact HB.out))); (case aF => exact (fun k_ hk => ⟨Kd.fresh' (Kd.R_lt (by (with_reducible repeat (first | apply Kd.R_alloc | apply Kd.R_drewN | apply Kd.R_drew)); exact HO_5.out)) k_ hk, Kd.fresh' (Kd.R_lt (by (with_reducible repeat (first | apply Kd.R_alloc | apply Kd.R_drewN | apply Kd.R_drew)); exact HO369.out)) k_ hk, Kd.fresh' (Kd.R_lt (by (with_reducible repeat (first | apply Kd.R_alloc | apply Kd.R_drewN | apply Kd.R_drew)); exact HO379.out)) k_ hk⟩)); (case aO => exact (by (with_reducible repeat (first | apply Kd.R_alloc | apply Kd.R_drewN | apply Kd.R_drew)); exact Kd.R_mono HO375.out (fun _ hk => ⟨hk.1.1, ⟨hk.1.2, hk.2⟩⟩))); (case aS => exact (below_size (by repeat (first | (with_reducible first | exact HB.out | apply below_alloc | apply pw_below_drewN | apply below_drew1 | refine below_set ?_ GE356.out) | exact HB.out)))); (case aL => have := LMc20.out; omega); intro v381 w29 ho hb hg hat; rw [← Ny380.out] at ho; have n0_ := Aside0.mk (Kd.R_after (ok := (fun k_ => some k_ ≠ (.slice Ao25 t367.length co25 : Value).ownBlock ∧ some k_ ≠ (.slice Ao30 t377.length co30 : Value).ownBlock)) (by (with_reducible repeat (first | apply Kd.R_alloc | apply Kd.R_drewN | apply Kd.R_drew)); exact Kd.R_mono HO_5.out (fun _ hk => ⟨⟨hk.1.1, hk.2⟩, hk.1.2⟩)) hg hat); have n1_ := Aside0.mk (blk_grown (g := gb356) (o := .cells #[.int .i64 a1_0, .int .i64 a1_1, .int .i64 a1_2, .string a1_3, .int .i64 a1_4, .int .i64 a1_5] 31 (0, 0)) (by (with_reducible repeat (first | refine blk_drewN ?_ _ | refine blk_drew ?_ | refine blk_alloc ?_ _)); exact BK356.out) hg (Kd.R_ne HO375.out BK356.out (by decide))); have n2_ := Aside0.mk (Kd.R_after (ok := (fun k_ => some k_ ≠ (.slice Ao22 t357.length co22 : Value).ownBlock ∧ some k_ ≠ (.slice Ao30 t377.length co30 : Value).ownBlock)) (by (with_reducible repeat (first | apply Kd.R_alloc | apply Kd.R_drewN | apply Kd.R_drew)); exact Kd.R_mono HO369.out (fun _ hk => ⟨⟨hk.1.1, hk.2⟩, hk.1.2⟩)) hg hat); have n3_ := Aside0.mk (Kd.R_after (ok := (fun k_ => some k_ ≠ (.slice Ao22 t357.length co22 : Value).ownBlock ∧ some k_ ≠ (.slice Ao25 t367.length co25 : Value).ownBlock)) (by (with_reducible repeat (first | apply Kd.R_alloc | apply Kd.R_drewN | apply Kd.R_drew)); exact Kd.R_mono HO379.out (fun _ hk => ⟨⟨hk.1.1.2, hk.1.2⟩, hk.2⟩)) hg hat); have n4_ := Aside0.mk (hb); have n5_ := Aside0.mk (ho); clear HO_5; clear BK356; clear HO369; clear HO379; clear HB; clear HO375; have HO_5 := n0_; have BK356 := n1_; have HO369 := n2_; have HO379 := n3_; have HB := n4_; have HO382 := n5_; clear n0_ n1_ n2_ n3_ n4_ n5_; clear ho hb hg hat))
              go_ret
              exact ⟨_, by first | rfl | (simp [errW_none, errW_some] <;> rfl) | (simp [*, errW_none, errW_some] <;> rfl), by (with_reducible repeat (first | apply Kd.R_alloc | apply Kd.R_drewN | apply Kd.R_drew)); exact Kd.R_mono HO382.out (fun _ hk => trivial), by repeat (first | (with_reducible first | exact HB.out | apply below_alloc | apply pw_below_drewN | apply below_drew1 | refine below_set ?_ GE356.out) | exact HB.out)⟩
            · rw [if_neg c20] at H
              exact absurd H (by simp)
          · rw [if_neg c17] at H
            exact absurd H (by simp)
        · rw [if_neg c16] at H
          exact absurd H (by simp)

end Go.Proofs.Ytlimhkjnnpmpkaa.PFnReadFrame
