-- PRINTED BY print.sh 35421559b90ae4d0a3588c463048766b98c2df88dd9212a6774a882060cdf62d: not written by this session
import Derived.Test.YthfmpcaflplnbaaPFnApplyCommandx0
import Derived.Test.YthfmpcaflplnbaaPFnApplyCommandx7
import Derived.Test.YthfmpcaflplnbaaPFnApplyCommandx24
import Derived.Test.YthfmpcaflplnbaaPFnApplyCommandx25
import Derived.Test.YthfmpcaflplnbaaPFnApplyCommandx31
import Derived.Test.YthfmpcaflplnbaaPFnApplyCommandx33
import Derived.Test.YthfmpcaflplnbaaPFnApplyCommandx34
namespace Go.Proofs.Ythfmpcaflplnbaa.PFnApplyCommand
open Go.RowKit Go.Proofs.YthfmpcaflplnbaaW.PrintWords Go.Proofs.YthfmpcaflplnbaaW.PrintLast Go.Proofs.YthfmpcaflplnbaaW.PrintMore
attribute [local go_sem] max2_int min2_int max_two min_two max_three min_three max_four min_four   -- for this text's walks alone
set_option linter.unusedVariables false
set_option linter.unusedSimpArgs false

/-! ### spec_DrawApplyCommand: function 17 -/
mutual
def spec_DrawApplyCommand.j0 : Nat → List (S42) → Bool → List Int → Int → Int → ByteArray → Int → Int → Option ((List (S42)) × Int × ByteArray × Int × Int)
  | 0, _, _, _, _, _, _, _, _ => none
  | k + 1, x5, x20, x360000, x360001, x370000, x370001, x370002, x370003 => if x20 = true then ((spec_l20Near.f k x360000 x360001 x5 0).bind fun bt372 => (spec_DrawApplyCommand.j1 k x5 x360000 bt372.2 x370000 bt372.1 x370002 x370003)) else (spec_DrawApplyCommand.j1 k x5 x360000 x360001 x370000 x370001 x370002 x370003)
def spec_DrawApplyCommand.j1 : Nat → List (S42) → List Int → Int → Int → ByteArray → Int → Int → Option ((List (S42)) × Int × ByteArray × Int × Int)
  | 0, _, _, _, _, _, _, _ => none
  | k + 1, x5, x360000, x360001, x370000, x370001, x370002, x370003 => if x370000 = 4 then ((spec_l20Rd_pick.f k x360000 x360001 2).bind fun bt374 => (if bt374.1 = 0 then ((spec_PairGet.f k x5 x370001).bind fun t376 => (some (x5, x370000, x370001, x370002, t376))) else (some (x5, x370000, x370001, x370002, x370003)))) else (some (x5, x370000, x370001, x370002, x370003))
end
def spec_DrawApplyCommand.f (k : Nat) (l0 : List Int) : Option ((List (S42)) × Int × ByteArray × Int × Int) := (spec_l20Open.f l0).bind fun bt357 => ((spec_l20Pairs.f k bt357.1 bt357.2 14).bind fun bt360 => ((spec_l20Any.f k bt357.1 bt360.2 14).bind fun bt364 => ((spec_l20Rd_pick.f k bt357.1 bt364.2.2.2.2 2).bind fun bt370 => (if bt370.1 = 0 then (spec_DrawApplyCommand.j0 k bt360.1 (bt364.1 != 5) bt357.1 bt370.2 bt364.1 bt364.2.1 bt364.2.2.1 bt364.2.2.2.1) else (spec_DrawApplyCommand.j0 k bt360.1 false bt357.1 bt370.2 bt364.1 bt364.2.1 bt364.2.2.1 bt364.2.2.2.1)))))
theorem spec_DrawApplyCommand.mono_l : ∀ k, (∀ y0 y1 y2 y3 y4 y5 y6 y7, LeO (spec_DrawApplyCommand.j0 k y0 y1 y2 y3 y4 y5 y6 y7) (spec_DrawApplyCommand.j0 (k + 1) y0 y1 y2 y3 y4 y5 y6 y7)) ∧ (∀ y0 y1 y2 y3 y4 y5 y6, LeO (spec_DrawApplyCommand.j1 k y0 y1 y2 y3 y4 y5 y6) (spec_DrawApplyCommand.j1 (k + 1) y0 y1 y2 y3 y4 y5 y6))
  | 0 => ⟨fun _ _ _ _ _ _ _ _ r h => by simp [spec_DrawApplyCommand.j0] at h, fun _ _ _ _ _ _ _ r h => by simp [spec_DrawApplyCommand.j1] at h⟩
  | k + 1 => by
    obtain ⟨ih0, ih1⟩ := spec_DrawApplyCommand.mono_l k
    refine ⟨?_, ?_⟩
    · intro y0 y1 y2 y3 y4 y5 y6 y7
      unfold spec_DrawApplyCommand.j0
      repeat' first
      | (with_reducible exact ih0 _ _ _ _ _ _ _ _)
      | (with_reducible exact ih1 _ _ _ _ _ _ _)
      | (with_reducible exact spec_PairGet.mono _ _ _)
      | (with_reducible exact spec_l20Any.mono _ _ _ _)
      | (with_reducible exact spec_l20Near.mono _ _ _ _ _)
      | (with_reducible exact spec_l20Pairs.mono _ _ _ _)
      | (with_reducible exact spec_l20Rd_pick.mono _ _ _ _)
      | (with_reducible exact LeO.refl _)
      | (with_reducible exact LeO.none _)
      | (with_reducible refine LeO.ite ?_ ?_)
      | (with_reducible refine LeO.bind ?_ (fun _ => ?_))
      | exact ih0 _ _ _ _ _ _ _ _
      | exact ih1 _ _ _ _ _ _ _
      | exact spec_PairGet.mono _ _ _
      | exact spec_l20Any.mono _ _ _ _
      | exact spec_l20Near.mono _ _ _ _ _
      | exact spec_l20Pairs.mono _ _ _ _
      | exact spec_l20Rd_pick.mono _ _ _ _
      | exact LeO.none _
      | refine LeO.ite ?_ ?_
      | refine LeO.bind ?_ (fun _ => ?_)
    · intro y0 y1 y2 y3 y4 y5 y6
      unfold spec_DrawApplyCommand.j1
      repeat' first
      | (with_reducible exact ih0 _ _ _ _ _ _ _ _)
      | (with_reducible exact ih1 _ _ _ _ _ _ _)
      | (with_reducible exact spec_PairGet.mono _ _ _)
      | (with_reducible exact spec_l20Any.mono _ _ _ _)
      | (with_reducible exact spec_l20Near.mono _ _ _ _ _)
      | (with_reducible exact spec_l20Pairs.mono _ _ _ _)
      | (with_reducible exact spec_l20Rd_pick.mono _ _ _ _)
      | (with_reducible exact LeO.refl _)
      | (with_reducible exact LeO.none _)
      | (with_reducible refine LeO.ite ?_ ?_)
      | (with_reducible refine LeO.bind ?_ (fun _ => ?_))
      | exact ih0 _ _ _ _ _ _ _ _
      | exact ih1 _ _ _ _ _ _ _
      | exact spec_PairGet.mono _ _ _
      | exact spec_l20Any.mono _ _ _ _
      | exact spec_l20Near.mono _ _ _ _ _
      | exact spec_l20Pairs.mono _ _ _ _
      | exact spec_l20Rd_pick.mono _ _ _ _
      | exact LeO.none _
      | refine LeO.ite ?_ ?_
      | refine LeO.bind ?_ (fun _ => ?_)
theorem spec_DrawApplyCommand.mono : ∀ a0 k, LeO (spec_DrawApplyCommand.f k a0) (spec_DrawApplyCommand.f (k + 1) a0) := by
  intro a0 k
  obtain ⟨ih0, ih1⟩ := spec_DrawApplyCommand.mono_l k
  unfold spec_DrawApplyCommand.f
  repeat' first
      | (with_reducible exact ih0 _ _ _ _ _ _ _ _)
      | (with_reducible exact ih1 _ _ _ _ _ _ _)
      | (with_reducible exact spec_PairGet.mono _ _ _)
      | (with_reducible exact spec_l20Any.mono _ _ _ _)
      | (with_reducible exact spec_l20Near.mono _ _ _ _ _)
      | (with_reducible exact spec_l20Pairs.mono _ _ _ _)
      | (with_reducible exact spec_l20Rd_pick.mono _ _ _ _)
      | (with_reducible exact LeO.refl _)
      | (with_reducible exact LeO.none _)
      | (with_reducible refine LeO.ite ?_ ?_)
      | (with_reducible refine LeO.bind ?_ (fun _ => ?_))
      | exact ih0 _ _ _ _ _ _ _ _
      | exact ih1 _ _ _ _ _ _ _
      | exact spec_PairGet.mono _ _ _
      | exact spec_l20Any.mono _ _ _ _
      | exact spec_l20Near.mono _ _ _ _ _
      | exact spec_l20Pairs.mono _ _ _ _
      | exact spec_l20Rd_pick.mono _ _ _ _
      | exact LeO.none _
      | refine LeO.ite ?_ ?_
      | refine LeO.bind ?_ (fun _ => ?_)
set_option maxHeartbeats 8000000 in
set_option maxRecDepth 100000 in
theorem spec_DrawApplyCommand.calls (k : Nat) (A0 : Option Addr) (c0 : Nat) (l0 : List Int) (r1 : List (S42)) (r2 : Int) (r3 : ByteArray) (r4 : Int) (r5 : Int) (w : World) (hr0 : Kd.C (Kd.int .u8) w A0 l0.length l0) (hc0 : l0.length ≤ c0) (h : spec_DrawApplyCommand.f k l0 = some (r1, r2, r3, r4, r5)) :
    Calls Try.prog 17 #[.slice A0 l0.length c0] w fun e w' => ∃ v0_ : Value, e = .returned (.tuple #[v0_, .agg #[.int .i64 r2, .string r3, .int .i64 r4, .int .i64 r5]]) ∧ Kd.R k42 42 w' w.heap.size (fun _ => True) v0_ r1 ∧ Below w.heap.size w w' := by
  have hu31 := Try.underlying31
  have HR0 := Aside0.mk hr0
  have HC0 := Aside0.mk hc0
  clear hr0 hc0
  have HB := Aside0.mk (Below.refl w.heap.size w)
  have H : ((spec_l20Open.f l0).bind fun bt357 => ((spec_l20Pairs.f k bt357.1 bt357.2 14).bind fun bt360 => ((spec_l20Any.f k bt357.1 bt360.2 14).bind fun bt364 => ((spec_l20Rd_pick.f k bt357.1 bt364.2.2.2.2 2).bind fun bt370 => (if bt370.1 = 0 then (spec_DrawApplyCommand.j0 k bt360.1 (bt364.1 != 5) bt357.1 bt370.2 bt364.1 bt364.2.1 bt364.2.2.1 bt364.2.2.2.1) else (spec_DrawApplyCommand.j0 k bt360.1 false bt357.1 bt370.2 bt364.1 bt364.2.1 bt364.2.2.1 bt364.2.2.2.1)))))) = some (r1, r2, r3, r4, r5) := h
  clear h
  replace H := Option.bind_eq_some_iff.mp H
  obtain ⟨⟨t357, t358⟩, A20, H⟩ := H
  replace H : ((spec_l20Pairs.f k t357 t358 14).bind fun bt360 => ((spec_l20Any.f k t357 bt360.2 14).bind fun bt364 => ((spec_l20Rd_pick.f k t357 bt364.2.2.2.2 2).bind fun bt370 => (if bt370.1 = 0 then (spec_DrawApplyCommand.j0 k bt360.1 (bt364.1 != 5) t357 bt370.2 bt364.1 bt364.2.1 bt364.2.2.1 bt364.2.2.2.1) else (spec_DrawApplyCommand.j0 k bt360.1 false t357 bt370.2 bt364.1 bt364.2.1 bt364.2.2.1 bt364.2.2.2.1))))) = some (r1, r2, r3, r4, r5) := H
  have A2 := Aside0.mk A20
  clear A20
  replace H := Option.bind_eq_some_iff.mp H
  obtain ⟨⟨t360, t363⟩, A30, H⟩ := H
  replace H : ((spec_l20Any.f k t357 t363 14).bind fun bt364 => ((spec_l20Rd_pick.f k t357 bt364.2.2.2.2 2).bind fun bt370 => (if bt370.1 = 0 then (spec_DrawApplyCommand.j0 k t360 (bt364.1 != 5) t357 bt370.2 bt364.1 bt364.2.1 bt364.2.2.1 bt364.2.2.2.1) else (spec_DrawApplyCommand.j0 k t360 false t357 bt370.2 bt364.1 bt364.2.1 bt364.2.2.1 bt364.2.2.2.1)))) = some (r1, r2, r3, r4, r5) := H
  have A3 := Aside0.mk A30
  clear A30
  replace H := Option.bind_eq_some_iff.mp H
  obtain ⟨⟨t364, t365, t366, t367, t368⟩, A40, H⟩ := H
  replace H : ((spec_l20Rd_pick.f k t357 t368 2).bind fun bt370 => (if bt370.1 = 0 then (spec_DrawApplyCommand.j0 k t360 (t364 != 5) t357 bt370.2 t364 t365 t366 t367) else (spec_DrawApplyCommand.j0 k t360 false t357 bt370.2 t364 t365 t366 t367))) = some (r1, r2, r3, r4, r5) := H
  have A4 := Aside0.mk A40
  clear A40
  have HC5 := Aside0.mk H
  clear H
  go_enter Try.func17, Try.ntmps17
  go_upto_region 4 with (first | ((with_reducible refine gate_dst (N := 3) rfl ?_); refine box_event ?hg (N := 3) ?hd (cs := #[.int .i64 0, .string (⟨#[]⟩ : ByteArray), .int .i64 0, .int .i64 0]) (t := 31) ?hr ?_; (case hd => rfl); (case hg => rfl); (case hr => first | (go_simp; done) | (go_simp; rfl)); intro gb356 hg w6 hbox hb; have n0_ := Aside0.mk (below_step (by repeat (first | (with_reducible first | exact HB.out | apply below_alloc | apply pw_below_drewN | apply below_drew1) | exact HB.out)) hb); have n1_ := Aside0.mk (hbox); have n2_ := Aside0.mk ((by rw [hg]; exact (below_size (by repeat (first | (with_reducible first | exact HB.out | apply below_alloc | apply pw_below_drewN | apply below_drew1) | exact HB.out))) : w.heap.size ≤ gb356)); have n3_ := Aside0.mk ((by rw [hg]; exact (below_size (by repeat (first | (with_reducible first | exact HB.out | apply below_alloc | apply pw_below_drewN | apply below_drew1) | exact HB.out))) : w.heap.size ≤ gb356)); clear HB; have HB := n0_; have BK356 := n1_; have GW356 := n2_; have GE356 := n3_; clear n0_ n1_ n2_ n3_; clear hb hbox hg) | ((with_reducible refine gate_callee (f := 52) rfl ?_); refine goesL_ (some 8) rfl rfl Try.func52 (by kernel_rfl) rfl #[.slice A0 l0.length c0] rfl (by (try simp only [List.map_toArray, List.map_cons, List.map_nil]); first | done | rfl | (simp only [List.length_drop, List.length_take]; rfl)) ?_; (with_reducible refine (spec_l20Open.calls _ _ l0 t357 t358 w _ ?side1 ?side2 ?side3 A2.out).mono ?_); (case side1 => repeat (first | (with_reducible first | exact HB.out | apply below_alloc | apply pw_below_drewN | apply below_drew1 | refine below_set ?_ GE356.out) | exact HB.out)); (case side2 => exact HR0.out); (case side3 => exact HC0.out); rintro e w7 ⟨g359, rfl, hi, hb, hb2⟩; refine ⟨_, rfl, ?_⟩; have n0_ := Aside0.mk (blk_below (g := gb356) (o := .cells #[.int .i64 0, .string (⟨#[]⟩ : ByteArray), .int .i64 0, .int .i64 0] 31 (0, 0)) (by (with_reducible repeat (first | refine blk_drewN ?_ _ | refine blk_drew ?_ | refine blk_alloc ?_ _)); exact BK356.out) hb2); have n1_ := Aside0.mk (hb); have n2_ := Aside0.mk (hi); have n3_ := Aside0.mk (IsS98.ne_blk hi (blk_below (g := gb356) (o := .cells #[.int .i64 0, .string (⟨#[]⟩ : ByteArray), .int .i64 0, .int .i64 0] 31 (0, 0)) (by (with_reducible repeat (first | refine blk_drewN ?_ _ | refine blk_drew ?_ | refine blk_alloc ?_ _)); exact BK356.out) hb2) (by decide)); have n4_ := Aside0.mk (Ne.symm (IsS98.ne_blk hi (blk_below (g := gb356) (o := .cells #[.int .i64 0, .string (⟨#[]⟩ : ByteArray), .int .i64 0, .int .i64 0] 31 (0, 0)) (by (with_reducible repeat (first | refine blk_drewN ?_ _ | refine blk_drew ?_ | refine blk_alloc ?_ _)); exact BK356.out) hb2) (by decide))); clear BK356; clear HB; have BK356 := n0_; have HB := n1_; have HI359 := n2_; have NB359_356 := n3_; have NB356_359 := n4_; clear n0_ n1_ n2_ n3_ n4_; (try clear hb); (try clear hb2); (try clear hk); (try clear hi)) | ((with_reducible refine gate_callee (f := 53) rfl ?_); refine goesL_ (some 10) rfl rfl Try.func53 (by kernel_rfl) rfl #[.pointer (some ⟨g359, 0, none⟩), .int .i64 14] rfl (by (try simp only [List.map_toArray, List.map_cons, List.map_nil]); first | done | rfl | (simp only [List.length_drop, List.length_take]; rfl)) ?_; (with_reducible refine (spec_l20Pairs.calls k g359 t357 t358 14 t360 t363 w _ ?side1 ?side2 A3.out).mono ?_); (case side1 => repeat (first | (with_reducible first | exact HI359.out | apply IsS98.alloc | apply IsS98.drewN | apply IsS98.drew | apply IsS98.set_1 | refine IsS98.far ?_ NB359_356.out _) | exact HI359.out)); (case side2 => repeat (first | (with_reducible first | exact HB.out | apply below_alloc | apply pw_below_drewN | apply below_drew1 | refine below_set ?_ (IsS98.ge HI359.out) | refine below_set ?_ GE356.out) | exact HB.out)); rintro e w8 ⟨v361, rfl, ho0, hi, hb, hk⟩; refine ⟨_, rfl, ?_⟩; have n0_ := Aside0.mk (KeepBut.blk hk (g' := gb356) (o := .cells #[.int .i64 0, .string (⟨#[]⟩ : ByteArray), .int .i64 0, .int .i64 0] 31 (0, 0)) (by (with_reducible repeat (first | refine blk_drewN ?_ _ | refine blk_drew ?_ | refine blk_alloc ?_ _)); exact BK356.out) NB356_359.out (by simp)); have n1_ := Aside0.mk (Kd.R_lower ho0 (below_size (by repeat (first | (with_reducible first | exact HB.out | apply below_alloc | apply pw_below_drewN | apply below_drew1 | refine below_set ?_ (IsS98.ge HI359.out) | refine below_set ?_ GE356.out) | exact HB.out)))); have n2_ := Aside0.mk (hb); have n3_ := Aside0.mk (hi); clear BK356; clear HB; clear HI359; have BK356 := n0_; have HO362 := n1_; have HB := n2_; have HI359 := n3_; clear n0_ n1_ n2_ n3_; (try clear hb); (try clear hb2); (try clear hk); (try clear hi); (try clear ho0)) | ((with_reducible refine gate_callee (f := 54) rfl ?_); refine goesL_ (some 12) rfl rfl Try.func54 (by kernel_rfl) rfl #[.pointer (some ⟨g359, 0, none⟩), .int .i64 14] rfl (by (try simp only [List.map_toArray, List.map_cons, List.map_nil]); first | done | rfl | (simp only [List.length_drop, List.length_take]; rfl)) ?_; (with_reducible refine (spec_l20Any.calls k g359 t357 t363 14 t364 t365 t366 t367 t368 w _ ?side1 ?side2 A4.out).mono ?_); (case side1 => repeat (first | (with_reducible first | exact HI359.out | apply IsS98.alloc | apply IsS98.drewN | apply IsS98.drew | apply IsS98.set_1 | refine IsS98.far ?_ NB359_356.out _) | exact HI359.out)); (case side2 => repeat (first | (with_reducible first | exact HB.out | apply below_alloc | apply pw_below_drewN | apply below_drew1 | refine below_set ?_ (IsS98.ge HI359.out) | refine below_set ?_ GE356.out) | exact HB.out)); rintro e w9 ⟨rfl, hi, hb, hk⟩; refine ⟨_, rfl, ?_⟩; have n0_ := Aside0.mk (KeepBut.blk hk (g' := gb356) (o := .cells #[.int .i64 0, .string (⟨#[]⟩ : ByteArray), .int .i64 0, .int .i64 0] 31 (0, 0)) (by (with_reducible repeat (first | refine blk_drewN ?_ _ | refine blk_drew ?_ | refine blk_alloc ?_ _)); exact BK356.out) NB356_359.out (by simp)); have n1_ := Aside0.mk (Kd.R_mono (Kd.R_keep (IsS98.apart (show IsS98 w _ g359 t357 t363 from by repeat (first | (with_reducible first | exact HI359.out | apply IsS98.alloc | apply IsS98.drewN | apply IsS98.drew | apply IsS98.set_1 | refine IsS98.far ?_ NB359_356.out _) | exact HI359.out)) (by (with_reducible repeat (first | apply Kd.R_alloc | apply Kd.R_drewN | apply Kd.R_drew)); exact HO362.out) (by decide)) hk (fun _ h => h.2)) (fun _ h => h.1)); have n2_ := Aside0.mk (hb); have n3_ := Aside0.mk (hi); clear BK356; clear HO362; clear HB; clear HI359; have BK356 := n0_; have HO362 := n1_; have HB := n2_; have HI359 := n3_; clear n0_ n1_ n2_ n3_; (try clear hb); (try clear hb2); (try clear hk); (try clear hi)) | ((with_reducible refine gate_dst (N := 6) rfl ?_); refine box_event ?hg (N := 6) ?hd (cs := #[.int .i64 0, .string (⟨#[]⟩ : ByteArray), .int .i64 0, .int .i64 0]) (t := 31) ?hr ?_; (case hd => rfl); (case hg => rfl); (case hr => first | (go_simp; done) | (go_simp; rfl)); intro gb369 hg w10 hbox hb; have n0_ := Aside0.mk (Kd.R_below (by (with_reducible repeat (first | apply Kd.R_alloc | apply Kd.R_drewN | apply Kd.R_drew)); exact HO362.out) hb); have n1_ := Aside0.mk (blk_below (g := gb356) (o := .cells #[.int .i64 0, .string (⟨#[]⟩ : ByteArray), .int .i64 0, .int .i64 0] 31 (0, 0)) (by (with_reducible repeat (first | refine blk_drewN ?_ _ | refine blk_drew ?_ | refine blk_alloc ?_ _)); exact BK356.out) hb); have n2_ := Aside0.mk (IsS98.below (by repeat (first | (with_reducible first | exact HI359.out | apply IsS98.alloc | apply IsS98.drewN | apply IsS98.drew | apply IsS98.set_1 | refine IsS98.far ?_ NB359_356.out _) | exact HI359.out)) hb); have n3_ := Aside0.mk (below_step (by repeat (first | (with_reducible first | exact HB.out | apply below_alloc | apply pw_below_drewN | apply below_drew1 | refine below_set ?_ (IsS98.ge HI359.out) | refine below_set ?_ GE356.out) | exact HB.out)) hb); have n4_ := Aside0.mk (hbox); have n5_ := Aside0.mk ((by rw [hg]; exact (below_size (by repeat (first | (with_reducible first | exact HB.out | apply below_alloc | apply pw_below_drewN | apply below_drew1 | refine below_set ?_ (IsS98.ge HI359.out) | refine below_set ?_ GE356.out) | exact HB.out))) : w.heap.size ≤ gb369)); have n6_ := Aside0.mk ((by rw [hg]; exact (below_size (by repeat (first | (with_reducible first | exact HB.out | apply below_alloc | apply pw_below_drewN | apply below_drew1 | refine below_set ?_ (IsS98.ge HI359.out) | refine below_set ?_ GE356.out) | exact HB.out))) : w.heap.size ≤ gb369)); have n7_ := Aside0.mk ((by rw [hg]; exact Nat.ne_of_lt (blk_lt (g := gb356) (o := .cells #[.int .i64 0, .string (⟨#[]⟩ : ByteArray), .int .i64 0, .int .i64 0] 31 (0, 0)) (by (with_reducible repeat (first | refine blk_drewN ?_ _ | refine blk_drew ?_ | refine blk_alloc ?_ _)); exact BK356.out)) : gb356 ≠ gb369)); have n8_ := Aside0.mk ((by rw [hg]; exact Nat.ne_of_gt (blk_lt (g := gb356) (o := .cells #[.int .i64 0, .string (⟨#[]⟩ : ByteArray), .int .i64 0, .int .i64 0] 31 (0, 0)) (by (with_reducible repeat (first | refine blk_drewN ?_ _ | refine blk_drew ?_ | refine blk_alloc ?_ _)); exact BK356.out)) : gb369 ≠ gb356)); have n9_ := Aside0.mk ((by rw [hg]; exact Nat.ne_of_lt (IsS98.lt (show IsS98 w _ g359 t357 t368 from by repeat (first | (with_reducible first | exact HI359.out | apply IsS98.alloc | apply IsS98.drewN | apply IsS98.drew | apply IsS98.set_1 | refine IsS98.far ?_ NB359_356.out _) | exact HI359.out))) : g359 ≠ gb369)); have n10_ := Aside0.mk ((by rw [hg]; exact Nat.ne_of_gt (IsS98.lt (show IsS98 w _ g359 t357 t368 from by repeat (first | (with_reducible first | exact HI359.out | apply IsS98.alloc | apply IsS98.drewN | apply IsS98.drew | apply IsS98.set_1 | refine IsS98.far ?_ NB359_356.out _) | exact HI359.out))) : gb369 ≠ g359)); clear HO362; clear BK356; clear HI359; clear HB; have HO362 := n0_; have BK356 := n1_; have HI359 := n2_; have HB := n3_; have BK369 := n4_; have GW369 := n5_; have GE369 := n6_; have NB356_369 := n7_; have NB369_356 := n8_; have NB359_369 := n9_; have NB369_359 := n10_; clear n0_ n1_ n2_ n3_ n4_ n5_ n6_ n7_ n8_ n9_ n10_; clear hb hbox hg; have hnb11 := NB369_356.out; have hnc11 := NB356_369.out; have hnb12 := NB369_359.out; have hnc12 := NB359_369.out; have hcz13_0 : w10.cell? ⟨gb369, 0, none⟩ = some (.int .i64 0) := (blk_cell BK369.out 0).trans rfl; have hcz13_1 : w10.cell? ⟨gb369, 1, none⟩ = some (.string (⟨#[]⟩ : ByteArray)) := (blk_cell BK369.out 1).trans rfl; have hcz13_2 : w10.cell? ⟨gb369, 2, none⟩ = some (.int .i64 0) := (blk_cell BK369.out 2).trans rfl; have hcz13_3 : w10.cell? ⟨gb369, 3, none⟩ = some (.int .i64 0) := (blk_cell BK369.out 3).trans rfl; have hfz13_0 := blk_frozen BK369.out 0; have hfz13_1 := blk_frozen BK369.out 1; have hfz13_2 := blk_frozen BK369.out 2; have hfz13_3 := blk_frozen BK369.out 3))
  (try simp only [Act.put, List.setIfInBounds_toArray, List.set_cons_zero, List.set_cons_succ])
  go_cut [20] (fun v20 wc => ∃ (kq : Nat) (x20_4 : Bool) (x360001_4 : Int), v20 = .bool x20_4 ∧ Aside0 (spec_DrawApplyCommand.j0 kq t360 x20_4 t357 x360001_4 t364 t365 t366 t367 = some (r1, r2, r3, r4, r5)) ∧ Aside0 (kq ≤ k) ∧ Aside0 (Kd.R k42 42 wc w.heap.size (fun _ => True) v361 t360) ∧ Aside0 (wc.heap[gb356]? = some (.cells #[.int .i64 0, .string (⟨#[]⟩ : ByteArray), .int .i64 0, .int .i64 0] 31 (0, 0))) ∧ Aside0 (wc.heap[gb369]? = some (.cells #[.int .i64 t364, .string t365, .int .i64 t366, .int .i64 t367] 31 (0, 0))) ∧ Aside0 (IsS98 w wc g359 t357 x360001_4) ∧ Aside0 (Below w.heap.size w wc))
  case first =>
    have H := HC5.out
    clear HC5
    replace H := Option.bind_eq_some_iff.mp H
    obtain ⟨⟨t370, t371⟩, A140, H⟩ := H
    replace H : (if t370 = 0 then (spec_DrawApplyCommand.j0 k t360 (t364 != 5) t357 t371 t364 t365 t366 t367) else (spec_DrawApplyCommand.j0 k t360 false t357 t371 t364 t365 t366 t367)) = some (r1, r2, r3, r4, r5) := H
    have A14 := Aside0.mk A140
    clear A140
    by_cases c15 : t370 = 0
    · rw [if_pos c15] at H
      have c15b0 : (t370 == 0) = true := beq_iff_eq.mpr c15
      have c15b1 : (t370 != 0) = false := bne_eq_false_iff_eq.mpr c15
      clear c15
      (first | rw [c15b0] | (simp only [i64_w, i32_w]; rw [c15b0]) | skip)
      have H' := Aside0.mk H
      clear H
      go_wp2_with (first | ((with_reducible refine gate_callee (f := 55) rfl ?_); refine goesL_ (some 14) rfl rfl Try.func55 (by kernel_rfl) rfl #[.pointer (some ⟨g359, 0, none⟩), .int .i64 2] rfl (by (try simp only [List.map_toArray, List.map_cons, List.map_nil]); first | done | rfl | (simp only [List.length_drop, List.length_take]; rfl)) ?_; (with_reducible refine (spec_l20Rd_pick.calls k g359 t357 t368 2 t370 t371 w _ ?side1 ?side2 A14.out).mono ?_); (case side1 => repeat (first | (with_reducible first | exact HI359.out | apply IsS98.alloc | apply IsS98.drewN | apply IsS98.drew | apply IsS98.set_1 | refine IsS98.far ?_ NB359_356.out _ | refine IsS98.far ?_ NB359_369.out _) | exact HI359.out)); (case side2 => repeat (first | (with_reducible first | exact HB.out | apply below_alloc | apply pw_below_drewN | apply below_drew1 | refine below_set ?_ (IsS98.ge HI359.out) | refine below_set ?_ GE356.out | refine below_set ?_ GE369.out) | exact HB.out)); rintro e w16 ⟨rfl, hi, hb, hk⟩; refine ⟨_, rfl, ?_⟩; have n0_ := Aside0.mk (KeepBut.blk hk (g' := gb356) (o := .cells #[.int .i64 0, .string (⟨#[]⟩ : ByteArray), .int .i64 0, .int .i64 0] 31 (0, 0)) (by (with_reducible repeat (first | refine blk_drewN ?_ _ | refine blk_drew ?_ | refine blk_alloc ?_ _)); refine blk_far ?_ NB356_369.out _; (with_reducible repeat (first | refine blk_drewN ?_ _ | refine blk_drew ?_ | refine blk_alloc ?_ _)); refine blk_far ?_ NB356_369.out _; (with_reducible repeat (first | refine blk_drewN ?_ _ | refine blk_drew ?_ | refine blk_alloc ?_ _)); refine blk_far ?_ NB356_369.out _; (with_reducible repeat (first | refine blk_drewN ?_ _ | refine blk_drew ?_ | refine blk_alloc ?_ _)); refine blk_far ?_ NB356_369.out _; (with_reducible repeat (first | refine blk_drewN ?_ _ | refine blk_drew ?_ | refine blk_alloc ?_ _)); exact BK356.out) NB356_359.out (by simp)); have n1_ := Aside0.mk (Kd.R_mono (Kd.R_keep (IsS98.apart (show IsS98 w _ g359 t357 t368 from by repeat (first | (with_reducible first | exact HI359.out | apply IsS98.alloc | apply IsS98.drewN | apply IsS98.drew | apply IsS98.set_1 | refine IsS98.far ?_ NB359_356.out _ | refine IsS98.far ?_ NB359_369.out _) | exact HI359.out)) (by (with_reducible repeat (first | apply Kd.R_alloc | apply Kd.R_drewN | apply Kd.R_drew)); exact (Kd.R_mono (Kd.R_far (p := ⟨gb369, 3, none⟩) (Kd.R_far (p := ⟨gb369, 2, none⟩) (Kd.R_far (p := ⟨gb369, 1, none⟩) (Kd.R_far (p := ⟨gb369, 0, none⟩) (Kd.R_types HO362.out BK369.out (by decide)) (fun _ hk => hk.2) (.int .i64 t364)) (fun _ hk => hk.2) (.string t365)) (fun _ hk => hk.2) (.int .i64 t366)) (fun _ hk => hk.2) (.int .i64 t367)) (fun _ h_ => h_.1))) (by decide)) hk (fun _ h => h.2)) (fun _ h => h.1)); have n2_ := Aside0.mk (KeepBut.blk hk (g' := gb369) (o := .cells #[.int .i64 t364, .string t365, .int .i64 t366, .int .i64 t367] 31 (0, 0)) (by (with_reducible repeat (first | refine blk_drewN ?_ _ | refine blk_drew ?_ | refine blk_alloc ?_ _)); refine blk_put (cs := #[.int .i64 t364, .string t365, .int .i64 t366, .int .i64 0]) ?_ 3 _ rfl; (with_reducible repeat (first | refine blk_drewN ?_ _ | refine blk_drew ?_ | refine blk_alloc ?_ _)); refine blk_put (cs := #[.int .i64 t364, .string t365, .int .i64 0, .int .i64 0]) ?_ 2 _ rfl; (with_reducible repeat (first | refine blk_drewN ?_ _ | refine blk_drew ?_ | refine blk_alloc ?_ _)); refine blk_put (cs := #[.int .i64 t364, .string (⟨#[]⟩ : ByteArray), .int .i64 0, .int .i64 0]) ?_ 1 _ rfl; (with_reducible repeat (first | refine blk_drewN ?_ _ | refine blk_drew ?_ | refine blk_alloc ?_ _)); refine blk_put (cs := #[.int .i64 0, .string (⟨#[]⟩ : ByteArray), .int .i64 0, .int .i64 0]) ?_ 0 _ rfl; (with_reducible repeat (first | refine blk_drewN ?_ _ | refine blk_drew ?_ | refine blk_alloc ?_ _)); exact BK369.out) NB369_359.out (by simp)); have n3_ := Aside0.mk (hb); have n4_ := Aside0.mk (hi); clear BK356; clear HO362; clear BK369; clear HB; clear HI359; have BK356 := n0_; have HO362 := n1_; have BK369 := n2_; have HB := n3_; have HI359 := n4_; clear n0_ n1_ n2_ n3_ n4_; (try clear hb); (try clear hb2); (try clear hk); (try clear hi); have hnb17 := NB369_356.out; have hnc17 := NB356_369.out; have hnb18 := NB369_359.out; have hnc18 := NB359_369.out; have hcz19_0 : w16.cell? ⟨gb369, 0, none⟩ = some (.int .i64 t364) := (blk_cell BK369.out 0).trans rfl; have hcz19_1 : w16.cell? ⟨gb369, 1, none⟩ = some (.string t365) := (blk_cell BK369.out 1).trans rfl; have hcz19_2 : w16.cell? ⟨gb369, 2, none⟩ = some (.int .i64 t366) := (blk_cell BK369.out 2).trans rfl; have hcz19_3 : w16.cell? ⟨gb369, 3, none⟩ = some (.int .i64 t367) := (blk_cell BK369.out 3).trans rfl; have hfz19_0 := blk_frozen BK369.out 0; have hfz19_1 := blk_frozen BK369.out 1; have hfz19_2 := blk_frozen BK369.out 2; have hfz19_3 := blk_frozen BK369.out 3))
      go_meet
      case rel => exact ⟨_, ((t364 != 5)), (t371), (by first | rfl | (simp; done) | (simp [*]; done)), H', ⟨by first | omega | exact Nat.le_refl _⟩, ⟨by (with_reducible repeat (first | apply Kd.R_alloc | apply Kd.R_drewN | apply Kd.R_drew)); exact HO362.out⟩, ⟨by (with_reducible repeat (first | refine blk_drewN ?_ _ | refine blk_drew ?_ | refine blk_alloc ?_ _)); exact BK356.out⟩, ⟨by (with_reducible repeat (first | refine blk_drewN ?_ _ | refine blk_drew ?_ | refine blk_alloc ?_ _)); exact BK369.out⟩, ⟨by repeat (first | (with_reducible first | exact HI359.out | apply IsS98.alloc | apply IsS98.drewN | apply IsS98.drew | apply IsS98.set_1 | refine IsS98.far ?_ NB359_356.out _ | refine IsS98.far ?_ NB359_369.out _) | exact HI359.out)⟩, ⟨by repeat (first | (with_reducible first | exact HB.out | apply below_alloc | apply pw_below_drewN | apply below_drew1 | refine below_set ?_ (IsS98.ge HI359.out) | refine below_set ?_ GE356.out | refine below_set ?_ GE369.out) | exact HB.out)⟩⟩
    · rw [if_neg c15] at H
      have c15b0 : (t370 == 0) = false := beq_eq_false_iff_ne.mpr c15
      have c15b1 : (t370 != 0) = true := bne_iff_ne.mpr c15
      (first | rw [c15b0] | (simp only [i64_w, i32_w]; rw [c15b0]) | skip)
      have H' := Aside0.mk H
      clear H
      go_wp2_with (first | ((with_reducible refine gate_callee (f := 55) rfl ?_); refine goesL_ (some 14) rfl rfl Try.func55 (by kernel_rfl) rfl #[.pointer (some ⟨g359, 0, none⟩), .int .i64 2] rfl (by (try simp only [List.map_toArray, List.map_cons, List.map_nil]); first | done | rfl | (simp only [List.length_drop, List.length_take]; rfl)) ?_; (with_reducible refine (spec_l20Rd_pick.calls k g359 t357 t368 2 t370 t371 w _ ?side1 ?side2 A14.out).mono ?_); (case side1 => repeat (first | (with_reducible first | exact HI359.out | apply IsS98.alloc | apply IsS98.drewN | apply IsS98.drew | apply IsS98.set_1 | refine IsS98.far ?_ NB359_356.out _ | refine IsS98.far ?_ NB359_369.out _) | exact HI359.out)); (case side2 => repeat (first | (with_reducible first | exact HB.out | apply below_alloc | apply pw_below_drewN | apply below_drew1 | refine below_set ?_ (IsS98.ge HI359.out) | refine below_set ?_ GE356.out | refine below_set ?_ GE369.out) | exact HB.out)); rintro e w20 ⟨rfl, hi, hb, hk⟩; refine ⟨_, rfl, ?_⟩; have n0_ := Aside0.mk (KeepBut.blk hk (g' := gb356) (o := .cells #[.int .i64 0, .string (⟨#[]⟩ : ByteArray), .int .i64 0, .int .i64 0] 31 (0, 0)) (by (with_reducible repeat (first | refine blk_drewN ?_ _ | refine blk_drew ?_ | refine blk_alloc ?_ _)); refine blk_far ?_ NB356_369.out _; (with_reducible repeat (first | refine blk_drewN ?_ _ | refine blk_drew ?_ | refine blk_alloc ?_ _)); refine blk_far ?_ NB356_369.out _; (with_reducible repeat (first | refine blk_drewN ?_ _ | refine blk_drew ?_ | refine blk_alloc ?_ _)); refine blk_far ?_ NB356_369.out _; (with_reducible repeat (first | refine blk_drewN ?_ _ | refine blk_drew ?_ | refine blk_alloc ?_ _)); refine blk_far ?_ NB356_369.out _; (with_reducible repeat (first | refine blk_drewN ?_ _ | refine blk_drew ?_ | refine blk_alloc ?_ _)); exact BK356.out) NB356_359.out (by simp)); have n1_ := Aside0.mk (Kd.R_mono (Kd.R_keep (IsS98.apart (show IsS98 w _ g359 t357 t368 from by repeat (first | (with_reducible first | exact HI359.out | apply IsS98.alloc | apply IsS98.drewN | apply IsS98.drew | apply IsS98.set_1 | refine IsS98.far ?_ NB359_356.out _ | refine IsS98.far ?_ NB359_369.out _) | exact HI359.out)) (by (with_reducible repeat (first | apply Kd.R_alloc | apply Kd.R_drewN | apply Kd.R_drew)); exact (Kd.R_mono (Kd.R_far (p := ⟨gb369, 3, none⟩) (Kd.R_far (p := ⟨gb369, 2, none⟩) (Kd.R_far (p := ⟨gb369, 1, none⟩) (Kd.R_far (p := ⟨gb369, 0, none⟩) (Kd.R_types HO362.out BK369.out (by decide)) (fun _ hk => hk.2) (.int .i64 t364)) (fun _ hk => hk.2) (.string t365)) (fun _ hk => hk.2) (.int .i64 t366)) (fun _ hk => hk.2) (.int .i64 t367)) (fun _ h_ => h_.1))) (by decide)) hk (fun _ h => h.2)) (fun _ h => h.1)); have n2_ := Aside0.mk (KeepBut.blk hk (g' := gb369) (o := .cells #[.int .i64 t364, .string t365, .int .i64 t366, .int .i64 t367] 31 (0, 0)) (by (with_reducible repeat (first | refine blk_drewN ?_ _ | refine blk_drew ?_ | refine blk_alloc ?_ _)); refine blk_put (cs := #[.int .i64 t364, .string t365, .int .i64 t366, .int .i64 0]) ?_ 3 _ rfl; (with_reducible repeat (first | refine blk_drewN ?_ _ | refine blk_drew ?_ | refine blk_alloc ?_ _)); refine blk_put (cs := #[.int .i64 t364, .string t365, .int .i64 0, .int .i64 0]) ?_ 2 _ rfl; (with_reducible repeat (first | refine blk_drewN ?_ _ | refine blk_drew ?_ | refine blk_alloc ?_ _)); refine blk_put (cs := #[.int .i64 t364, .string (⟨#[]⟩ : ByteArray), .int .i64 0, .int .i64 0]) ?_ 1 _ rfl; (with_reducible repeat (first | refine blk_drewN ?_ _ | refine blk_drew ?_ | refine blk_alloc ?_ _)); refine blk_put (cs := #[.int .i64 0, .string (⟨#[]⟩ : ByteArray), .int .i64 0, .int .i64 0]) ?_ 0 _ rfl; (with_reducible repeat (first | refine blk_drewN ?_ _ | refine blk_drew ?_ | refine blk_alloc ?_ _)); exact BK369.out) NB369_359.out (by simp)); have n3_ := Aside0.mk (hb); have n4_ := Aside0.mk (hi); clear BK356; clear HO362; clear BK369; clear HB; clear HI359; have BK356 := n0_; have HO362 := n1_; have BK369 := n2_; have HB := n3_; have HI359 := n4_; clear n0_ n1_ n2_ n3_ n4_; (try clear hb); (try clear hb2); (try clear hk); (try clear hi)))
      go_meet
      case rel => exact ⟨_, (false), (t371), (by first | rfl | (simp; done) | (simp [*]; done)), H', ⟨by first | omega | exact Nat.le_refl _⟩, ⟨by (with_reducible repeat (first | apply Kd.R_alloc | apply Kd.R_drewN | apply Kd.R_drew)); exact HO362.out⟩, ⟨by (with_reducible repeat (first | refine blk_drewN ?_ _ | refine blk_drew ?_ | refine blk_alloc ?_ _)); exact BK356.out⟩, ⟨by (with_reducible repeat (first | refine blk_drewN ?_ _ | refine blk_drew ?_ | refine blk_alloc ?_ _)); exact BK369.out⟩, ⟨by repeat (first | (with_reducible first | exact HI359.out | apply IsS98.alloc | apply IsS98.drewN | apply IsS98.drew | apply IsS98.set_1 | refine IsS98.far ?_ NB359_356.out _ | refine IsS98.far ?_ NB359_369.out _) | exact HI359.out)⟩, ⟨by repeat (first | (with_reducible first | exact HB.out | apply below_alloc | apply pw_below_drewN | apply below_drew1 | refine below_set ?_ (IsS98.ge HI359.out) | refine below_set ?_ GE356.out | refine below_set ?_ GE369.out) | exact HB.out)⟩⟩
  case rest =>
    clear HC5
    try clear c1
    try clear p2
    try clear c5
    try clear c11
    try clear c12
    try clear c15
    try clear c15b0
    try clear c15b1
    try clear c17
    try clear c18
    try clear hcz13_0
    try clear hcz13_1
    try clear hcz13_2
    try clear hcz13_3
    try clear hcz19_0
    try clear hcz19_1
    try clear hcz19_2
    try clear hcz19_3
    try clear hfz13_0
    try clear hfz13_1
    try clear hfz13_2
    try clear hfz13_3
    try clear hfz19_0
    try clear hfz19_1
    try clear hfz19_2
    try clear hfz19_3
    obtain ⟨kq, x20_4, x360001_4, rfl, HA, HJ4, HO_5, BK356, BK369, HI359, HB⟩ := hcut
    cases kq with
    | zero => exact absurd HA.out (by simp [spec_DrawApplyCommand.j0])
    | succ kj4 =>
      have H := HA.out
      clear HA
      simp only [spec_DrawApplyCommand.j0] at H
      have HC21 := Aside0.mk H
      clear H
      go_upto_if 20 with (fail)
      go_cut [] (fun wc => ∃ (kq : Nat) (x360001_20 : Int) (x370001_20 : ByteArray), Aside0 (spec_DrawApplyCommand.j1 kq t360 t357 x360001_20 t364 x370001_20 t366 t367 = some (r1, r2, r3, r4, r5)) ∧ Aside0 (kq ≤ kj4) ∧ Aside0 (Kd.R k42 42 wc w.heap.size (fun _ => True) v361 t360) ∧ Aside0 (wc.heap[gb356]? = some (.cells #[.int .i64 0, .string (⟨#[]⟩ : ByteArray), .int .i64 0, .int .i64 0] 31 (0, 0))) ∧ Aside0 (wc.heap[gb369]? = some (.cells #[.int .i64 t364, .string x370001_20, .int .i64 t366, .int .i64 t367] 31 (0, 0))) ∧ Aside0 (IsS98 w wc g359 t357 x360001_20) ∧ Aside0 (Below w.heap.size w wc))
      case first =>
        have H := HC21.out
        clear HC21
        by_cases c22 : x20_4 = true
        · subst c22
          have H1 : ((spec_l20Near.f kj4 t357 x360001_4 t360 0).bind fun bt372 => (spec_DrawApplyCommand.j1 kj4 t360 t357 bt372.2 t364 bt372.1 t366 t367)) = some (r1, r2, r3, r4, r5) := by rw [if_pos rfl] at H; exact H
          clear H
          have H := H1
          clear H1
          replace H := Option.bind_eq_some_iff.mp H
          obtain ⟨⟨t372, t373⟩, A230, H⟩ := H
          replace H : (spec_DrawApplyCommand.j1 kj4 t360 t357 t373 t364 t372 t366 t367) = some (r1, r2, r3, r4, r5) := H
          have A23 := Aside0.mk A230
          clear A230
          have H' := Aside0.mk H
          clear H
          obtain ⟨Ao24, co24, eo24⟩ := Kd.R_slice HO_5.out
          subst eo24
          go_wp2_with (first | ((with_reducible refine gate_callee (f := 56) rfl ?_); refine goesL_ (some 23) rfl rfl Try.func56 (by kernel_rfl) rfl #[.pointer (some ⟨g359, 0, none⟩), .slice Ao24 t360.length co24, .int .i64 0] rfl (by (try simp only [List.map_toArray, List.map_cons, List.map_nil]); first | done | rfl | (simp only [List.length_drop, List.length_take]; rfl)) ?_; (with_reducible refine (spec_l20Near.calls kj4 g359 t357 x360001_4 _ _ t360 0 t372 t373 w _ ?side1 ?side2 ?side3 ?side4 A23.out).mono ?_); (case side1 => repeat (first | (with_reducible first | exact HI359.out | apply IsS98.alloc | apply IsS98.drewN | apply IsS98.drew | apply IsS98.set_1 | refine IsS98.far ?_ NB359_356.out _ | refine IsS98.far ?_ NB359_369.out _) | exact HI359.out)); (case side2 => repeat (first | (with_reducible first | exact HB.out | apply below_alloc | apply pw_below_drewN | apply below_drew1 | refine below_set ?_ (IsS98.ge HI359.out) | refine below_set ?_ GE356.out | refine below_set ?_ GE369.out) | exact HB.out)); (case side3 => exact Kd.C_foot_own (IsS98.apart (show IsS98 w _ g359 t357 x360001_4 from by repeat (first | (with_reducible first | exact HI359.out | apply IsS98.alloc | apply IsS98.drewN | apply IsS98.drew | apply IsS98.set_1 | refine IsS98.far ?_ NB359_356.out _ | refine IsS98.far ?_ NB359_369.out _) | exact HI359.out)) (by (with_reducible repeat (first | apply Kd.R_alloc | apply Kd.R_drewN | apply Kd.R_drew)); exact HO_5.out) (by decide)) (fun _ h_ => h_.2)); (case side4 => exact (Kd.R_reads' HO_5.out).2.1); rintro e w25 ⟨rfl, hi, hb, hk⟩; refine ⟨_, rfl, ?_⟩; have n0_ := Aside0.mk (Kd.R_mono (Kd.R_keep (IsS98.apart (show IsS98 w _ g359 t357 x360001_4 from by repeat (first | (with_reducible first | exact HI359.out | apply IsS98.alloc | apply IsS98.drewN | apply IsS98.drew | apply IsS98.set_1 | refine IsS98.far ?_ NB359_356.out _ | refine IsS98.far ?_ NB359_369.out _) | exact HI359.out)) (by (with_reducible repeat (first | apply Kd.R_alloc | apply Kd.R_drewN | apply Kd.R_drew)); exact HO_5.out) (by decide)) hk (fun _ h => h.2)) (fun _ h => h.1)); have n1_ := Aside0.mk (KeepBut.blk hk (g' := gb356) (o := .cells #[.int .i64 0, .string (⟨#[]⟩ : ByteArray), .int .i64 0, .int .i64 0] 31 (0, 0)) (by (with_reducible repeat (first | refine blk_drewN ?_ _ | refine blk_drew ?_ | refine blk_alloc ?_ _)); exact BK356.out) NB356_359.out (by simp)); have n2_ := Aside0.mk (KeepBut.blk hk (g' := gb369) (o := .cells #[.int .i64 t364, .string t365, .int .i64 t366, .int .i64 t367] 31 (0, 0)) (by (with_reducible repeat (first | refine blk_drewN ?_ _ | refine blk_drew ?_ | refine blk_alloc ?_ _)); exact BK369.out) NB369_359.out (by simp)); have n3_ := Aside0.mk (hb); have n4_ := Aside0.mk (hi); clear HO_5; clear BK356; clear BK369; clear HB; clear HI359; have HO_5 := n0_; have BK356 := n1_; have BK369 := n2_; have HB := n3_; have HI359 := n4_; clear n0_ n1_ n2_ n3_ n4_; (try clear hb); (try clear hb2); (try clear hk); (try clear hi); have hnb26 := NB369_356.out; have hnc26 := NB356_369.out; have hnb27 := NB369_359.out; have hnc27 := NB359_369.out; have hcz28_0 : w25.cell? ⟨gb369, 0, none⟩ = some (.int .i64 t364) := (blk_cell BK369.out 0).trans rfl; have hcz28_1 : w25.cell? ⟨gb369, 1, none⟩ = some (.string t365) := (blk_cell BK369.out 1).trans rfl; have hcz28_2 : w25.cell? ⟨gb369, 2, none⟩ = some (.int .i64 t366) := (blk_cell BK369.out 2).trans rfl; have hcz28_3 : w25.cell? ⟨gb369, 3, none⟩ = some (.int .i64 t367) := (blk_cell BK369.out 3).trans rfl; have hfz28_0 := blk_frozen BK369.out 0; have hfz28_1 := blk_frozen BK369.out 1; have hfz28_2 := blk_frozen BK369.out 2; have hfz28_3 := blk_frozen BK369.out 3))
          go_meet
          case rel => exact ⟨_, (t373), (t372), H', ⟨by have := HJ4.out; first | omega | exact Nat.le_refl _⟩, ⟨by (with_reducible repeat (first | apply Kd.R_alloc | apply Kd.R_drewN | apply Kd.R_drew)); exact Kd.R_mono (Kd.R_far (p := ⟨gb369, 1, none⟩) (Kd.R_types HO_5.out BK369.out (by decide)) (fun _ hk => hk.2) (.string t372)) (fun _ hk => trivial)⟩, ⟨by (with_reducible repeat (first | refine blk_drewN ?_ _ | refine blk_drew ?_ | refine blk_alloc ?_ _)); refine blk_far ?_ NB356_369.out _; (with_reducible repeat (first | refine blk_drewN ?_ _ | refine blk_drew ?_ | refine blk_alloc ?_ _)); exact BK356.out⟩, ⟨by (with_reducible repeat (first | refine blk_drewN ?_ _ | refine blk_drew ?_ | refine blk_alloc ?_ _)); refine blk_put (cs := #[.int .i64 t364, .string t365, .int .i64 t366, .int .i64 t367]) ?_ 1 _ rfl; (with_reducible repeat (first | refine blk_drewN ?_ _ | refine blk_drew ?_ | refine blk_alloc ?_ _)); exact BK369.out⟩, ⟨by repeat (first | (with_reducible first | exact HI359.out | apply IsS98.alloc | apply IsS98.drewN | apply IsS98.drew | apply IsS98.set_1 | refine IsS98.far ?_ NB359_356.out _ | refine IsS98.far ?_ NB359_369.out _) | exact HI359.out)⟩, ⟨by repeat (first | (with_reducible first | exact HB.out | apply below_alloc | apply pw_below_drewN | apply below_drew1 | refine below_set ?_ (IsS98.ge HI359.out) | refine below_set ?_ GE356.out | refine below_set ?_ GE369.out) | exact HB.out)⟩⟩
        · replace c22 := Bool.eq_false_iff.mpr c22
          subst c22
          have H1 : (spec_DrawApplyCommand.j1 kj4 t360 t357 x360001_4 t364 t365 t366 t367) = some (r1, r2, r3, r4, r5) := by rw [if_neg (show ¬ (false = true) by decide)] at H; exact H
          clear H
          have H := H1
          clear H1
          have H' := Aside0.mk H
          clear H
          go_wp2
          go_meet
          case rel => exact ⟨_, (x360001_4), (t365), H', ⟨by have := HJ4.out; first | omega | exact Nat.le_refl _⟩, ⟨by (with_reducible repeat (first | apply Kd.R_alloc | apply Kd.R_drewN | apply Kd.R_drew)); exact HO_5.out⟩, ⟨by (with_reducible repeat (first | refine blk_drewN ?_ _ | refine blk_drew ?_ | refine blk_alloc ?_ _)); exact BK356.out⟩, ⟨by (with_reducible repeat (first | refine blk_drewN ?_ _ | refine blk_drew ?_ | refine blk_alloc ?_ _)); exact BK369.out⟩, ⟨by repeat (first | (with_reducible first | exact HI359.out | apply IsS98.alloc | apply IsS98.drewN | apply IsS98.drew | apply IsS98.set_1 | refine IsS98.far ?_ NB359_356.out _ | refine IsS98.far ?_ NB359_369.out _) | exact HI359.out)⟩, ⟨by repeat (first | (with_reducible first | exact HB.out | apply below_alloc | apply pw_below_drewN | apply below_drew1 | refine below_set ?_ (IsS98.ge HI359.out) | refine below_set ?_ GE356.out | refine below_set ?_ GE369.out) | exact HB.out)⟩⟩
      case rest =>
        clear HC21
        try clear c1
        try clear c2
        try clear p2
        try clear c5
        try clear c11
        try clear c12
        try clear c15
        try clear c15b0
        try clear c15b1
        try clear c17
        try clear c18
        try clear c22
        try clear c26
        try clear c27
        try clear hcz13_0
        try clear hcz13_1
        try clear hcz13_2
        try clear hcz13_3
        try clear hcz19_0
        try clear hcz19_1
        try clear hcz19_2
        try clear hcz19_3
        try clear hcz28_0
        try clear hcz28_1
        try clear hcz28_2
        try clear hcz28_3
        try clear hfz13_0
        try clear hfz13_1
        try clear hfz13_2
        try clear hfz13_3
        try clear hfz19_0
        try clear hfz19_1
        try clear hfz19_2
        try clear hfz19_3
        try clear hfz28_0
        try clear hfz28_1
        try clear hfz28_2
        try clear hfz28_3
        try clear p2
        obtain ⟨kq, x360001_20, x370001_20, HA, HJ20, HO_5, BK356, BK369, HI359, HB⟩ := hcut
        cases kq with
        | zero => exact absurd HA.out (by simp [spec_DrawApplyCommand.j1])
        | succ kj20 =>
          have H := HA.out
          clear HA
          simp only [spec_DrawApplyCommand.j1] at H
          by_cases c29 : t364 = 4
          · rw [if_pos c29] at H
            have c29b0 : (t364 == 4) = true := beq_iff_eq.mpr c29
            have c29b1 : (t364 != 4) = false := bne_eq_false_iff_eq.mpr c29
            clear c29
            replace H := Option.bind_eq_some_iff.mp H
            obtain ⟨⟨t374, t375⟩, A300, H⟩ := H
            replace H : (if t374 = 0 then ((spec_PairGet.f kj20 t360 x370001_20).bind fun t376 => (some (t360, t364, x370001_20, t366, t376))) else (some (t360, t364, x370001_20, t366, t367))) = some (r1, r2, r3, r4, r5) := H
            have A30 := Aside0.mk A300
            clear A300
            by_cases c31 : t374 = 0
            · rw [if_pos c31] at H
              have c31b0 : (t374 == 0) = true := beq_iff_eq.mpr c31
              have c31b1 : (t374 != 0) = false := bne_eq_false_iff_eq.mpr c31
              clear c31
              replace H := Option.bind_eq_some_iff.mp H
              obtain ⟨t376, A320, H⟩ := H
              replace H : (some (t360, t364, x370001_20, t366, t376)) = some (r1, r2, r3, r4, r5) := H
              have A32 := Aside0.mk A320
              clear A320
              simp only [Option.some.injEq, Prod.mk.injEq] at H
              obtain ⟨rfl, rfl, rfl, rfl, rfl⟩ := H
              have hnb33 := NB369_356.out
              have hnc33 := NB356_369.out
              have hnb34 := NB369_359.out
              have hnc34 := NB359_369.out
              have hcz35_0 : wc.cell? ⟨gb369, 0, none⟩ = some (.int .i64 t364) := (blk_cell BK369.out 0).trans rfl
              have hcz35_1 : wc.cell? ⟨gb369, 1, none⟩ = some (.string x370001_20) := (blk_cell BK369.out 1).trans rfl
              have hcz35_2 : wc.cell? ⟨gb369, 2, none⟩ = some (.int .i64 t366) := (blk_cell BK369.out 2).trans rfl
              have hcz35_3 : wc.cell? ⟨gb369, 3, none⟩ = some (.int .i64 t367) := (blk_cell BK369.out 3).trans rfl
              have hfz35_0 := blk_frozen BK369.out 0
              have hfz35_1 := blk_frozen BK369.out 1
              have hfz35_2 := blk_frozen BK369.out 2
              have hfz35_3 := blk_frozen BK369.out 3
              try go_wp2_with (first | (go_at_call 55; (with_reducible refine (spec_l20Rd_pick.calls kj20 g359 t357 x360001_20 2 t374 t375 w _ ?side1 ?side2 A30.out).mono ?_); (case side1 => repeat (first | (with_reducible first | exact HI359.out | apply IsS98.alloc | apply IsS98.drewN | apply IsS98.drew | apply IsS98.set_1 | refine IsS98.far ?_ NB359_356.out _ | refine IsS98.far ?_ NB359_369.out _) | exact HI359.out)); (case side2 => repeat (first | (with_reducible first | exact HB.out | apply below_alloc | apply pw_below_drewN | apply below_drew1 | refine below_set ?_ (IsS98.ge HI359.out) | refine below_set ?_ GE356.out | refine below_set ?_ GE369.out) | exact HB.out)); rintro e w36 ⟨rfl, hi, hb, hk⟩; have n0_ := Aside0.mk (Kd.R_mono (Kd.R_keep (IsS98.apart (show IsS98 w _ g359 t357 x360001_20 from by repeat (first | (with_reducible first | exact HI359.out | apply IsS98.alloc | apply IsS98.drewN | apply IsS98.drew | apply IsS98.set_1 | refine IsS98.far ?_ NB359_356.out _ | refine IsS98.far ?_ NB359_369.out _) | exact HI359.out)) (by (with_reducible repeat (first | apply Kd.R_alloc | apply Kd.R_drewN | apply Kd.R_drew)); exact HO_5.out) (by decide)) hk (fun _ h => h.2)) (fun _ h => h.1)); have n1_ := Aside0.mk (KeepBut.blk hk (g' := gb356) (o := .cells #[.int .i64 0, .string (⟨#[]⟩ : ByteArray), .int .i64 0, .int .i64 0] 31 (0, 0)) (by (with_reducible repeat (first | refine blk_drewN ?_ _ | refine blk_drew ?_ | refine blk_alloc ?_ _)); exact BK356.out) NB356_359.out (by simp)); have n2_ := Aside0.mk (KeepBut.blk hk (g' := gb369) (o := .cells #[.int .i64 t364, .string x370001_20, .int .i64 t366, .int .i64 t367] 31 (0, 0)) (by (with_reducible repeat (first | refine blk_drewN ?_ _ | refine blk_drew ?_ | refine blk_alloc ?_ _)); exact BK369.out) NB369_359.out (by simp)); have n3_ := Aside0.mk (hb); have n4_ := Aside0.mk (hi); clear HO_5; clear BK356; clear BK369; clear HB; clear HI359; have HO_5 := n0_; have BK356 := n1_; have BK369 := n2_; have HB := n3_; have HI359 := n4_; clear n0_ n1_ n2_ n3_ n4_; (try clear hb); (try clear hb2); (try clear hk); (try clear hi); have hcz37_0 : w36.cell? ⟨gb369, 0, none⟩ = some (.int .i64 t364) := (blk_cell BK369.out 0).trans rfl; have hcz37_1 : w36.cell? ⟨gb369, 1, none⟩ = some (.string x370001_20) := (blk_cell BK369.out 1).trans rfl; have hcz37_2 : w36.cell? ⟨gb369, 2, none⟩ = some (.int .i64 t366) := (blk_cell BK369.out 2).trans rfl; have hcz37_3 : w36.cell? ⟨gb369, 3, none⟩ = some (.int .i64 t367) := (blk_cell BK369.out 3).trans rfl; have hfz37_0 := blk_frozen BK369.out 0; have hfz37_1 := blk_frozen BK369.out 1; have hfz37_2 := blk_frozen BK369.out 2; have hfz37_3 := blk_frozen BK369.out 3; obtain ⟨Ao38, co38, eo38⟩ := Kd.R_slice HO_5.out; subst eo38) | ((with_reducible refine gate_callee (f := 43) rfl ?_); refine goesL_ (some 36) rfl rfl Try.func43 (by kernel_rfl) rfl #[.slice Ao38 t360.length co38, .string x370001_20] rfl (by (try simp only [List.map_toArray, List.map_cons, List.map_nil]); first | done | rfl | (simp only [List.length_drop, List.length_take]; rfl)) ?_; (with_reducible refine (spec_PairGet.calls kj20 _ _ t360 x370001_20 t376 _ ?side1 ?side2 A32.out).mono ?_); (case side1 => repeat (first | exact (Kd.R_reads' HO_5.out).2.2 | (with_reducible refine Kd.C_alloc ?_ _) | (with_reducible refine Kd.C_drewN ?_ _) | (with_reducible refine Kd.C_drew ?_))); (case side2 => exact (Kd.R_reads' HO_5.out).2.1); rintro e w39 ⟨rfl, hb⟩; refine ⟨_, rfl, ?_⟩; have n0_ := Aside0.mk (Kd.R_below (by (with_reducible repeat (first | apply Kd.R_alloc | apply Kd.R_drewN | apply Kd.R_drew)); exact HO_5.out) hb); have n1_ := Aside0.mk (blk_below (g := gb356) (o := .cells #[.int .i64 0, .string (⟨#[]⟩ : ByteArray), .int .i64 0, .int .i64 0] 31 (0, 0)) (by (with_reducible repeat (first | refine blk_drewN ?_ _ | refine blk_drew ?_ | refine blk_alloc ?_ _)); exact BK356.out) hb); have n2_ := Aside0.mk (blk_below (g := gb369) (o := .cells #[.int .i64 t364, .string x370001_20, .int .i64 t366, .int .i64 t367] 31 (0, 0)) (by (with_reducible repeat (first | refine blk_drewN ?_ _ | refine blk_drew ?_ | refine blk_alloc ?_ _)); exact BK369.out) hb); have n3_ := Aside0.mk (IsS98.below (by repeat (first | (with_reducible first | exact HI359.out | apply IsS98.alloc | apply IsS98.drewN | apply IsS98.drew | apply IsS98.set_1 | refine IsS98.far ?_ NB359_356.out _ | refine IsS98.far ?_ NB359_369.out _) | exact HI359.out)) hb); have n4_ := Aside0.mk (below_step (by repeat (first | (with_reducible first | exact HB.out | apply below_alloc | apply pw_below_drewN | apply below_drew1 | refine below_set ?_ (IsS98.ge HI359.out) | refine below_set ?_ GE356.out | refine below_set ?_ GE369.out) | exact HB.out)) hb); clear HO_5; clear BK356; clear BK369; clear HI359; clear HB; have HO_5 := n0_; have BK356 := n1_; have BK369 := n2_; have HI359 := n3_; have HB := n4_; clear n0_ n1_ n2_ n3_ n4_; (try clear hb); (try clear hb2); (try clear hk); (try clear hi); have hcz40_0 : w39.cell? ⟨gb369, 0, none⟩ = some (.int .i64 t364) := (blk_cell BK369.out 0).trans rfl; have hcz40_1 : w39.cell? ⟨gb369, 1, none⟩ = some (.string x370001_20) := (blk_cell BK369.out 1).trans rfl; have hcz40_2 : w39.cell? ⟨gb369, 2, none⟩ = some (.int .i64 t366) := (blk_cell BK369.out 2).trans rfl; have hcz40_3 : w39.cell? ⟨gb369, 3, none⟩ = some (.int .i64 t367) := (blk_cell BK369.out 3).trans rfl; have hfz40_0 := blk_frozen BK369.out 0; have hfz40_1 := blk_frozen BK369.out 1; have hfz40_2 := blk_frozen BK369.out 2; have hfz40_3 := blk_frozen BK369.out 3))
              have n0_ : Aside0 (Kd.R k42 42 (w39.setCell ⟨gb369, 3, none⟩ (.int .i64 t376)) w.heap.size (fun _ => True) (.slice Ao38 t360.length co38) t360) := ⟨by (with_reducible repeat (first | apply Kd.R_alloc | apply Kd.R_drewN | apply Kd.R_drew)); exact Kd.R_mono (Kd.R_far (p := ⟨gb369, 3, none⟩) (Kd.R_types HO_5.out BK369.out (by decide)) (fun _ hk => hk.2) (.int .i64 t376)) (fun _ hk => trivial)⟩
              have n1_ : Aside0 ((w39.setCell ⟨gb369, 3, none⟩ (.int .i64 t376)).heap[gb356]? = some (.cells #[.int .i64 0, .string (⟨#[]⟩ : ByteArray), .int .i64 0, .int .i64 0] 31 (0, 0))) := ⟨by (with_reducible repeat (first | refine blk_drewN ?_ _ | refine blk_drew ?_ | refine blk_alloc ?_ _)); refine blk_far ?_ NB356_369.out _; (with_reducible repeat (first | refine blk_drewN ?_ _ | refine blk_drew ?_ | refine blk_alloc ?_ _)); exact BK356.out⟩
              have n2_ : Aside0 ((w39.setCell ⟨gb369, 3, none⟩ (.int .i64 t376)).heap[gb369]? = some (.cells #[.int .i64 t364, .string x370001_20, .int .i64 t366, .int .i64 t376] 31 (0, 0))) := ⟨by (with_reducible repeat (first | refine blk_drewN ?_ _ | refine blk_drew ?_ | refine blk_alloc ?_ _)); refine blk_put (cs := #[.int .i64 t364, .string x370001_20, .int .i64 t366, .int .i64 t367]) ?_ 3 _ rfl; (with_reducible repeat (first | refine blk_drewN ?_ _ | refine blk_drew ?_ | refine blk_alloc ?_ _)); exact BK369.out⟩
              have n3_ : Aside0 (IsS98 w (w39.setCell ⟨gb369, 3, none⟩ (.int .i64 t376)) g359 t357 t375) := ⟨by repeat (first | (with_reducible first | exact HI359.out | apply IsS98.alloc | apply IsS98.drewN | apply IsS98.drew | apply IsS98.set_1 | refine IsS98.far ?_ NB359_356.out _ | refine IsS98.far ?_ NB359_369.out _) | exact HI359.out)⟩
              have n4_ : Aside0 (Below w.heap.size w (w39.setCell ⟨gb369, 3, none⟩ (.int .i64 t376))) := ⟨by repeat (first | (with_reducible first | exact HB.out | apply below_alloc | apply pw_below_drewN | apply below_drew1 | refine below_set ?_ (IsS98.ge HI359.out) | refine below_set ?_ GE356.out | refine below_set ?_ GE369.out) | exact HB.out)⟩
              (try clear HO_5)
              (try clear BK356)
              (try clear BK369)
              (try clear HI359)
              (try clear HB)
              generalize (w39.setCell ⟨gb369, 3, none⟩ (.int .i64 t376)) = w41 at n0_ n1_ n2_ n3_ n4_ ⊢
              have HO_5 := n0_
              have BK356 := n1_
              have BK369 := n2_
              have HI359 := n3_
              have HB := n4_
              clear n0_ n1_ n2_ n3_ n4_
              have n0_ := Aside0.mk (Kd.R_drew HO_5.out)
              have n1_ := Aside0.mk (blk_drew BK356.out)
              have n2_ := Aside0.mk (blk_drew BK369.out)
              have n3_ := Aside0.mk (IsS98.drew HI359.out)
              have n4_ := Aside0.mk (below_drew1 HB.out)
              clear HO_5
              clear BK356
              clear BK369
              clear HI359
              clear HB
              have HO_5 := n0_
              have BK356 := n1_
              have BK369 := n2_
              have HI359 := n3_
              have HB := n4_
              clear n0_ n1_ n2_ n3_ n4_
              refine start_ (n := 4) (S := fun w' => w'.cell? ⟨gb369, 0, none⟩ = some (.int .i64 t364) ∧ w'.cell? ⟨gb369, 1, none⟩ = some (.string x370001_20) ∧ w'.cell? ⟨gb369, 2, none⟩ = some (.int .i64 t366) ∧ w'.cell? ⟨gb369, 3, none⟩ = some (.int .i64 t376)) (ds := []) #[false, false, false, false] (by kernel_rfl) rfl rfl ⟨(blk_cell BK369.out 0).trans rfl, (blk_cell BK369.out 1).trans rfl, (blk_cell BK369.out 2).trans rfl, (blk_cell BK369.out 3).trans rfl⟩ (fun hHeld => ?_)
              generalize w41.drew = w42 at HO_5 BK356 BK369 HI359 HB hHeld ⊢
              refine pure_ (i := 0) (N := some 38) (v := ?_) (a' := ?_) #[true, false, false, false] rfl rfl (by kernel_rfl) (fun _ _ _ h => h) (Or.inl ⟨by rfl, ?_⟩) ?_ ?_
              rotate_left
              · intro w'
                go_simp
                with_reducible rfl
              rotate_left
              · simp only [Act.put, List.setIfInBounds_toArray, List.set_cons_zero, List.set_cons_succ, i64_w, i32_w]
                rfl
              refine pure_ (i := 2) (N := some 2) (v := ?_) (a' := ?_) #[true, false, true, false] rfl rfl (by kernel_rfl) (fun _ _ _ h => h) (Or.inl ⟨by rfl, ?_⟩) ?_ ?_
              rotate_left
              · intro w'
                go_simp
                with_reducible rfl
              rotate_left
              · simp only [Act.put, List.setIfInBounds_toArray, List.set_cons_zero, List.set_cons_succ, i64_w, i32_w]
                rfl
              refine take_ (i := 1) (N := some 39) (v := ?_) (a' := ?_) #[true, true, true, false] rfl rfl (by kernel_rfl) (fun _ _ _ h => h) (Or.inl ⟨by rfl, ?_⟩) hHeld ?_ ?_
              rotate_left
              · rintro w' ⟨s0, s1, s2, s3⟩
                go_simp
                with_reducible rfl
              rotate_left
              · simp only [Act.put, List.setIfInBounds_toArray, List.set_cons_zero, List.set_cons_succ, i64_w, i32_w]
                rfl
              refine one_ (i := 3) (N := none) #[true, true, true, true] rfl rfl (by kernel_rfl) (by decide) (fun K hK => ?_)
              have hs43 : w42.cell? ⟨gb356, 0, none⟩ = some (.int .i64 0) := (blk_cell BK356.out 0).trans rfl
              have hfs43 := blk_frozen BK356.out 0
              have hns43_1 := NB369_356.out
              have hms43_1 := NB356_369.out
              have hs44 : w42.cell? ⟨gb356, 1, none⟩ = some (.string (⟨#[]⟩ : ByteArray)) := (blk_cell BK356.out 1).trans rfl
              have hfs44 := blk_frozen BK356.out 1
              have hns44_1 := NB369_356.out
              have hms44_1 := NB356_369.out
              have hs45 : w42.cell? ⟨gb356, 2, none⟩ = some (.int .i64 0) := (blk_cell BK356.out 2).trans rfl
              have hfs45 := blk_frozen BK356.out 2
              have hns45_1 := NB369_356.out
              have hms45_1 := NB356_369.out
              have hs46 : w42.cell? ⟨gb356, 3, none⟩ = some (.int .i64 0) := (blk_cell BK356.out 3).trans rfl
              have hfs46 := blk_frozen BK356.out 3
              have hns46_1 := NB369_356.out
              have hms46_1 := NB356_369.out
              refine skip_ (w1 := ?_) (by rfl) rfl ?_ ?_
              rotate_left
              · go_simp
                rfl
              refine hK.out _ _ ⟨((cell_far (p := ⟨gb356, _, none⟩) NB369_356.out _).trans (((cell_far (p := ⟨gb356, _, none⟩) NB369_356.out _).trans (((cell_far (p := ⟨gb356, _, none⟩) NB369_356.out _).trans (((cell_far (p := ⟨gb356, _, none⟩) NB369_356.out _).trans (hHeld.1)))))))), ((cell_far (p := ⟨gb356, _, none⟩) NB369_356.out _).trans (((cell_far (p := ⟨gb356, _, none⟩) NB369_356.out _).trans (((cell_far (p := ⟨gb356, _, none⟩) NB369_356.out _).trans (((cell_far (p := ⟨gb356, _, none⟩) NB369_356.out _).trans (hHeld.2.1)))))))), ((cell_far (p := ⟨gb356, _, none⟩) NB369_356.out _).trans (((cell_far (p := ⟨gb356, _, none⟩) NB369_356.out _).trans (((cell_far (p := ⟨gb356, _, none⟩) NB369_356.out _).trans (((cell_far (p := ⟨gb356, _, none⟩) NB369_356.out _).trans (hHeld.2.2.1)))))))), ((cell_far (p := ⟨gb356, _, none⟩) NB369_356.out _).trans (((cell_far (p := ⟨gb356, _, none⟩) NB369_356.out _).trans (((cell_far (p := ⟨gb356, _, none⟩) NB369_356.out _).trans (((cell_far (p := ⟨gb356, _, none⟩) NB369_356.out _).trans (hHeld.2.2.2))))))))⟩ (fun hHeld => ?_)
              clear hK K
              refine done_ (by kernel_rfl) ?_
              try go_wp2
              refine bodyPost_ret (results_tc rfl _ _ gb356 31 #[.int .i64 t364, .string x370001_20, .int .i64 t366, .int .i64 t376] (0, 0) _ rfl (by (with_reducible repeat (first | refine blk_drewN ?_ _ | refine blk_drew ?_ | refine blk_alloc ?_ _)); refine blk_put (cs := #[.int .i64 t364, .string x370001_20, .int .i64 t366, .int .i64 0]) ?_ 3 _ rfl; (with_reducible repeat (first | refine blk_drewN ?_ _ | refine blk_drew ?_ | refine blk_alloc ?_ _)); refine blk_put (cs := #[.int .i64 t364, .string x370001_20, .int .i64 0, .int .i64 0]) ?_ 2 _ rfl; (with_reducible repeat (first | refine blk_drewN ?_ _ | refine blk_drew ?_ | refine blk_alloc ?_ _)); refine blk_put (cs := #[.int .i64 t364, .string (⟨#[]⟩ : ByteArray), .int .i64 0, .int .i64 0]) ?_ 1 _ rfl; (with_reducible repeat (first | refine blk_drewN ?_ _ | refine blk_drew ?_ | refine blk_alloc ?_ _)); refine blk_put (cs := #[.int .i64 0, .string (⟨#[]⟩ : ByteArray), .int .i64 0, .int .i64 0]) ?_ 0 _ rfl; (with_reducible repeat (first | refine blk_drewN ?_ _ | refine blk_drew ?_ | refine blk_alloc ?_ _)); exact BK356.out) Try.underlying31 rfl (by kernel_rfl)) rfl ?_
              exact ⟨_, by first | rfl | (simp [errW_none, errW_some] <;> rfl) | (simp [*, errW_none, errW_some] <;> rfl), by (with_reducible repeat (first | apply Kd.R_alloc | apply Kd.R_drewN | apply Kd.R_drew)); exact Kd.R_mono (Kd.R_far (p := ⟨gb356, 3, none⟩) (Kd.R_far (p := ⟨gb356, 2, none⟩) (Kd.R_far (p := ⟨gb356, 1, none⟩) (Kd.R_far (p := ⟨gb356, 0, none⟩) (Kd.R_types HO_5.out BK356.out (by decide)) (fun _ hk => hk.2) (.int .i64 t364)) (fun _ hk => hk.2) (.string x370001_20)) (fun _ hk => hk.2) (.int .i64 t366)) (fun _ hk => hk.2) (.int .i64 t376)) (fun _ hk => trivial), by repeat (first | (with_reducible first | exact HB.out | apply below_alloc | apply pw_below_drewN | apply below_drew1 | refine below_set ?_ (IsS98.ge HI359.out) | refine below_set ?_ GE356.out | refine below_set ?_ GE369.out) | exact HB.out)⟩
            · rw [if_neg c31] at H
              have c31b0 : (t374 == 0) = false := beq_eq_false_iff_ne.mpr c31
              have c31b1 : (t374 != 0) = true := bne_iff_ne.mpr c31
              simp only [Option.some.injEq, Prod.mk.injEq] at H
              obtain ⟨rfl, rfl, rfl, rfl, rfl⟩ := H
              have hnb47 := NB369_356.out
              have hnc47 := NB356_369.out
              have hnb48 := NB369_359.out
              have hnc48 := NB359_369.out
              have hcz49_0 : wc.cell? ⟨gb369, 0, none⟩ = some (.int .i64 t364) := (blk_cell BK369.out 0).trans rfl
              have hcz49_1 : wc.cell? ⟨gb369, 1, none⟩ = some (.string x370001_20) := (blk_cell BK369.out 1).trans rfl
              have hcz49_2 : wc.cell? ⟨gb369, 2, none⟩ = some (.int .i64 t366) := (blk_cell BK369.out 2).trans rfl
              have hcz49_3 : wc.cell? ⟨gb369, 3, none⟩ = some (.int .i64 t367) := (blk_cell BK369.out 3).trans rfl
              have hfz49_0 := blk_frozen BK369.out 0
              have hfz49_1 := blk_frozen BK369.out 1
              have hfz49_2 := blk_frozen BK369.out 2
              have hfz49_3 := blk_frozen BK369.out 3
              try go_wp2_with (first | (go_at_call 55; (with_reducible refine (spec_l20Rd_pick.calls kj20 g359 t357 x360001_20 2 t374 t375 w _ ?side1 ?side2 A30.out).mono ?_); (case side1 => repeat (first | (with_reducible first | exact HI359.out | apply IsS98.alloc | apply IsS98.drewN | apply IsS98.drew | apply IsS98.set_1 | refine IsS98.far ?_ NB359_356.out _ | refine IsS98.far ?_ NB359_369.out _) | exact HI359.out)); (case side2 => repeat (first | (with_reducible first | exact HB.out | apply below_alloc | apply pw_below_drewN | apply below_drew1 | refine below_set ?_ (IsS98.ge HI359.out) | refine below_set ?_ GE356.out | refine below_set ?_ GE369.out) | exact HB.out)); rintro e w50 ⟨rfl, hi, hb, hk⟩; have n0_ := Aside0.mk (Kd.R_mono (Kd.R_keep (IsS98.apart (show IsS98 w _ g359 t357 x360001_20 from by repeat (first | (with_reducible first | exact HI359.out | apply IsS98.alloc | apply IsS98.drewN | apply IsS98.drew | apply IsS98.set_1 | refine IsS98.far ?_ NB359_356.out _ | refine IsS98.far ?_ NB359_369.out _) | exact HI359.out)) (by (with_reducible repeat (first | apply Kd.R_alloc | apply Kd.R_drewN | apply Kd.R_drew)); exact HO_5.out) (by decide)) hk (fun _ h => h.2)) (fun _ h => h.1)); have n1_ := Aside0.mk (KeepBut.blk hk (g' := gb356) (o := .cells #[.int .i64 0, .string (⟨#[]⟩ : ByteArray), .int .i64 0, .int .i64 0] 31 (0, 0)) (by (with_reducible repeat (first | refine blk_drewN ?_ _ | refine blk_drew ?_ | refine blk_alloc ?_ _)); exact BK356.out) NB356_359.out (by simp)); have n2_ := Aside0.mk (KeepBut.blk hk (g' := gb369) (o := .cells #[.int .i64 t364, .string x370001_20, .int .i64 t366, .int .i64 t367] 31 (0, 0)) (by (with_reducible repeat (first | refine blk_drewN ?_ _ | refine blk_drew ?_ | refine blk_alloc ?_ _)); exact BK369.out) NB369_359.out (by simp)); have n3_ := Aside0.mk (hb); have n4_ := Aside0.mk (hi); clear HO_5; clear BK356; clear BK369; clear HB; clear HI359; have HO_5 := n0_; have BK356 := n1_; have BK369 := n2_; have HB := n3_; have HI359 := n4_; clear n0_ n1_ n2_ n3_ n4_; (try clear hb); (try clear hb2); (try clear hk); (try clear hi)))
              have n0_ := Aside0.mk (Kd.R_drew HO_5.out)
              have n1_ := Aside0.mk (blk_drew BK356.out)
              have n2_ := Aside0.mk (blk_drew BK369.out)
              have n3_ := Aside0.mk (IsS98.drew HI359.out)
              have n4_ := Aside0.mk (below_drew1 HB.out)
              clear HO_5
              clear BK356
              clear BK369
              clear HI359
              clear HB
              have HO_5 := n0_
              have BK356 := n1_
              have BK369 := n2_
              have HI359 := n3_
              have HB := n4_
              clear n0_ n1_ n2_ n3_ n4_
              refine start_ (n := 4) (S := fun w' => w'.cell? ⟨gb369, 0, none⟩ = some (.int .i64 t364) ∧ w'.cell? ⟨gb369, 1, none⟩ = some (.string x370001_20) ∧ w'.cell? ⟨gb369, 2, none⟩ = some (.int .i64 t366) ∧ w'.cell? ⟨gb369, 3, none⟩ = some (.int .i64 t367)) (ds := []) #[false, false, false, false] (by kernel_rfl) rfl rfl ⟨(blk_cell BK369.out 0).trans rfl, (blk_cell BK369.out 1).trans rfl, (blk_cell BK369.out 2).trans rfl, (blk_cell BK369.out 3).trans rfl⟩ (fun hHeld => ?_)
              generalize w50.drew = w51 at HO_5 BK356 BK369 HI359 HB hHeld ⊢
              refine pure_ (i := 0) (N := some 38) (v := ?_) (a' := ?_) #[true, false, false, false] rfl rfl (by kernel_rfl) (fun _ _ _ h => h) (Or.inl ⟨by rfl, ?_⟩) ?_ ?_
              rotate_left
              · intro w'
                go_simp
                with_reducible rfl
              rotate_left
              · simp only [Act.put, List.setIfInBounds_toArray, List.set_cons_zero, List.set_cons_succ, i64_w, i32_w]
                rfl
              refine pure_ (i := 2) (N := some 2) (v := ?_) (a' := ?_) #[true, false, true, false] rfl rfl (by kernel_rfl) (fun _ _ _ h => h) (Or.inl ⟨by rfl, ?_⟩) ?_ ?_
              rotate_left
              · intro w'
                go_simp
                with_reducible rfl
              rotate_left
              · simp only [Act.put, List.setIfInBounds_toArray, List.set_cons_zero, List.set_cons_succ, i64_w, i32_w]
                rfl
              refine take_ (i := 1) (N := some 39) (v := ?_) (a' := ?_) #[true, true, true, false] rfl rfl (by kernel_rfl) (fun _ _ _ h => h) (Or.inl ⟨by rfl, ?_⟩) hHeld ?_ ?_
              rotate_left
              · rintro w' ⟨s0, s1, s2, s3⟩
                go_simp
                with_reducible rfl
              rotate_left
              · simp only [Act.put, List.setIfInBounds_toArray, List.set_cons_zero, List.set_cons_succ, i64_w, i32_w]
                rfl
              refine one_ (i := 3) (N := none) #[true, true, true, true] rfl rfl (by kernel_rfl) (by decide) (fun K hK => ?_)
              have hs52 : w51.cell? ⟨gb356, 0, none⟩ = some (.int .i64 0) := (blk_cell BK356.out 0).trans rfl
              have hfs52 := blk_frozen BK356.out 0
              have hns52_1 := NB369_356.out
              have hms52_1 := NB356_369.out
              have hs53 : w51.cell? ⟨gb356, 1, none⟩ = some (.string (⟨#[]⟩ : ByteArray)) := (blk_cell BK356.out 1).trans rfl
              have hfs53 := blk_frozen BK356.out 1
              have hns53_1 := NB369_356.out
              have hms53_1 := NB356_369.out
              have hs54 : w51.cell? ⟨gb356, 2, none⟩ = some (.int .i64 0) := (blk_cell BK356.out 2).trans rfl
              have hfs54 := blk_frozen BK356.out 2
              have hns54_1 := NB369_356.out
              have hms54_1 := NB356_369.out
              have hs55 : w51.cell? ⟨gb356, 3, none⟩ = some (.int .i64 0) := (blk_cell BK356.out 3).trans rfl
              have hfs55 := blk_frozen BK356.out 3
              have hns55_1 := NB369_356.out
              have hms55_1 := NB356_369.out
              refine skip_ (w1 := ?_) (by rfl) rfl ?_ ?_
              rotate_left
              · go_simp
                rfl
              refine hK.out _ _ ⟨((cell_far (p := ⟨gb356, _, none⟩) NB369_356.out _).trans (((cell_far (p := ⟨gb356, _, none⟩) NB369_356.out _).trans (((cell_far (p := ⟨gb356, _, none⟩) NB369_356.out _).trans (((cell_far (p := ⟨gb356, _, none⟩) NB369_356.out _).trans (hHeld.1)))))))), ((cell_far (p := ⟨gb356, _, none⟩) NB369_356.out _).trans (((cell_far (p := ⟨gb356, _, none⟩) NB369_356.out _).trans (((cell_far (p := ⟨gb356, _, none⟩) NB369_356.out _).trans (((cell_far (p := ⟨gb356, _, none⟩) NB369_356.out _).trans (hHeld.2.1)))))))), ((cell_far (p := ⟨gb356, _, none⟩) NB369_356.out _).trans (((cell_far (p := ⟨gb356, _, none⟩) NB369_356.out _).trans (((cell_far (p := ⟨gb356, _, none⟩) NB369_356.out _).trans (((cell_far (p := ⟨gb356, _, none⟩) NB369_356.out _).trans (hHeld.2.2.1)))))))), ((cell_far (p := ⟨gb356, _, none⟩) NB369_356.out _).trans (((cell_far (p := ⟨gb356, _, none⟩) NB369_356.out _).trans (((cell_far (p := ⟨gb356, _, none⟩) NB369_356.out _).trans (((cell_far (p := ⟨gb356, _, none⟩) NB369_356.out _).trans (hHeld.2.2.2))))))))⟩ (fun hHeld => ?_)
              clear hK K
              refine done_ (by kernel_rfl) ?_
              try go_wp2
              refine bodyPost_ret (results_tc rfl _ _ gb356 31 #[.int .i64 t364, .string x370001_20, .int .i64 t366, .int .i64 t367] (0, 0) _ rfl (by (with_reducible repeat (first | refine blk_drewN ?_ _ | refine blk_drew ?_ | refine blk_alloc ?_ _)); refine blk_put (cs := #[.int .i64 t364, .string x370001_20, .int .i64 t366, .int .i64 0]) ?_ 3 _ rfl; (with_reducible repeat (first | refine blk_drewN ?_ _ | refine blk_drew ?_ | refine blk_alloc ?_ _)); refine blk_put (cs := #[.int .i64 t364, .string x370001_20, .int .i64 0, .int .i64 0]) ?_ 2 _ rfl; (with_reducible repeat (first | refine blk_drewN ?_ _ | refine blk_drew ?_ | refine blk_alloc ?_ _)); refine blk_put (cs := #[.int .i64 t364, .string (⟨#[]⟩ : ByteArray), .int .i64 0, .int .i64 0]) ?_ 1 _ rfl; (with_reducible repeat (first | refine blk_drewN ?_ _ | refine blk_drew ?_ | refine blk_alloc ?_ _)); refine blk_put (cs := #[.int .i64 0, .string (⟨#[]⟩ : ByteArray), .int .i64 0, .int .i64 0]) ?_ 0 _ rfl; (with_reducible repeat (first | refine blk_drewN ?_ _ | refine blk_drew ?_ | refine blk_alloc ?_ _)); exact BK356.out) Try.underlying31 rfl (by kernel_rfl)) rfl ?_
              exact ⟨_, by first | rfl | (simp [errW_none, errW_some] <;> rfl) | (simp [*, errW_none, errW_some] <;> rfl), by (with_reducible repeat (first | apply Kd.R_alloc | apply Kd.R_drewN | apply Kd.R_drew)); exact Kd.R_mono (Kd.R_far (p := ⟨gb356, 3, none⟩) (Kd.R_far (p := ⟨gb356, 2, none⟩) (Kd.R_far (p := ⟨gb356, 1, none⟩) (Kd.R_far (p := ⟨gb356, 0, none⟩) (Kd.R_types HO_5.out BK356.out (by decide)) (fun _ hk => hk.2) (.int .i64 t364)) (fun _ hk => hk.2) (.string x370001_20)) (fun _ hk => hk.2) (.int .i64 t366)) (fun _ hk => hk.2) (.int .i64 t367)) (fun _ hk => trivial), by repeat (first | (with_reducible first | exact HB.out | apply below_alloc | apply pw_below_drewN | apply below_drew1 | refine below_set ?_ (IsS98.ge HI359.out) | refine below_set ?_ GE356.out | refine below_set ?_ GE369.out) | exact HB.out)⟩
          · rw [if_neg c29] at H
            have c29b0 : (t364 == 4) = false := beq_eq_false_iff_ne.mpr c29
            have c29b1 : (t364 != 4) = true := bne_iff_ne.mpr c29
            simp only [Option.some.injEq, Prod.mk.injEq] at H
            obtain ⟨rfl, rfl, rfl, rfl, rfl⟩ := H
            have hnb56 := NB369_356.out
            have hnc56 := NB356_369.out
            have hnb57 := NB369_359.out
            have hnc57 := NB359_369.out
            have hcz58_0 : wc.cell? ⟨gb369, 0, none⟩ = some (.int .i64 t364) := (blk_cell BK369.out 0).trans rfl
            have hcz58_1 : wc.cell? ⟨gb369, 1, none⟩ = some (.string x370001_20) := (blk_cell BK369.out 1).trans rfl
            have hcz58_2 : wc.cell? ⟨gb369, 2, none⟩ = some (.int .i64 t366) := (blk_cell BK369.out 2).trans rfl
            have hcz58_3 : wc.cell? ⟨gb369, 3, none⟩ = some (.int .i64 t367) := (blk_cell BK369.out 3).trans rfl
            have hfz58_0 := blk_frozen BK369.out 0
            have hfz58_1 := blk_frozen BK369.out 1
            have hfz58_2 := blk_frozen BK369.out 2
            have hfz58_3 := blk_frozen BK369.out 3
            try go_wp2
            have n0_ := Aside0.mk (Kd.R_drew HO_5.out)
            have n1_ := Aside0.mk (blk_drew BK356.out)
            have n2_ := Aside0.mk (blk_drew BK369.out)
            have n3_ := Aside0.mk (IsS98.drew HI359.out)
            have n4_ := Aside0.mk (below_drew1 HB.out)
            clear HO_5
            clear BK356
            clear BK369
            clear HI359
            clear HB
            have HO_5 := n0_
            have BK356 := n1_
            have BK369 := n2_
            have HI359 := n3_
            have HB := n4_
            clear n0_ n1_ n2_ n3_ n4_
            refine start_ (n := 4) (S := fun w' => w'.cell? ⟨gb369, 0, none⟩ = some (.int .i64 t364) ∧ w'.cell? ⟨gb369, 1, none⟩ = some (.string x370001_20) ∧ w'.cell? ⟨gb369, 2, none⟩ = some (.int .i64 t366) ∧ w'.cell? ⟨gb369, 3, none⟩ = some (.int .i64 t367)) (ds := []) #[false, false, false, false] (by kernel_rfl) rfl rfl ⟨(blk_cell BK369.out 0).trans rfl, (blk_cell BK369.out 1).trans rfl, (blk_cell BK369.out 2).trans rfl, (blk_cell BK369.out 3).trans rfl⟩ (fun hHeld => ?_)
            generalize wc.drew = w59 at HO_5 BK356 BK369 HI359 HB hHeld ⊢
            refine pure_ (i := 0) (N := some 38) (v := ?_) (a' := ?_) #[true, false, false, false] rfl rfl (by kernel_rfl) (fun _ _ _ h => h) (Or.inl ⟨by rfl, ?_⟩) ?_ ?_
            rotate_left
            · intro w'
              go_simp
              with_reducible rfl
            rotate_left
            · simp only [Act.put, List.setIfInBounds_toArray, List.set_cons_zero, List.set_cons_succ, i64_w, i32_w]
              rfl
            refine pure_ (i := 2) (N := some 2) (v := ?_) (a' := ?_) #[true, false, true, false] rfl rfl (by kernel_rfl) (fun _ _ _ h => h) (Or.inl ⟨by rfl, ?_⟩) ?_ ?_
            rotate_left
            · intro w'
              go_simp
              with_reducible rfl
            rotate_left
            · simp only [Act.put, List.setIfInBounds_toArray, List.set_cons_zero, List.set_cons_succ, i64_w, i32_w]
              rfl
            refine take_ (i := 1) (N := some 39) (v := ?_) (a' := ?_) #[true, true, true, false] rfl rfl (by kernel_rfl) (fun _ _ _ h => h) (Or.inl ⟨by rfl, ?_⟩) hHeld ?_ ?_
            rotate_left
            · rintro w' ⟨s0, s1, s2, s3⟩
              go_simp
              with_reducible rfl
            rotate_left
            · simp only [Act.put, List.setIfInBounds_toArray, List.set_cons_zero, List.set_cons_succ, i64_w, i32_w]
              rfl
            refine one_ (i := 3) (N := none) #[true, true, true, true] rfl rfl (by kernel_rfl) (by decide) (fun K hK => ?_)
            have hs60 : w59.cell? ⟨gb356, 0, none⟩ = some (.int .i64 0) := (blk_cell BK356.out 0).trans rfl
            have hfs60 := blk_frozen BK356.out 0
            have hns60_1 := NB369_356.out
            have hms60_1 := NB356_369.out
            have hs61 : w59.cell? ⟨gb356, 1, none⟩ = some (.string (⟨#[]⟩ : ByteArray)) := (blk_cell BK356.out 1).trans rfl
            have hfs61 := blk_frozen BK356.out 1
            have hns61_1 := NB369_356.out
            have hms61_1 := NB356_369.out
            have hs62 : w59.cell? ⟨gb356, 2, none⟩ = some (.int .i64 0) := (blk_cell BK356.out 2).trans rfl
            have hfs62 := blk_frozen BK356.out 2
            have hns62_1 := NB369_356.out
            have hms62_1 := NB356_369.out
            have hs63 : w59.cell? ⟨gb356, 3, none⟩ = some (.int .i64 0) := (blk_cell BK356.out 3).trans rfl
            have hfs63 := blk_frozen BK356.out 3
            have hns63_1 := NB369_356.out
            have hms63_1 := NB356_369.out
            refine skip_ (w1 := ?_) (by rfl) rfl ?_ ?_
            rotate_left
            · go_simp
              rfl
            refine hK.out _ _ ⟨((cell_far (p := ⟨gb356, _, none⟩) NB369_356.out _).trans (((cell_far (p := ⟨gb356, _, none⟩) NB369_356.out _).trans (((cell_far (p := ⟨gb356, _, none⟩) NB369_356.out _).trans (((cell_far (p := ⟨gb356, _, none⟩) NB369_356.out _).trans (hHeld.1)))))))), ((cell_far (p := ⟨gb356, _, none⟩) NB369_356.out _).trans (((cell_far (p := ⟨gb356, _, none⟩) NB369_356.out _).trans (((cell_far (p := ⟨gb356, _, none⟩) NB369_356.out _).trans (((cell_far (p := ⟨gb356, _, none⟩) NB369_356.out _).trans (hHeld.2.1)))))))), ((cell_far (p := ⟨gb356, _, none⟩) NB369_356.out _).trans (((cell_far (p := ⟨gb356, _, none⟩) NB369_356.out _).trans (((cell_far (p := ⟨gb356, _, none⟩) NB369_356.out _).trans (((cell_far (p := ⟨gb356, _, none⟩) NB369_356.out _).trans (hHeld.2.2.1)))))))), ((cell_far (p := ⟨gb356, _, none⟩) NB369_356.out _).trans (((cell_far (p := ⟨gb356, _, none⟩) NB369_356.out _).trans (((cell_far (p := ⟨gb356, _, none⟩) NB369_356.out _).trans (((cell_far (p := ⟨gb356, _, none⟩) NB369_356.out _).trans (hHeld.2.2.2))))))))⟩ (fun hHeld => ?_)
            clear hK K
            refine done_ (by kernel_rfl) ?_
            try go_wp2
            refine bodyPost_ret (results_tc rfl _ _ gb356 31 #[.int .i64 t364, .string x370001_20, .int .i64 t366, .int .i64 t367] (0, 0) _ rfl (by (with_reducible repeat (first | refine blk_drewN ?_ _ | refine blk_drew ?_ | refine blk_alloc ?_ _)); refine blk_put (cs := #[.int .i64 t364, .string x370001_20, .int .i64 t366, .int .i64 0]) ?_ 3 _ rfl; (with_reducible repeat (first | refine blk_drewN ?_ _ | refine blk_drew ?_ | refine blk_alloc ?_ _)); refine blk_put (cs := #[.int .i64 t364, .string x370001_20, .int .i64 0, .int .i64 0]) ?_ 2 _ rfl; (with_reducible repeat (first | refine blk_drewN ?_ _ | refine blk_drew ?_ | refine blk_alloc ?_ _)); refine blk_put (cs := #[.int .i64 t364, .string (⟨#[]⟩ : ByteArray), .int .i64 0, .int .i64 0]) ?_ 1 _ rfl; (with_reducible repeat (first | refine blk_drewN ?_ _ | refine blk_drew ?_ | refine blk_alloc ?_ _)); refine blk_put (cs := #[.int .i64 0, .string (⟨#[]⟩ : ByteArray), .int .i64 0, .int .i64 0]) ?_ 0 _ rfl; (with_reducible repeat (first | refine blk_drewN ?_ _ | refine blk_drew ?_ | refine blk_alloc ?_ _)); exact BK356.out) Try.underlying31 rfl (by kernel_rfl)) rfl ?_
            exact ⟨_, by first | rfl | (simp [errW_none, errW_some] <;> rfl) | (simp [*, errW_none, errW_some] <;> rfl), by (with_reducible repeat (first | apply Kd.R_alloc | apply Kd.R_drewN | apply Kd.R_drew)); exact Kd.R_mono (Kd.R_far (p := ⟨gb356, 3, none⟩) (Kd.R_far (p := ⟨gb356, 2, none⟩) (Kd.R_far (p := ⟨gb356, 1, none⟩) (Kd.R_far (p := ⟨gb356, 0, none⟩) (Kd.R_types HO_5.out BK356.out (by decide)) (fun _ hk => hk.2) (.int .i64 t364)) (fun _ hk => hk.2) (.string x370001_20)) (fun _ hk => hk.2) (.int .i64 t366)) (fun _ hk => hk.2) (.int .i64 t367)) (fun _ hk => trivial), by repeat (first | (with_reducible first | exact HB.out | apply below_alloc | apply pw_below_drewN | apply below_drew1 | refine below_set ?_ (IsS98.ge HI359.out) | refine below_set ?_ GE356.out | refine below_set ?_ GE369.out) | exact HB.out)⟩

end Go.Proofs.Ythfmpcaflplnbaa.PFnApplyCommand
