-- PRINTED BY print.sh 35421559b90ae4d0a3588c463048766b98c2df88dd9212a6774a882060cdf62d: not written by this session
import Derived.Test.YtnogoanlfmflcaaDoorPFnCommandTextx0
import Derived.Test.YtnogoanlfmflcaaDoorPFnCommandTextx61
import Derived.Test.YtnogoanlfmflcaaDoorPFnCommandTextx67
namespace Go.Proofs.YtnogoanlfmflcaaDoor.PFnCommandText
open Go.RowKit Go.Proofs.YtnogoanlfmflcaaDoorW.PrintWords Go.Proofs.YtnogoanlfmflcaaDoorW.PrintLast Go.Proofs.YtnogoanlfmflcaaDoorW.PrintMore
attribute [local go_sem] max2_int min2_int max_two min_two max_three min_three max_four min_four   -- for this text's walks alone
set_option linter.unusedVariables false
set_option linter.unusedSimpArgs false

/-! ### spec_DrawCommandText: function 25 -/
def spec_DrawCommandText.f (k : Nat) (l0 : List Int) : Option (Int × ByteArray × Int × Int) := (spec_l20Open.f l0).bind fun bt269 => ((spec_l20Any.f k bt269.1 bt269.2 6).bind fun bt272 => (some (bt272.1, bt272.2.1, bt272.2.2.1, bt272.2.2.2.1)))
theorem spec_DrawCommandText.mono : ∀ a0 k, LeO (spec_DrawCommandText.f k a0) (spec_DrawCommandText.f (k + 1) a0) := by
  intro a0 k
  unfold spec_DrawCommandText.f
  repeat' first
      | (with_reducible exact spec_l20Any.mono _ _ _ _)
      | (with_reducible exact LeO.refl _)
      | (with_reducible exact LeO.none _)
      | (with_reducible refine LeO.ite ?_ ?_)
      | (with_reducible refine LeO.bind ?_ (fun _ => ?_))
      | exact spec_l20Any.mono _ _ _ _
      | exact LeO.none _
      | refine LeO.ite ?_ ?_
      | refine LeO.bind ?_ (fun _ => ?_)
set_option maxHeartbeats 8000000 in
set_option maxRecDepth 100000 in
theorem spec_DrawCommandText.calls (k : Nat) (A0 : Option Addr) (c0 : Nat) (l0 : List Int) (r1 : Int) (r2 : ByteArray) (r3 : Int) (r4 : Int) (w : World) (hr0 : Kd.C (Kd.int .u8) w A0 l0.length l0) (hc0 : l0.length ≤ c0) (h : spec_DrawCommandText.f k l0 = some (r1, r2, r3, r4)) :
    Calls Tryd.prog 25 #[.slice A0 l0.length c0] w fun e w' => e = .returned (.agg #[.int .i64 r1, .string r2, .int .i64 r3, .int .i64 r4]) ∧ Below w.heap.size w w' := by
  have hu28 := Tryd.underlying28
  have HR0 := Aside0.mk hr0
  have HC0 := Aside0.mk hc0
  clear hr0 hc0
  have HB := Aside0.mk (Below.refl w.heap.size w)
  have H : ((spec_l20Open.f l0).bind fun bt269 => ((spec_l20Any.f k bt269.1 bt269.2 6).bind fun bt272 => (some (bt272.1, bt272.2.1, bt272.2.2.1, bt272.2.2.2.1)))) = some (r1, r2, r3, r4) := h
  clear h
  replace H := Option.bind_eq_some_iff.mp H
  obtain ⟨⟨t269, t270⟩, A20, H⟩ := H
  replace H : ((spec_l20Any.f k t269 t270 6).bind fun bt272 => (some (bt272.1, bt272.2.1, bt272.2.2.1, bt272.2.2.2.1))) = some (r1, r2, r3, r4) := H
  have A2 := Aside0.mk A20
  clear A20
  replace H := Option.bind_eq_some_iff.mp H
  obtain ⟨⟨t272, t273, t274, t275, t276⟩, A30, H⟩ := H
  replace H : (some (t272, t273, t274, t275)) = some (r1, r2, r3, r4) := H
  have A3 := Aside0.mk A30
  clear A30
  simp only [Option.some.injEq, Prod.mk.injEq] at H
  obtain ⟨rfl, rfl, rfl, rfl⟩ := H
  go_enter Tryd.func25, Tryd.ntmps25
  go_wp2_with (first | ((with_reducible refine gate_dst (N := 2) rfl ?_); refine box_event ?hg (N := 2) ?hd (cs := #[.int .i64 0, .string (⟨#[]⟩ : ByteArray), .int .i64 0, .int .i64 0]) (t := 28) ?hr ?_; (case hd => rfl); (case hg => rfl); (case hr => first | (go_simp; done) | (go_simp; rfl)); intro gb268 hg w4 hbox hb; have n0_ := Aside0.mk (below_step (by repeat (first | (with_reducible first | exact HB.out | apply below_alloc | apply pw_below_drewN | apply below_drew1) | exact HB.out)) hb); have n1_ := Aside0.mk (hbox); have n2_ := Aside0.mk ((by rw [hg]; exact (below_size (by repeat (first | (with_reducible first | exact HB.out | apply below_alloc | apply pw_below_drewN | apply below_drew1) | exact HB.out))) : w.heap.size ≤ gb268)); have n3_ := Aside0.mk ((by rw [hg]; exact (below_size (by repeat (first | (with_reducible first | exact HB.out | apply below_alloc | apply pw_below_drewN | apply below_drew1) | exact HB.out))) : w.heap.size ≤ gb268)); clear HB; have HB := n0_; have BK268 := n1_; have GW268 := n2_; have GE268 := n3_; clear n0_ n1_ n2_ n3_; clear hb hbox hg) | ((with_reducible refine gate_callee (f := 39) rfl ?_); refine goesL_ (some 4) rfl rfl Tryd.func39 (by kernel_rfl) rfl #[.slice A0 l0.length c0] rfl (by (try simp only [List.map_toArray, List.map_cons, List.map_nil]); first | done | rfl | (simp only [List.length_drop, List.length_take]; rfl)) ?_; (with_reducible refine (spec_l20Open.calls _ _ l0 t269 t270 w _ ?side1 ?side2 ?side3 A2.out).mono ?_); (case side1 => repeat (first | (with_reducible first | exact HB.out | apply below_alloc | apply pw_below_drewN | apply below_drew1 | refine below_set ?_ GE268.out) | exact HB.out)); (case side2 => exact HR0.out); (case side3 => exact HC0.out); rintro e w5 ⟨g271, rfl, hi, hb, hb2⟩; refine ⟨_, rfl, ?_⟩; have n0_ := Aside0.mk (blk_below (g := gb268) (o := .cells #[.int .i64 0, .string (⟨#[]⟩ : ByteArray), .int .i64 0, .int .i64 0] 28 (0, 0)) (by (with_reducible repeat (first | refine blk_drewN ?_ _ | refine blk_drew ?_ | refine blk_alloc ?_ _)); exact BK268.out) hb2); have n1_ := Aside0.mk (hb); have n2_ := Aside0.mk (hi); have n3_ := Aside0.mk (IsS62.ne_blk hi (blk_below (g := gb268) (o := .cells #[.int .i64 0, .string (⟨#[]⟩ : ByteArray), .int .i64 0, .int .i64 0] 28 (0, 0)) (by (with_reducible repeat (first | refine blk_drewN ?_ _ | refine blk_drew ?_ | refine blk_alloc ?_ _)); exact BK268.out) hb2) (by decide)); have n4_ := Aside0.mk (Ne.symm (IsS62.ne_blk hi (blk_below (g := gb268) (o := .cells #[.int .i64 0, .string (⟨#[]⟩ : ByteArray), .int .i64 0, .int .i64 0] 28 (0, 0)) (by (with_reducible repeat (first | refine blk_drewN ?_ _ | refine blk_drew ?_ | refine blk_alloc ?_ _)); exact BK268.out) hb2) (by decide))); clear BK268; clear HB; have BK268 := n0_; have HB := n1_; have HI271 := n2_; have NB271_268 := n3_; have NB268_271 := n4_; clear n0_ n1_ n2_ n3_ n4_; (try clear hb); (try clear hb2); (try clear hk); (try clear hi)) | ((with_reducible refine gate_callee (f := 42) rfl ?_); refine goesL_ (some 5) rfl rfl Tryd.func42 (by kernel_rfl) rfl #[.pointer (some ⟨g271, 0, none⟩), .int .i64 6] rfl (by (try simp only [List.map_toArray, List.map_cons, List.map_nil]); first | done | rfl | (simp only [List.length_drop, List.length_take]; rfl)) ?_; (with_reducible refine (spec_l20Any.calls k g271 t269 t270 6 t272 t273 t274 t275 t276 w _ ?side1 ?side2 A3.out).mono ?_); (case side1 => repeat (first | (with_reducible first | exact HI271.out | apply IsS62.alloc | apply IsS62.drewN | apply IsS62.drew | apply IsS62.set_1 | refine IsS62.far ?_ NB271_268.out _) | exact HI271.out)); (case side2 => repeat (first | (with_reducible first | exact HB.out | apply below_alloc | apply pw_below_drewN | apply below_drew1 | refine below_set ?_ (IsS62.ge HI271.out) | refine below_set ?_ GE268.out) | exact HB.out)); rintro e w6 ⟨rfl, hi, hb, hk⟩; refine ⟨_, rfl, ?_⟩; have n0_ := Aside0.mk (KeepBut.blk hk (g' := gb268) (o := .cells #[.int .i64 0, .string (⟨#[]⟩ : ByteArray), .int .i64 0, .int .i64 0] 28 (0, 0)) (by (with_reducible repeat (first | refine blk_drewN ?_ _ | refine blk_drew ?_ | refine blk_alloc ?_ _)); exact BK268.out) NB268_271.out (by simp)); have n1_ := Aside0.mk (hb); have n2_ := Aside0.mk (hi); clear BK268; clear HB; clear HI271; have BK268 := n0_; have HB := n1_; have HI271 := n2_; clear n0_ n1_ n2_; (try clear hb); (try clear hb2); (try clear hk); (try clear hi); have hnb7 := NB268_271.out; have hnc7 := NB271_268.out; have hcz8_0 : w6.cell? ⟨gb268, 0, none⟩ = some (.int .i64 0) := (blk_cell BK268.out 0).trans rfl; have hcz8_1 : w6.cell? ⟨gb268, 1, none⟩ = some (.string (⟨#[]⟩ : ByteArray)) := (blk_cell BK268.out 1).trans rfl; have hcz8_2 : w6.cell? ⟨gb268, 2, none⟩ = some (.int .i64 0) := (blk_cell BK268.out 2).trans rfl; have hcz8_3 : w6.cell? ⟨gb268, 3, none⟩ = some (.int .i64 0) := (blk_cell BK268.out 3).trans rfl; have hfz8_0 := blk_frozen BK268.out 0; have hfz8_1 := blk_frozen BK268.out 1; have hfz8_2 := blk_frozen BK268.out 2; have hfz8_3 := blk_frozen BK268.out 3))
  refine bodyPost_ret (results_cell_row rfl _ _ gb268 28 #[.int .i64 t272, .string t273, .int .i64 t274, .int .i64 t275] (0, 0) _ rfl (by (with_reducible repeat (first | refine blk_drewN ?_ _ | refine blk_drew ?_ | refine blk_alloc ?_ _)); refine blk_put (cs := #[.int .i64 t272, .string t273, .int .i64 t274, .int .i64 0]) ?_ 3 _ rfl; (with_reducible repeat (first | refine blk_drewN ?_ _ | refine blk_drew ?_ | refine blk_alloc ?_ _)); refine blk_put (cs := #[.int .i64 t272, .string t273, .int .i64 0, .int .i64 0]) ?_ 2 _ rfl; (with_reducible repeat (first | refine blk_drewN ?_ _ | refine blk_drew ?_ | refine blk_alloc ?_ _)); refine blk_put (cs := #[.int .i64 t272, .string (⟨#[]⟩ : ByteArray), .int .i64 0, .int .i64 0]) ?_ 1 _ rfl; (with_reducible repeat (first | refine blk_drewN ?_ _ | refine blk_drew ?_ | refine blk_alloc ?_ _)); refine blk_put (cs := #[.int .i64 0, .string (⟨#[]⟩ : ByteArray), .int .i64 0, .int .i64 0]) ?_ 0 _ rfl; (with_reducible repeat (first | refine blk_drewN ?_ _ | refine blk_drew ?_ | refine blk_alloc ?_ _)); exact BK268.out) Tryd.underlying28 rfl (by kernel_rfl)) rfl ?_
  exact ⟨by first | rfl | (simp [errW_none, errW_some] <;> rfl) | (simp [*, errW_none, errW_some] <;> rfl), by repeat (first | (with_reducible first | exact HB.out | apply below_alloc | apply pw_below_drewN | apply below_drew1 | refine below_set ?_ (IsS62.ge HI271.out) | refine below_set ?_ GE268.out) | exact HB.out)⟩

end Go.Proofs.YtnogoanlfmflcaaDoor.PFnCommandText
