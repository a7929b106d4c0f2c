-- PRINTED BY print.sh 35421559b90ae4d0a3588c463048766b98c2df88dd9212a6774a882060cdf62d: not written by this session
import Derived.Test.YtlimhkjnnpmpkaaPFnExactReadFramex0
import Derived.Test.YtlimhkjnnpmpkaaPFnExactReadFramex1
import Derived.Test.YtlimhkjnnpmpkaaPFnExactReadFramex2
import Derived.Test.YtlimhkjnnpmpkaaPFnExactReadFramex3
import Derived.Test.YtlimhkjnnpmpkaaPFnExactReadFramex13
import Derived.Test.YtlimhkjnnpmpkaaPFnExactReadFramex29
namespace Go.Proofs.Ytlimhkjnnpmpkaa.PFnExactReadFrame
open Go.RowKit Go.Proofs.YtlimhkjnnpmpkaaW.PrintWords Go.Proofs.YtlimhkjnnpmpkaaW.PrintLast Go.Proofs.YtlimhkjnnpmpkaaW.PrintMore
attribute [local go_sem] max2_int min2_int max_two min_two max_three min_three max_four min_four   -- for this text's walks alone
set_option linter.unusedVariables false
set_option linter.unusedSimpArgs false

/-! ### laws_FnExactReadFrame: function 8 -/
def laws_FnExactReadFrame.j0 : Nat → List Int → List Int → Bool → Option (Bool)
  | 0, _, _, _ => none
  | k + 1, x0, x9, x40 => if x40 = true then (some false) else ((laws_toIntS.f k x0).bind fun t325 => ((laws_eqIntS.f k x9 t325).bind fun t328 => (if t328 = true then (some true) else (some false))))
def laws_FnExactReadFrame.f (k : Nat) (l0 : List Int) (a1 : Int) (a2 : Int) : Option (Bool) := if (l0.length : Int) > 1048576 then (some true) else ((laws_toIntS.f k l0).bind fun t302 => ((spec_ReadFrame.f k t302 a1 a2).bind fun bt305 => ((laws_toIntS.f k l0).bind fun t313 => ((impl_ReadFrame.f k t313 a1 a2).bind fun bt316 => ((laws_eqEntry.f bt316.1 bt316.2.1 bt316.2.2.1 bt316.2.2.2.1 bt316.2.2.2.2.1 bt316.2.2.2.2.2.1 bt305.1 bt305.2.1 bt305.2.2.1 bt305.2.2.2.1 bt305.2.2.2.2.1 bt305.2.2.2.2.2.1).bind fun t324 => (if t324 = true then (laws_FnExactReadFrame.j0 k l0 t313 (bt316.2.2.2.2.2.2 != bt305.2.2.2.2.2.2)) else (laws_FnExactReadFrame.j0 k l0 t313 true)))))))
theorem laws_FnExactReadFrame.mono_l : ∀ k, (∀ y0 y1 y2, LeO (laws_FnExactReadFrame.j0 k y0 y1 y2) (laws_FnExactReadFrame.j0 (k + 1) y0 y1 y2))
  | 0 => fun _ _ _ r h => by simp [laws_FnExactReadFrame.j0] at h
  | k + 1 => by
    have ih0 := laws_FnExactReadFrame.mono_l k
    · intro y0 y1 y2
      unfold laws_FnExactReadFrame.j0
      repeat' first
      | (with_reducible exact ih0 _ _ _)
      | (with_reducible exact impl_ReadFrame.mono _ _ _ _)
      | (with_reducible exact laws_eqIntS.mono _ _ _)
      | (with_reducible exact laws_toIntS.mono _ _)
      | (with_reducible exact spec_ReadFrame.mono _ _ _ _)
      | (with_reducible exact LeO.refl _)
      | (with_reducible exact LeO.none _)
      | (with_reducible refine LeO.ite ?_ ?_)
      | (with_reducible refine LeO.bind ?_ (fun _ => ?_))
      | exact ih0 _ _ _
      | exact impl_ReadFrame.mono _ _ _ _
      | exact laws_eqIntS.mono _ _ _
      | exact laws_toIntS.mono _ _
      | exact spec_ReadFrame.mono _ _ _ _
      | exact LeO.none _
      | refine LeO.ite ?_ ?_
      | refine LeO.bind ?_ (fun _ => ?_)
theorem laws_FnExactReadFrame.mono : ∀ a0 a1 a2 k, LeO (laws_FnExactReadFrame.f k a0 a1 a2) (laws_FnExactReadFrame.f (k + 1) a0 a1 a2) := by
  intro a0 a1 a2 k
  have ih0 := laws_FnExactReadFrame.mono_l k
  unfold laws_FnExactReadFrame.f
  repeat' first
      | (with_reducible exact ih0 _ _ _)
      | (with_reducible exact impl_ReadFrame.mono _ _ _ _)
      | (with_reducible exact laws_eqIntS.mono _ _ _)
      | (with_reducible exact laws_toIntS.mono _ _)
      | (with_reducible exact spec_ReadFrame.mono _ _ _ _)
      | (with_reducible exact LeO.refl _)
      | (with_reducible exact LeO.none _)
      | (with_reducible refine LeO.ite ?_ ?_)
      | (with_reducible refine LeO.bind ?_ (fun _ => ?_))
      | exact ih0 _ _ _
      | exact impl_ReadFrame.mono _ _ _ _
      | exact laws_eqIntS.mono _ _ _
      | exact laws_toIntS.mono _ _
      | exact spec_ReadFrame.mono _ _ _ _
      | exact LeO.none _
      | refine LeO.ite ?_ ?_
      | refine LeO.bind ?_ (fun _ => ?_)
set_option maxHeartbeats 8000000 in
set_option maxRecDepth 100000 in
theorem laws_FnExactReadFrame.calls (k : Nat) (A0 : Option Addr) (c0 : Nat) (l0 : List Int) (a1 : Int) (a2 : Int) (r : Bool) (w : World) (hr0 : Kd.C (Kd.int .i64) w A0 l0.length l0) (hc0 : l0.length ≤ c0) (h : laws_FnExactReadFrame.f k l0 a1 a2 = some r) :
    Calls Try.prog 8 #[.slice A0 l0.length c0, .int .i64 a1, .int .i64 a2] w fun e w' => e = .returned (.bool r) ∧ Below w.heap.size w w' := by
  have hu31 := Try.underlying31
  have HR0 := Aside0.mk hr0
  have HC0 := Aside0.mk hc0
  clear hr0 hc0
  have HB := Aside0.mk (Below.refl w.heap.size w)
  have H : (if (l0.length : Int) > 1048576 then (some true) else ((laws_toIntS.f k l0).bind fun t302 => ((spec_ReadFrame.f k t302 a1 a2).bind fun bt305 => ((laws_toIntS.f k l0).bind fun t313 => ((impl_ReadFrame.f k t313 a1 a2).bind fun bt316 => ((laws_eqEntry.f bt316.1 bt316.2.1 bt316.2.2.1 bt316.2.2.2.1 bt316.2.2.2.2.1 bt316.2.2.2.2.2.1 bt305.1 bt305.2.1 bt305.2.2.1 bt305.2.2.2.1 bt305.2.2.2.2.1 bt305.2.2.2.2.2.1).bind fun t324 => (if t324 = true then (laws_FnExactReadFrame.j0 k l0 t313 (bt316.2.2.2.2.2.2 != bt305.2.2.2.2.2.2)) else (laws_FnExactReadFrame.j0 k l0 t313 true)))))))) = some r := h
  clear h
  by_cases c4 : (l0.length : Int) > 1048576
  · rw [if_pos c4] at H
    have c4b0 : decide (1048576 < (l0.length : Int)) = true := decide_eq_true c4
    have c4b1 : decide (1048576 < l0.length) = true := decide_eq_true (by omega)
    clear c4
    obtain rfl := Option.some.inj H
    go_enter Try.func8, Try.ntmps8
    go_wp2
    go_ret
    exact ⟨by first | rfl | (simp [errW_none, errW_some] <;> rfl) | (simp [*, errW_none, errW_some] <;> rfl), by repeat (first | (with_reducible first | exact HB.out | apply below_alloc | apply pw_below_drewN | apply below_drew1) | exact HB.out)⟩
  · rw [if_neg c4] at H
    have c4b0 : decide (1048576 < (l0.length : Int)) = false := decide_eq_false c4
    have c4b1 : decide (1048576 < l0.length) = false := decide_eq_false (by omega)
    clear c4
    replace H := Option.bind_eq_some_iff.mp H
    obtain ⟨t302, A50, H⟩ := H
    replace H : ((spec_ReadFrame.f k t302 a1 a2).bind fun bt305 => ((laws_toIntS.f k l0).bind fun t313 => ((impl_ReadFrame.f k t313 a1 a2).bind fun bt316 => ((laws_eqEntry.f bt316.1 bt316.2.1 bt316.2.2.1 bt316.2.2.2.1 bt316.2.2.2.2.1 bt316.2.2.2.2.2.1 bt305.1 bt305.2.1 bt305.2.2.1 bt305.2.2.2.1 bt305.2.2.2.2.1 bt305.2.2.2.2.2.1).bind fun t324 => (if t324 = true then (laws_FnExactReadFrame.j0 k l0 t313 (bt316.2.2.2.2.2.2 != bt305.2.2.2.2.2.2)) else (laws_FnExactReadFrame.j0 k l0 t313 true)))))) = some r := H
    have A5 := Aside0.mk A50
    clear A50
    replace H := Option.bind_eq_some_iff.mp H
    obtain ⟨⟨t305, t306, t307, t308, t309, t310, t311⟩, A60, H⟩ := H
    replace H : ((laws_toIntS.f k l0).bind fun t313 => ((impl_ReadFrame.f k t313 a1 a2).bind fun bt316 => ((laws_eqEntry.f bt316.1 bt316.2.1 bt316.2.2.1 bt316.2.2.2.1 bt316.2.2.2.2.1 bt316.2.2.2.2.2.1 t305 t306 t307 t308 t309 t310).bind fun t324 => (if t324 = true then (laws_FnExactReadFrame.j0 k l0 t313 (bt316.2.2.2.2.2.2 != t311)) else (laws_FnExactReadFrame.j0 k l0 t313 true))))) = some r := H
    have A6 := Aside0.mk A60
    clear A60
    replace H := Option.bind_eq_some_iff.mp H
    obtain ⟨t313, A70, H⟩ := H
    replace H : ((impl_ReadFrame.f k t313 a1 a2).bind fun bt316 => ((laws_eqEntry.f bt316.1 bt316.2.1 bt316.2.2.1 bt316.2.2.2.1 bt316.2.2.2.2.1 bt316.2.2.2.2.2.1 t305 t306 t307 t308 t309 t310).bind fun t324 => (if t324 = true then (laws_FnExactReadFrame.j0 k l0 t313 (bt316.2.2.2.2.2.2 != t311)) else (laws_FnExactReadFrame.j0 k l0 t313 true)))) = some r := H
    have A7 := Aside0.mk A70
    clear A70
    replace H := Option.bind_eq_some_iff.mp H
    obtain ⟨⟨t316, t317, t318, t319, t320, t321, t322⟩, A80, H⟩ := H
    replace H : ((laws_eqEntry.f t316 t317 t318 t319 t320 t321 t305 t306 t307 t308 t309 t310).bind fun t324 => (if t324 = true then (laws_FnExactReadFrame.j0 k l0 t313 (t322 != t311)) else (laws_FnExactReadFrame.j0 k l0 t313 true))) = some r := H
    have A8 := Aside0.mk A80
    clear A80
    have HC9 := Aside0.mk H
    clear H
    go_enter Try.func8, Try.ntmps8
    go_upto_region 6 with (first | ((with_reducible refine gate_callee (f := 19) rfl ?_); refine goesL_ (some 17) rfl rfl Try.func19 (by kernel_rfl) rfl #[.slice A0 l0.length c0] rfl (by (try simp only [List.map_toArray, List.map_cons, List.map_nil]); first | done | rfl | (simp only [List.length_drop, List.length_take]; rfl)) ?_; (with_reducible refine (laws_toIntS.calls k _ _ l0 t302 _ ?side1 ?side2 A5.out).mono ?_); (case side1 => repeat (first | exact HR0.out | (with_reducible refine Kd.C_alloc ?_ _) | (with_reducible refine Kd.C_drewN ?_ _) | (with_reducible refine Kd.C_drew ?_))); (case side2 => exact HC0.out); rintro e w10 ⟨v303, rfl, ho0, hb⟩; refine ⟨_, rfl, ?_⟩; have n0_ := Aside0.mk (Kd.R_lower ho0 (below_size (by repeat (first | (with_reducible first | exact HB.out | apply below_alloc | apply pw_below_drewN | apply below_drew1) | exact HB.out)))); have n1_ := Aside0.mk (below_step (by repeat (first | (with_reducible first | exact HB.out | apply below_alloc | apply pw_below_drewN | apply below_drew1) | exact HB.out)) hb); clear HB; have HO304 := n0_; have HB := n1_; clear n0_ n1_; (try clear hb); (try clear hb2); (try clear hk); (try clear hi); (try clear ho0); obtain ⟨Ao11, co11, eo11⟩ := Kd.R_slice HO304.out; subst eo11) | ((with_reducible refine gate_callee (f := 29) rfl ?_); refine goesL_ (some 20) rfl rfl Try.func29 (by kernel_rfl) rfl #[.slice Ao11 t302.length co11, .int .i64 a1, .int .i64 a2] rfl (by (try simp only [List.map_toArray, List.map_cons, List.map_nil]); first | done | rfl | (simp only [List.length_drop, List.length_take]; rfl)) ?_; (with_reducible refine (spec_ReadFrame.calls k _ _ t302 a1 a2 t305 t306 t307 t308 t309 t310 t311 _ ?side1 ?side2 A6.out).mono ?_); (case side1 => repeat (first | exact (Kd.R_reads' HO304.out).2.2 | (with_reducible refine Kd.C_alloc ?_ _) | (with_reducible refine Kd.C_drewN ?_ _) | (with_reducible refine Kd.C_drew ?_))); (case side2 => exact (Kd.R_reads' HO304.out).2.1); rintro e w12 ⟨rfl, hb⟩; refine ⟨_, rfl, ?_⟩; have n0_ := Aside0.mk (Kd.R_below (by (with_reducible repeat (first | apply Kd.R_alloc | apply Kd.R_drewN | apply Kd.R_drew)); exact HO304.out) hb); have n1_ := Aside0.mk (below_step (by repeat (first | (with_reducible first | exact HB.out | apply below_alloc | apply pw_below_drewN | apply below_drew1) | exact HB.out)) hb); clear HO304; clear HB; have HO304 := n0_; have HB := n1_; clear n0_ n1_; (try clear hb); (try clear hb2); (try clear hk); (try clear hi)) | ((with_reducible refine gate_dst (N := 7) rfl ?_); refine box_event ?hg (N := 7) ?hd (cs := #[.int .i64 0, .int .i64 0, .int .i64 0, .string (⟨#[]⟩ : ByteArray), .int .i64 0, .int .i64 0]) (t := 31) ?hr ?_; (case hd => rfl); (case hg => rfl); (case hr => first | (go_simp; done) | (go_simp; rfl)); intro gb312 hg w13 hbox hb; have n0_ := Aside0.mk (Kd.R_below (by (with_reducible repeat (first | apply Kd.R_alloc | apply Kd.R_drewN | apply Kd.R_drew)); exact HO304.out) hb); have n1_ := Aside0.mk (below_step (by repeat (first | (with_reducible first | exact HB.out | apply below_alloc | apply pw_below_drewN | apply below_drew1) | exact HB.out)) hb); have n2_ := Aside0.mk (hbox); have n3_ := Aside0.mk ((by rw [hg]; exact (below_size (by repeat (first | (with_reducible first | exact HB.out | apply below_alloc | apply pw_below_drewN | apply below_drew1) | exact HB.out))) : w.heap.size ≤ gb312)); have n4_ := Aside0.mk ((by rw [hg]; exact (below_size (by repeat (first | (with_reducible first | exact HB.out | apply below_alloc | apply pw_below_drewN | apply below_drew1) | exact HB.out))) : w.heap.size ≤ gb312)); clear HO304; clear HB; have HO304 := n0_; have HB := n1_; have BK312 := n2_; have GW312 := n3_; have GE312 := n4_; clear n0_ n1_ n2_ n3_ n4_; clear hb hbox hg; have hcz14_0 : w13.cell? ⟨gb312, 0, none⟩ = some (.int .i64 0) := (blk_cell BK312.out 0).trans rfl; have hcz14_1 : w13.cell? ⟨gb312, 1, none⟩ = some (.int .i64 0) := (blk_cell BK312.out 1).trans rfl; have hcz14_2 : w13.cell? ⟨gb312, 2, none⟩ = some (.int .i64 0) := (blk_cell BK312.out 2).trans rfl; have hcz14_3 : w13.cell? ⟨gb312, 3, none⟩ = some (.string (⟨#[]⟩ : ByteArray)) := (blk_cell BK312.out 3).trans rfl; have hcz14_4 : w13.cell? ⟨gb312, 4, none⟩ = some (.int .i64 0) := (blk_cell BK312.out 4).trans rfl; have hcz14_5 : w13.cell? ⟨gb312, 5, none⟩ = some (.int .i64 0) := (blk_cell BK312.out 5).trans rfl; have hfz14_0 := blk_frozen BK312.out 0; have hfz14_1 := blk_frozen BK312.out 1; have hfz14_2 := blk_frozen BK312.out 2; have hfz14_3 := blk_frozen BK312.out 3; have hfz14_4 := blk_frozen BK312.out 4; have hfz14_5 := blk_frozen BK312.out 5) | ((with_reducible refine gate_callee (f := 19) rfl ?_); refine goesL_ (some 24) rfl rfl Try.func19 (by kernel_rfl) rfl #[.slice A0 l0.length c0] rfl (by (try simp only [List.map_toArray, List.map_cons, List.map_nil]); first | done | rfl | (simp only [List.length_drop, List.length_take]; rfl)) ?_; (with_reducible refine (laws_toIntS.calls k _ _ l0 t313 _ ?side1 ?side2 A7.out).mono ?_); (case side1 => exact Kd.C_below HR0.out (by repeat (first | (with_reducible first | exact HB.out | apply below_alloc | apply pw_below_drewN | apply below_drew1 | refine below_set ?_ GE312.out) | exact HB.out))); (case side2 => exact HC0.out); rintro e w15 ⟨v314, rfl, ho0, hb⟩; refine ⟨_, rfl, ?_⟩; have n0_ := Aside0.mk (Kd.R_elder' (by (with_reducible repeat (first | apply Kd.R_alloc | apply Kd.R_drewN | apply Kd.R_drew)); exact (Kd.R_mono (Kd.R_far (p := ⟨gb312, 5, none⟩) (Kd.R_far (p := ⟨gb312, 4, none⟩) (Kd.R_far (p := ⟨gb312, 3, none⟩) (Kd.R_far (p := ⟨gb312, 2, none⟩) (Kd.R_far (p := ⟨gb312, 1, none⟩) (Kd.R_far (p := ⟨gb312, 0, none⟩) (Kd.R_types HO304.out BK312.out (by decide)) (fun _ hk => hk.2) (.int .i64 t305)) (fun _ hk => hk.2) (.int .i64 t306)) (fun _ hk => hk.2) (.int .i64 t307)) (fun _ hk => hk.2) (.string t308)) (fun _ hk => hk.2) (.int .i64 t309)) (fun _ hk => hk.2) (.int .i64 t310)) (fun _ h_ => h_.1))) (Kd.R_base ho0) hb); have n1_ := Aside0.mk (Kd.R_lower (Kd.R_new' ho0 (Kd.R_lt (by (with_reducible repeat (first | apply Kd.R_alloc | apply Kd.R_drewN | apply Kd.R_drew)); exact (Kd.R_mono (Kd.R_far (p := ⟨gb312, 5, none⟩) (Kd.R_far (p := ⟨gb312, 4, none⟩) (Kd.R_far (p := ⟨gb312, 3, none⟩) (Kd.R_far (p := ⟨gb312, 2, none⟩) (Kd.R_far (p := ⟨gb312, 1, none⟩) (Kd.R_far (p := ⟨gb312, 0, none⟩) (Kd.R_types HO304.out BK312.out (by decide)) (fun _ hk => hk.2) (.int .i64 t305)) (fun _ hk => hk.2) (.int .i64 t306)) (fun _ hk => hk.2) (.int .i64 t307)) (fun _ hk => hk.2) (.string t308)) (fun _ hk => hk.2) (.int .i64 t309)) (fun _ hk => hk.2) (.int .i64 t310)) (fun _ h_ => h_.1))))) (below_size (by repeat (first | (with_reducible first | exact HB.out | apply below_alloc | apply pw_below_drewN | apply below_drew1 | refine below_set ?_ GE312.out) | exact HB.out)))); have n2_ := Aside0.mk (blk_below (g := gb312) (o := .cells #[.int .i64 t305, .int .i64 t306, .int .i64 t307, .string t308, .int .i64 t309, .int .i64 t310] 31 (0, 0)) (by (with_reducible repeat (first | refine blk_drewN ?_ _ | refine blk_drew ?_ | refine blk_alloc ?_ _)); refine blk_put (cs := #[.int .i64 t305, .int .i64 t306, .int .i64 t307, .string t308, .int .i64 t309, .int .i64 0]) ?_ 5 _ rfl; (with_reducible repeat (first | refine blk_drewN ?_ _ | refine blk_drew ?_ | refine blk_alloc ?_ _)); refine blk_put (cs := #[.int .i64 t305, .int .i64 t306, .int .i64 t307, .string t308, .int .i64 0, .int .i64 0]) ?_ 4 _ rfl; (with_reducible repeat (first | refine blk_drewN ?_ _ | refine blk_drew ?_ | refine blk_alloc ?_ _)); refine blk_put (cs := #[.int .i64 t305, .int .i64 t306, .int .i64 t307, .string (⟨#[]⟩ : ByteArray), .int .i64 0, .int .i64 0]) ?_ 3 _ rfl; (with_reducible repeat (first | refine blk_drewN ?_ _ | refine blk_drew ?_ | refine blk_alloc ?_ _)); refine blk_put (cs := #[.int .i64 t305, .int .i64 t306, .int .i64 0, .string (⟨#[]⟩ : ByteArray), .int .i64 0, .int .i64 0]) ?_ 2 _ rfl; (with_reducible repeat (first | refine blk_drewN ?_ _ | refine blk_drew ?_ | refine blk_alloc ?_ _)); refine blk_put (cs := #[.int .i64 t305, .int .i64 0, .int .i64 0, .string (⟨#[]⟩ : ByteArray), .int .i64 0, .int .i64 0]) ?_ 1 _ rfl; (with_reducible repeat (first | refine blk_drewN ?_ _ | refine blk_drew ?_ | refine blk_alloc ?_ _)); refine blk_put (cs := #[.int .i64 0, .int .i64 0, .int .i64 0, .string (⟨#[]⟩ : ByteArray), .int .i64 0, .int .i64 0]) ?_ 0 _ rfl; (with_reducible repeat (first | refine blk_drewN ?_ _ | refine blk_drew ?_ | refine blk_alloc ?_ _)); exact BK312.out) hb); have n3_ := Aside0.mk (below_step (by repeat (first | (with_reducible first | exact HB.out | apply below_alloc | apply pw_below_drewN | apply below_drew1 | refine below_set ?_ GE312.out) | exact HB.out)) hb); clear HO304; clear BK312; clear HB; have HO304 := n0_; have HO315 := n1_; have BK312 := n2_; have HB := n3_; clear n0_ n1_ n2_ n3_; (try clear hb); (try clear hb2); (try clear hk); (try clear hi); (try clear ho0); obtain ⟨Ao16, co16, eo16⟩ := Kd.R_slice HO315.out; subst eo16) | ((with_reducible refine gate_callee (f := 30) rfl ?_); refine goesL_ (some 29) rfl rfl Try.func30 (by kernel_rfl) rfl #[.slice Ao16 t313.length co16, .int .i64 a1, .int .i64 a2] rfl (by (try simp only [List.map_toArray, List.map_cons, List.map_nil]); first | done | rfl | (simp only [List.length_drop, List.length_take]; rfl)) ?_; (with_reducible refine (impl_ReadFrame.calls k _ _ t313 a1 a2 t316 t317 t318 t319 t320 t321 t322 _ ?side1 ?side2 A8.out).mono ?_); (case side1 => repeat (first | exact (Kd.R_reads' HO315.out).2.2 | (with_reducible refine Kd.C_alloc ?_ _) | (with_reducible refine Kd.C_drewN ?_ _) | (with_reducible refine Kd.C_drew ?_))); (case side2 => exact (Kd.R_reads' HO315.out).2.1); rintro e w17 ⟨rfl, hb⟩; refine ⟨_, rfl, ?_⟩; have n0_ := Aside0.mk (Kd.R_below (by (with_reducible repeat (first | apply Kd.R_alloc | apply Kd.R_drewN | apply Kd.R_drew)); exact HO304.out) hb); have n1_ := Aside0.mk (Kd.R_below (by (with_reducible repeat (first | apply Kd.R_alloc | apply Kd.R_drewN | apply Kd.R_drew)); exact HO315.out) hb); have n2_ := Aside0.mk (blk_below (g := gb312) (o := .cells #[.int .i64 t305, .int .i64 t306, .int .i64 t307, .string t308, .int .i64 t309, .int .i64 t310] 31 (0, 0)) (by (with_reducible repeat (first | refine blk_drewN ?_ _ | refine blk_drew ?_ | refine blk_alloc ?_ _)); exact BK312.out) hb); have n3_ := Aside0.mk (below_step (by repeat (first | (with_reducible first | exact HB.out | apply below_alloc | apply pw_below_drewN | apply below_drew1 | refine below_set ?_ GE312.out) | exact HB.out)) hb); clear HO304; clear HO315; clear BK312; clear HB; have HO304 := n0_; have HO315 := n1_; have BK312 := n2_; have HB := n3_; clear n0_ n1_ n2_ n3_; (try clear hb); (try clear hb2); (try clear hk); (try clear hi)) | ((with_reducible refine gate_dst (N := 10) rfl ?_); refine box_event ?hg (N := 10) ?hd (cs := #[.int .i64 0, .int .i64 0, .int .i64 0, .string (⟨#[]⟩ : ByteArray), .int .i64 0, .int .i64 0]) (t := 31) ?hr ?_; (case hd => rfl); (case hg => rfl); (case hr => first | (go_simp; done) | (go_simp; rfl)); intro gb323 hg w18 hbox hb; have n0_ := Aside0.mk (Kd.R_below (by (with_reducible repeat (first | apply Kd.R_alloc | apply Kd.R_drewN | apply Kd.R_drew)); exact HO304.out) hb); have n1_ := Aside0.mk (Kd.R_below (by (with_reducible repeat (first | apply Kd.R_alloc | apply Kd.R_drewN | apply Kd.R_drew)); exact HO315.out) hb); have n2_ := Aside0.mk (blk_below (g := gb312) (o := .cells #[.int .i64 t305, .int .i64 t306, .int .i64 t307, .string t308, .int .i64 t309, .int .i64 t310] 31 (0, 0)) (by (with_reducible repeat (first | refine blk_drewN ?_ _ | refine blk_drew ?_ | refine blk_alloc ?_ _)); exact BK312.out) hb); have n3_ := Aside0.mk (below_step (by repeat (first | (with_reducible first | exact HB.out | apply below_alloc | apply pw_below_drewN | apply below_drew1 | refine below_set ?_ GE312.out) | exact HB.out)) hb); have n4_ := Aside0.mk (hbox); have n5_ := Aside0.mk ((by rw [hg]; exact (below_size (by repeat (first | (with_reducible first | exact HB.out | apply below_alloc | apply pw_below_drewN | apply below_drew1 | refine below_set ?_ GE312.out) | exact HB.out))) : w.heap.size ≤ gb323)); have n6_ := Aside0.mk ((by rw [hg]; exact (below_size (by repeat (first | (with_reducible first | exact HB.out | apply below_alloc | apply pw_below_drewN | apply below_drew1 | refine below_set ?_ GE312.out) | exact HB.out))) : w.heap.size ≤ gb323)); have n7_ := Aside0.mk ((by rw [hg]; exact Nat.ne_of_lt (blk_lt (g := gb312) (o := .cells #[.int .i64 t305, .int .i64 t306, .int .i64 t307, .string t308, .int .i64 t309, .int .i64 t310] 31 (0, 0)) (by (with_reducible repeat (first | refine blk_drewN ?_ _ | refine blk_drew ?_ | refine blk_alloc ?_ _)); exact BK312.out)) : gb312 ≠ gb323)); have n8_ := Aside0.mk ((by rw [hg]; exact Nat.ne_of_gt (blk_lt (g := gb312) (o := .cells #[.int .i64 t305, .int .i64 t306, .int .i64 t307, .string t308, .int .i64 t309, .int .i64 t310] 31 (0, 0)) (by (with_reducible repeat (first | refine blk_drewN ?_ _ | refine blk_drew ?_ | refine blk_alloc ?_ _)); exact BK312.out)) : gb323 ≠ gb312)); clear HO304; clear HO315; clear BK312; clear HB; have HO304 := n0_; have HO315 := n1_; have BK312 := n2_; have HB := n3_; have BK323 := n4_; have GW323 := n5_; have GE323 := n6_; have NB312_323 := n7_; have NB323_312 := n8_; clear n0_ n1_ n2_ n3_ n4_ n5_ n6_ n7_ n8_; clear hb hbox hg; have hnb19 := NB323_312.out; have hnc19 := NB312_323.out; have hcz20_0 : w18.cell? ⟨gb323, 0, none⟩ = some (.int .i64 0) := (blk_cell BK323.out 0).trans rfl; have hcz20_1 : w18.cell? ⟨gb323, 1, none⟩ = some (.int .i64 0) := (blk_cell BK323.out 1).trans rfl; have hcz20_2 : w18.cell? ⟨gb323, 2, none⟩ = some (.int .i64 0) := (blk_cell BK323.out 2).trans rfl; have hcz20_3 : w18.cell? ⟨gb323, 3, none⟩ = some (.string (⟨#[]⟩ : ByteArray)) := (blk_cell BK323.out 3).trans rfl; have hcz20_4 : w18.cell? ⟨gb323, 4, none⟩ = some (.int .i64 0) := (blk_cell BK323.out 4).trans rfl; have hcz20_5 : w18.cell? ⟨gb323, 5, none⟩ = some (.int .i64 0) := (blk_cell BK323.out 5).trans rfl; have hfz20_0 := blk_frozen BK323.out 0; have hfz20_1 := blk_frozen BK323.out 1; have hfz20_2 := blk_frozen BK323.out 2; have hfz20_3 := blk_frozen BK323.out 3; have hfz20_4 := blk_frozen BK323.out 4; have hfz20_5 := blk_frozen BK323.out 5))
    (try simp only [Act.put, List.setIfInBounds_toArray, List.set_cons_zero, List.set_cons_succ])
    go_cut [40] (fun v40 wc => ∃ (kq : Nat) (x40_8 : Bool), v40 = .bool x40_8 ∧ Aside0 (laws_FnExactReadFrame.j0 kq l0 t313 x40_8 = some r) ∧ Aside0 (kq ≤ k) ∧ Aside0 (Kd.R (Kd.int .i64) 3 wc w.heap.size (fun _ => True) (.slice Ao16 t313.length co16) t313) ∧ Aside0 (wc.heap[gb312]? = some (.cells #[.int .i64 t305, .int .i64 t306, .int .i64 t307, .string t308, .int .i64 t309, .int .i64 t310] 31 (0, 0))) ∧ Aside0 (wc.heap[gb323]? = some (.cells #[.int .i64 t316, .int .i64 t317, .int .i64 t318, .string t319, .int .i64 t320, .int .i64 t321] 31 (0, 0))) ∧ Aside0 (Below w.heap.size w wc))
    case first =>
      have H := HC9.out
      clear HC9
      replace H := Option.bind_eq_some_iff.mp H
      obtain ⟨t324, A210, H⟩ := H
      replace H : (if t324 = true then (laws_FnExactReadFrame.j0 k l0 t313 (t322 != t311)) else (laws_FnExactReadFrame.j0 k l0 t313 true)) = some r := H
      have A21 := Aside0.mk A210
      clear A210
      by_cases c22 : t324 = true
      · subst c22
        have H1 : (laws_FnExactReadFrame.j0 k l0 t313 (t322 != t311)) = some r := by rw [if_pos rfl] at H; exact H
        clear H
        have H := H1
        clear H1
        have H' := Aside0.mk H
        clear H
        have hnb23 := NB323_312.out
        have hnc23 := NB312_323.out
        have hcz24_0 : w18.cell? ⟨gb323, 0, none⟩ = some (.int .i64 0) := (blk_cell BK323.out 0).trans rfl
        have hcz24_1 : w18.cell? ⟨gb323, 1, none⟩ = some (.int .i64 0) := (blk_cell BK323.out 1).trans rfl
        have hcz24_2 : w18.cell? ⟨gb323, 2, none⟩ = some (.int .i64 0) := (blk_cell BK323.out 2).trans rfl
        have hcz24_3 : w18.cell? ⟨gb323, 3, none⟩ = some (.string (⟨#[]⟩ : ByteArray)) := (blk_cell BK323.out 3).trans rfl
        have hcz24_4 : w18.cell? ⟨gb323, 4, none⟩ = some (.int .i64 0) := (blk_cell BK323.out 4).trans rfl
        have hcz24_5 : w18.cell? ⟨gb323, 5, none⟩ = some (.int .i64 0) := (blk_cell BK323.out 5).trans rfl
        have hfz24_0 := blk_frozen BK323.out 0
        have hfz24_1 := blk_frozen BK323.out 1
        have hfz24_2 := blk_frozen BK323.out 2
        have hfz24_3 := blk_frozen BK323.out 3
        have hfz24_4 := blk_frozen BK323.out 4
        have hfz24_5 := blk_frozen BK323.out 5
        have hcz25_0 : w18.cell? ⟨gb312, 0, none⟩ = some (.int .i64 t305) := (blk_cell BK312.out 0).trans rfl
        have hcz25_1 : w18.cell? ⟨gb312, 1, none⟩ = some (.int .i64 t306) := (blk_cell BK312.out 1).trans rfl
        have hcz25_2 : w18.cell? ⟨gb312, 2, none⟩ = some (.int .i64 t307) := (blk_cell BK312.out 2).trans rfl
        have hcz25_3 : w18.cell? ⟨gb312, 3, none⟩ = some (.string t308) := (blk_cell BK312.out 3).trans rfl
        have hcz25_4 : w18.cell? ⟨gb312, 4, none⟩ = some (.int .i64 t309) := (blk_cell BK312.out 4).trans rfl
        have hcz25_5 : w18.cell? ⟨gb312, 5, none⟩ = some (.int .i64 t310) := (blk_cell BK312.out 5).trans rfl
        have hfz25_0 := blk_frozen BK312.out 0
        have hfz25_1 := blk_frozen BK312.out 1
        have hfz25_2 := blk_frozen BK312.out 2
        have hfz25_3 := blk_frozen BK312.out 3
        have hfz25_4 := blk_frozen BK312.out 4
        have hfz25_5 := blk_frozen BK312.out 5
        go_wp2_with (first | ((with_reducible refine gate_callee (f := 21) rfl ?_); refine goesL_ (some 34) rfl rfl Try.func21 (by kernel_rfl) rfl #[.agg #[.int .i64 t316, .int .i64 t317, .int .i64 t318, .string t319, .int .i64 t320, .int .i64 t321], .agg #[.int .i64 t305, .int .i64 t306, .int .i64 t307, .string t308, .int .i64 t309, .int .i64 t310]] rfl (by (try simp only [List.map_toArray, List.map_cons, List.map_nil]); first | done | rfl | (simp only [List.length_drop, List.length_take]; rfl)) ?_; (with_reducible refine (laws_eqEntry.calls t316 t317 t318 t319 t320 t321 t305 t306 t307 t308 t309 t310 true _ A21.out).mono ?_); rintro e w26 ⟨rfl, hb⟩; refine ⟨_, rfl, ?_⟩; have n0_ := Aside0.mk (Kd.R_below (by (with_reducible repeat (first | apply Kd.R_alloc | apply Kd.R_drewN | apply Kd.R_drew)); exact (Kd.R_mono (Kd.R_far (p := ⟨gb323, 5, none⟩) (Kd.R_far (p := ⟨gb323, 4, none⟩) (Kd.R_far (p := ⟨gb323, 3, none⟩) (Kd.R_far (p := ⟨gb323, 2, none⟩) (Kd.R_far (p := ⟨gb323, 1, none⟩) (Kd.R_far (p := ⟨gb323, 0, none⟩) (Kd.R_types HO304.out BK323.out (by decide)) (fun _ hk => hk.2) (.int .i64 t316)) (fun _ hk => hk.2) (.int .i64 t317)) (fun _ hk => hk.2) (.int .i64 t318)) (fun _ hk => hk.2) (.string t319)) (fun _ hk => hk.2) (.int .i64 t320)) (fun _ hk => hk.2) (.int .i64 t321)) (fun _ h_ => h_.1))) hb); have n1_ := Aside0.mk (Kd.R_below (by (with_reducible repeat (first | apply Kd.R_alloc | apply Kd.R_drewN | apply Kd.R_drew)); exact (Kd.R_mono (Kd.R_far (p := ⟨gb323, 5, none⟩) (Kd.R_far (p := ⟨gb323, 4, none⟩) (Kd.R_far (p := ⟨gb323, 3, none⟩) (Kd.R_far (p := ⟨gb323, 2, none⟩) (Kd.R_far (p := ⟨gb323, 1, none⟩) (Kd.R_far (p := ⟨gb323, 0, none⟩) (Kd.R_types HO315.out BK323.out (by decide)) (fun _ hk => hk.2) (.int .i64 t316)) (fun _ hk => hk.2) (.int .i64 t317)) (fun _ hk => hk.2) (.int .i64 t318)) (fun _ hk => hk.2) (.string t319)) (fun _ hk => hk.2) (.int .i64 t320)) (fun _ hk => hk.2) (.int .i64 t321)) (fun _ h_ => h_.1))) hb); have n2_ := Aside0.mk (blk_below (g := gb312) (o := .cells #[.int .i64 t305, .int .i64 t306, .int .i64 t307, .string t308, .int .i64 t309, .int .i64 t310] 31 (0, 0)) (by (with_reducible repeat (first | refine blk_drewN ?_ _ | refine blk_drew ?_ | refine blk_alloc ?_ _)); refine blk_far ?_ NB312_323.out _; (with_reducible repeat (first | refine blk_drewN ?_ _ | refine blk_drew ?_ | refine blk_alloc ?_ _)); refine blk_far ?_ NB312_323.out _; (with_reducible repeat (first | refine blk_drewN ?_ _ | refine blk_drew ?_ | refine blk_alloc ?_ _)); refine blk_far ?_ NB312_323.out _; (with_reducible repeat (first | refine blk_drewN ?_ _ | refine blk_drew ?_ | refine blk_alloc ?_ _)); refine blk_far ?_ NB312_323.out _; (with_reducible repeat (first | refine blk_drewN ?_ _ | refine blk_drew ?_ | refine blk_alloc ?_ _)); refine blk_far ?_ NB312_323.out _; (with_reducible repeat (first | refine blk_drewN ?_ _ | refine blk_drew ?_ | refine blk_alloc ?_ _)); refine blk_far ?_ NB312_323.out _; (with_reducible repeat (first | refine blk_drewN ?_ _ | refine blk_drew ?_ | refine blk_alloc ?_ _)); exact BK312.out) hb); have n3_ := Aside0.mk (blk_below (g := gb323) (o := .cells #[.int .i64 t316, .int .i64 t317, .int .i64 t318, .string t319, .int .i64 t320, .int .i64 t321] 31 (0, 0)) (by (with_reducible repeat (first | refine blk_drewN ?_ _ | refine blk_drew ?_ | refine blk_alloc ?_ _)); refine blk_put (cs := #[.int .i64 t316, .int .i64 t317, .int .i64 t318, .string t319, .int .i64 t320, .int .i64 0]) ?_ 5 _ rfl; (with_reducible repeat (first | refine blk_drewN ?_ _ | refine blk_drew ?_ | refine blk_alloc ?_ _)); refine blk_put (cs := #[.int .i64 t316, .int .i64 t317, .int .i64 t318, .string t319, .int .i64 0, .int .i64 0]) ?_ 4 _ rfl; (with_reducible repeat (first | refine blk_drewN ?_ _ | refine blk_drew ?_ | refine blk_alloc ?_ _)); refine blk_put (cs := #[.int .i64 t316, .int .i64 t317, .int .i64 t318, .string (⟨#[]⟩ : ByteArray), .int .i64 0, .int .i64 0]) ?_ 3 _ rfl; (with_reducible repeat (first | refine blk_drewN ?_ _ | refine blk_drew ?_ | refine blk_alloc ?_ _)); refine blk_put (cs := #[.int .i64 t316, .int .i64 t317, .int .i64 0, .string (⟨#[]⟩ : ByteArray), .int .i64 0, .int .i64 0]) ?_ 2 _ rfl; (with_reducible repeat (first | refine blk_drewN ?_ _ | refine blk_drew ?_ | refine blk_alloc ?_ _)); refine blk_put (cs := #[.int .i64 t316, .int .i64 0, .int .i64 0, .string (⟨#[]⟩ : ByteArray), .int .i64 0, .int .i64 0]) ?_ 1 _ rfl; (with_reducible repeat (first | refine blk_drewN ?_ _ | refine blk_drew ?_ | refine blk_alloc ?_ _)); refine blk_put (cs := #[.int .i64 0, .int .i64 0, .int .i64 0, .string (⟨#[]⟩ : ByteArray), .int .i64 0, .int .i64 0]) ?_ 0 _ rfl; (with_reducible repeat (first | refine blk_drewN ?_ _ | refine blk_drew ?_ | refine blk_alloc ?_ _)); exact BK323.out) hb); have n4_ := Aside0.mk (below_step (by repeat (first | (with_reducible first | exact HB.out | apply below_alloc | apply pw_below_drewN | apply below_drew1 | refine below_set ?_ GE312.out | refine below_set ?_ GE323.out) | exact HB.out)) hb); clear HO304; clear HO315; clear BK312; clear BK323; clear HB; have HO304 := n0_; have HO315 := n1_; have BK312 := n2_; have BK323 := n3_; have HB := n4_; clear n0_ n1_ n2_ n3_ n4_; (try clear hb); (try clear hb2); (try clear hk); (try clear hi)))
        go_meet
        case rel => exact ⟨_, ((t322 != t311)), (by first | rfl | (simp; done) | (simp [*]; done)), H', ⟨by first | omega | exact Nat.le_refl _⟩, ⟨by (with_reducible repeat (first | apply Kd.R_alloc | apply Kd.R_drewN | apply Kd.R_drew)); exact Kd.R_mono HO315.out (fun _ hk => trivial)⟩, ⟨by (with_reducible repeat (first | refine blk_drewN ?_ _ | refine blk_drew ?_ | refine blk_alloc ?_ _)); exact BK312.out⟩, ⟨by (with_reducible repeat (first | refine blk_drewN ?_ _ | refine blk_drew ?_ | refine blk_alloc ?_ _)); exact BK323.out⟩, ⟨by repeat (first | (with_reducible first | exact HB.out | apply below_alloc | apply pw_below_drewN | apply below_drew1 | refine below_set ?_ GE312.out | refine below_set ?_ GE323.out) | exact HB.out)⟩⟩
      · replace c22 := Bool.eq_false_iff.mpr c22
        subst c22
        have H1 : (laws_FnExactReadFrame.j0 k l0 t313 true) = some r := by rw [if_neg (show ¬ (false = true) by decide)] at H; exact H
        clear H
        have H := H1
        clear H1
        have H' := Aside0.mk H
        clear H
        have hnb27 := NB323_312.out
        have hnc27 := NB312_323.out
        have hcz28_0 : w18.cell? ⟨gb323, 0, none⟩ = some (.int .i64 0) := (blk_cell BK323.out 0).trans rfl
        have hcz28_1 : w18.cell? ⟨gb323, 1, none⟩ = some (.int .i64 0) := (blk_cell BK323.out 1).trans rfl
        have hcz28_2 : w18.cell? ⟨gb323, 2, none⟩ = some (.int .i64 0) := (blk_cell BK323.out 2).trans rfl
        have hcz28_3 : w18.cell? ⟨gb323, 3, none⟩ = some (.string (⟨#[]⟩ : ByteArray)) := (blk_cell BK323.out 3).trans rfl
        have hcz28_4 : w18.cell? ⟨gb323, 4, none⟩ = some (.int .i64 0) := (blk_cell BK323.out 4).trans rfl
        have hcz28_5 : w18.cell? ⟨gb323, 5, none⟩ = some (.int .i64 0) := (blk_cell BK323.out 5).trans rfl
        have hfz28_0 := blk_frozen BK323.out 0
        have hfz28_1 := blk_frozen BK323.out 1
        have hfz28_2 := blk_frozen BK323.out 2
        have hfz28_3 := blk_frozen BK323.out 3
        have hfz28_4 := blk_frozen BK323.out 4
        have hfz28_5 := blk_frozen BK323.out 5
        have hcz29_0 : w18.cell? ⟨gb312, 0, none⟩ = some (.int .i64 t305) := (blk_cell BK312.out 0).trans rfl
        have hcz29_1 : w18.cell? ⟨gb312, 1, none⟩ = some (.int .i64 t306) := (blk_cell BK312.out 1).trans rfl
        have hcz29_2 : w18.cell? ⟨gb312, 2, none⟩ = some (.int .i64 t307) := (blk_cell BK312.out 2).trans rfl
        have hcz29_3 : w18.cell? ⟨gb312, 3, none⟩ = some (.string t308) := (blk_cell BK312.out 3).trans rfl
        have hcz29_4 : w18.cell? ⟨gb312, 4, none⟩ = some (.int .i64 t309) := (blk_cell BK312.out 4).trans rfl
        have hcz29_5 : w18.cell? ⟨gb312, 5, none⟩ = some (.int .i64 t310) := (blk_cell BK312.out 5).trans rfl
        have hfz29_0 := blk_frozen BK312.out 0
        have hfz29_1 := blk_frozen BK312.out 1
        have hfz29_2 := blk_frozen BK312.out 2
        have hfz29_3 := blk_frozen BK312.out 3
        have hfz29_4 := blk_frozen BK312.out 4
        have hfz29_5 := blk_frozen BK312.out 5
        go_wp2_with (first | ((with_reducible refine gate_callee (f := 21) rfl ?_); refine goesL_ (some 34) rfl rfl Try.func21 (by kernel_rfl) rfl #[.agg #[.int .i64 t316, .int .i64 t317, .int .i64 t318, .string t319, .int .i64 t320, .int .i64 t321], .agg #[.int .i64 t305, .int .i64 t306, .int .i64 t307, .string t308, .int .i64 t309, .int .i64 t310]] rfl (by (try simp only [List.map_toArray, List.map_cons, List.map_nil]); first | done | rfl | (simp only [List.length_drop, List.length_take]; rfl)) ?_; (with_reducible refine (laws_eqEntry.calls t316 t317 t318 t319 t320 t321 t305 t306 t307 t308 t309 t310 false _ A21.out).mono ?_); rintro e w30 ⟨rfl, hb⟩; refine ⟨_, rfl, ?_⟩; have n0_ := Aside0.mk (Kd.R_below (by (with_reducible repeat (first | apply Kd.R_alloc | apply Kd.R_drewN | apply Kd.R_drew)); exact (Kd.R_mono (Kd.R_far (p := ⟨gb323, 5, none⟩) (Kd.R_far (p := ⟨gb323, 4, none⟩) (Kd.R_far (p := ⟨gb323, 3, none⟩) (Kd.R_far (p := ⟨gb323, 2, none⟩) (Kd.R_far (p := ⟨gb323, 1, none⟩) (Kd.R_far (p := ⟨gb323, 0, none⟩) (Kd.R_types HO304.out BK323.out (by decide)) (fun _ hk => hk.2) (.int .i64 t316)) (fun _ hk => hk.2) (.int .i64 t317)) (fun _ hk => hk.2) (.int .i64 t318)) (fun _ hk => hk.2) (.string t319)) (fun _ hk => hk.2) (.int .i64 t320)) (fun _ hk => hk.2) (.int .i64 t321)) (fun _ h_ => h_.1))) hb); have n1_ := Aside0.mk (Kd.R_below (by (with_reducible repeat (first | apply Kd.R_alloc | apply Kd.R_drewN | apply Kd.R_drew)); exact (Kd.R_mono (Kd.R_far (p := ⟨gb323, 5, none⟩) (Kd.R_far (p := ⟨gb323, 4, none⟩) (Kd.R_far (p := ⟨gb323, 3, none⟩) (Kd.R_far (p := ⟨gb323, 2, none⟩) (Kd.R_far (p := ⟨gb323, 1, none⟩) (Kd.R_far (p := ⟨gb323, 0, none⟩) (Kd.R_types HO315.out BK323.out (by decide)) (fun _ hk => hk.2) (.int .i64 t316)) (fun _ hk => hk.2) (.int .i64 t317)) (fun _ hk => hk.2) (.int .i64 t318)) (fun _ hk => hk.2) (.string t319)) (fun _ hk => hk.2) (.int .i64 t320)) (fun _ hk => hk.2) (.int .i64 t321)) (fun _ h_ => h_.1))) hb); have n2_ := Aside0.mk (blk_below (g := gb312) (o := .cells #[.int .i64 t305, .int .i64 t306, .int .i64 t307, .string t308, .int .i64 t309, .int .i64 t310] 31 (0, 0)) (by (with_reducible repeat (first | refine blk_drewN ?_ _ | refine blk_drew ?_ | refine blk_alloc ?_ _)); refine blk_far ?_ NB312_323.out _; (with_reducible repeat (first | refine blk_drewN ?_ _ | refine blk_drew ?_ | refine blk_alloc ?_ _)); refine blk_far ?_ NB312_323.out _; (with_reducible repeat (first | refine blk_drewN ?_ _ | refine blk_drew ?_ | refine blk_alloc ?_ _)); refine blk_far ?_ NB312_323.out _; (with_reducible repeat (first | refine blk_drewN ?_ _ | refine blk_drew ?_ | refine blk_alloc ?_ _)); refine blk_far ?_ NB312_323.out _; (with_reducible repeat (first | refine blk_drewN ?_ _ | refine blk_drew ?_ | refine blk_alloc ?_ _)); refine blk_far ?_ NB312_323.out _; (with_reducible repeat (first | refine blk_drewN ?_ _ | refine blk_drew ?_ | refine blk_alloc ?_ _)); refine blk_far ?_ NB312_323.out _; (with_reducible repeat (first | refine blk_drewN ?_ _ | refine blk_drew ?_ | refine blk_alloc ?_ _)); exact BK312.out) hb); have n3_ := Aside0.mk (blk_below (g := gb323) (o := .cells #[.int .i64 t316, .int .i64 t317, .int .i64 t318, .string t319, .int .i64 t320, .int .i64 t321] 31 (0, 0)) (by (with_reducible repeat (first | refine blk_drewN ?_ _ | refine blk_drew ?_ | refine blk_alloc ?_ _)); refine blk_put (cs := #[.int .i64 t316, .int .i64 t317, .int .i64 t318, .string t319, .int .i64 t320, .int .i64 0]) ?_ 5 _ rfl; (with_reducible repeat (first | refine blk_drewN ?_ _ | refine blk_drew ?_ | refine blk_alloc ?_ _)); refine blk_put (cs := #[.int .i64 t316, .int .i64 t317, .int .i64 t318, .string t319, .int .i64 0, .int .i64 0]) ?_ 4 _ rfl; (with_reducible repeat (first | refine blk_drewN ?_ _ | refine blk_drew ?_ | refine blk_alloc ?_ _)); refine blk_put (cs := #[.int .i64 t316, .int .i64 t317, .int .i64 t318, .string (⟨#[]⟩ : ByteArray), .int .i64 0, .int .i64 0]) ?_ 3 _ rfl; (with_reducible repeat (first | refine blk_drewN ?_ _ | refine blk_drew ?_ | refine blk_alloc ?_ _)); refine blk_put (cs := #[.int .i64 t316, .int .i64 t317, .int .i64 0, .string (⟨#[]⟩ : ByteArray), .int .i64 0, .int .i64 0]) ?_ 2 _ rfl; (with_reducible repeat (first | refine blk_drewN ?_ _ | refine blk_drew ?_ | refine blk_alloc ?_ _)); refine blk_put (cs := #[.int .i64 t316, .int .i64 0, .int .i64 0, .string (⟨#[]⟩ : ByteArray), .int .i64 0, .int .i64 0]) ?_ 1 _ rfl; (with_reducible repeat (first | refine blk_drewN ?_ _ | refine blk_drew ?_ | refine blk_alloc ?_ _)); refine blk_put (cs := #[.int .i64 0, .int .i64 0, .int .i64 0, .string (⟨#[]⟩ : ByteArray), .int .i64 0, .int .i64 0]) ?_ 0 _ rfl; (with_reducible repeat (first | refine blk_drewN ?_ _ | refine blk_drew ?_ | refine blk_alloc ?_ _)); exact BK323.out) hb); have n4_ := Aside0.mk (below_step (by repeat (first | (with_reducible first | exact HB.out | apply below_alloc | apply pw_below_drewN | apply below_drew1 | refine below_set ?_ GE312.out | refine below_set ?_ GE323.out) | exact HB.out)) hb); clear HO304; clear HO315; clear BK312; clear BK323; clear HB; have HO304 := n0_; have HO315 := n1_; have BK312 := n2_; have BK323 := n3_; have HB := n4_; clear n0_ n1_ n2_ n3_ n4_; (try clear hb); (try clear hb2); (try clear hk); (try clear hi)))
        go_meet
        case rel => exact ⟨_, (true), (by first | rfl | (simp; done) | (simp [*]; done)), H', ⟨by first | omega | exact Nat.le_refl _⟩, ⟨by (with_reducible repeat (first | apply Kd.R_alloc | apply Kd.R_drewN | apply Kd.R_drew)); exact Kd.R_mono HO315.out (fun _ hk => trivial)⟩, ⟨by (with_reducible repeat (first | refine blk_drewN ?_ _ | refine blk_drew ?_ | refine blk_alloc ?_ _)); exact BK312.out⟩, ⟨by (with_reducible repeat (first | refine blk_drewN ?_ _ | refine blk_drew ?_ | refine blk_alloc ?_ _)); exact BK323.out⟩, ⟨by repeat (first | (with_reducible first | exact HB.out | apply below_alloc | apply pw_below_drewN | apply below_drew1 | refine below_set ?_ GE312.out | refine below_set ?_ GE323.out) | exact HB.out)⟩⟩
    case rest =>
      clear HC9
      try clear c1
      try clear c2
      try clear p2
      try clear c3
      try clear c4
      try clear c4b0
      try clear c4b1
      try clear c8
      try clear c19
      try clear c21
      try clear c22
      try clear c23
      try clear c27
      try clear c29
      try clear c30
      try clear hcz14_0
      try clear hcz14_1
      try clear hcz14_2
      try clear hcz14_3
      try clear hcz14_4
      try clear hcz14_5
      try clear hcz20_0
      try clear hcz20_1
      try clear hcz20_2
      try clear hcz20_3
      try clear hcz20_4
      try clear hcz20_5
      try clear hcz24_0
      try clear hcz24_1
      try clear hcz24_2
      try clear hcz24_3
      try clear hcz24_4
      try clear hcz24_5
      try clear hcz25_0
      try clear hcz25_1
      try clear hcz25_2
      try clear hcz25_3
      try clear hcz25_4
      try clear hcz25_5
      try clear hcz28_0
      try clear hcz28_1
      try clear hcz28_2
      try clear hcz28_3
      try clear hcz28_4
      try clear hcz28_5
      try clear hcz29_0
      try clear hcz29_1
      try clear hcz29_2
      try clear hcz29_3
      try clear hcz29_4
      try clear hcz29_5
      try clear hfz14_0
      try clear hfz14_1
      try clear hfz14_2
      try clear hfz14_3
      try clear hfz14_4
      try clear hfz14_5
      try clear hfz20_0
      try clear hfz20_1
      try clear hfz20_2
      try clear hfz20_3
      try clear hfz20_4
      try clear hfz20_5
      try clear hfz24_0
      try clear hfz24_1
      try clear hfz24_2
      try clear hfz24_3
      try clear hfz24_4
      try clear hfz24_5
      try clear hfz25_0
      try clear hfz25_1
      try clear hfz25_2
      try clear hfz25_3
      try clear hfz25_4
      try clear hfz25_5
      try clear hfz28_0
      try clear hfz28_1
      try clear hfz28_2
      try clear hfz28_3
      try clear hfz28_4
      try clear hfz28_5
      try clear hfz29_0
      try clear hfz29_1
      try clear hfz29_2
      try clear hfz29_3
      try clear hfz29_4
      try clear hfz29_5
      obtain ⟨kq, x40_8, rfl, HA, HJ8, HO_9, BK312, BK323, HB⟩ := hcut
      cases kq with
      | zero => exact absurd HA.out (by simp [laws_FnExactReadFrame.j0])
      | succ kj8 =>
        have H := HA.out
        clear HA
        simp only [laws_FnExactReadFrame.j0] at H
        by_cases c31 : x40_8 = true
        · subst c31
          have H1 : (some false) = some r := by rw [if_pos rfl] at H; exact H
          clear H
          have H := H1
          clear H1
          obtain rfl := Option.some.inj H
          go_wp2
          go_ret
          exact ⟨by first | rfl | (simp [errW_none, errW_some] <;> rfl) | (simp [*, errW_none, errW_some] <;> rfl), by repeat (first | (with_reducible first | exact HB.out | apply below_alloc | apply pw_below_drewN | apply below_drew1 | refine below_set ?_ GE312.out | refine below_set ?_ GE323.out) | exact HB.out)⟩
        · replace c31 := Bool.eq_false_iff.mpr c31
          subst c31
          have H1 : ((laws_toIntS.f kj8 l0).bind fun t325 => ((laws_eqIntS.f kj8 t313 t325).bind fun t328 => (if t328 = true then (some true) else (some false)))) = some r := by rw [if_neg (show ¬ (false = true) by decide)] at H; exact H
          clear H
          have H := H1
          clear H1
          replace H := Option.bind_eq_some_iff.mp H
          obtain ⟨t325, A320, H⟩ := H
          replace H : ((laws_eqIntS.f kj8 t313 t325).bind fun t328 => (if t328 = true then (some true) else (some false))) = some r := H
          have A32 := Aside0.mk A320
          clear A320
          replace H := Option.bind_eq_some_iff.mp H
          obtain ⟨t328, A330, H⟩ := H
          replace H : (if t328 = true then (some true) else (some false)) = some r := H
          have A33 := Aside0.mk A330
          clear A330
          by_cases c34 : t328 = true
          · subst c34
            have H1 : (some true) = some r := by rw [if_pos rfl] at H; exact H
            clear H
            have H := H1
            clear H1
            obtain rfl := Option.some.inj H
            go_wp2_with (first | ((with_reducible refine gate_callee (f := 19) rfl ?_); refine goesL_ (some 43) rfl rfl Try.func19 (by kernel_rfl) rfl #[.slice A0 l0.length c0] rfl (by (try simp only [List.map_toArray, List.map_cons, List.map_nil]); first | done | rfl | (simp only [List.length_drop, List.length_take]; rfl)) ?_; (with_reducible refine (laws_toIntS.calls kj8 _ _ l0 t325 _ ?side1 ?side2 A32.out).mono ?_); (case side1 => repeat (first | exact (Kd.C_below HR0.out HB.out) | (with_reducible refine Kd.C_alloc ?_ _) | (with_reducible refine Kd.C_drewN ?_ _) | (with_reducible refine Kd.C_drew ?_))); (case side2 => exact HC0.out); rintro e w35 ⟨v326, rfl, ho0, hb⟩; refine ⟨_, rfl, ?_⟩; have n0_ := Aside0.mk (Kd.R_elder' (by (with_reducible repeat (first | apply Kd.R_alloc | apply Kd.R_drewN | apply Kd.R_drew)); exact HO_9.out) (Kd.R_base ho0) hb); have n1_ := Aside0.mk (Kd.R_lower (Kd.R_new' ho0 (Kd.R_lt (by (with_reducible repeat (first | apply Kd.R_alloc | apply Kd.R_drewN | apply Kd.R_drew)); exact HO_9.out))) (below_size (by repeat (first | (with_reducible first | exact HB.out | apply below_alloc | apply pw_below_drewN | apply below_drew1 | refine below_set ?_ GE312.out | refine below_set ?_ GE323.out) | exact HB.out)))); have n2_ := Aside0.mk (blk_below (g := gb312) (o := .cells #[.int .i64 t305, .int .i64 t306, .int .i64 t307, .string t308, .int .i64 t309, .int .i64 t310] 31 (0, 0)) (by (with_reducible repeat (first | refine blk_drewN ?_ _ | refine blk_drew ?_ | refine blk_alloc ?_ _)); exact BK312.out) hb); have n3_ := Aside0.mk (blk_below (g := gb323) (o := .cells #[.int .i64 t316, .int .i64 t317, .int .i64 t318, .string t319, .int .i64 t320, .int .i64 t321] 31 (0, 0)) (by (with_reducible repeat (first | refine blk_drewN ?_ _ | refine blk_drew ?_ | refine blk_alloc ?_ _)); exact BK323.out) hb); have n4_ := Aside0.mk (below_step (by repeat (first | (with_reducible first | exact HB.out | apply below_alloc | apply pw_below_drewN | apply below_drew1 | refine below_set ?_ GE312.out | refine below_set ?_ GE323.out) | exact HB.out)) hb); clear HO_9; clear BK312; clear BK323; clear HB; have HO_9 := n0_; have HO327 := n1_; have BK312 := n2_; have BK323 := n3_; have HB := n4_; clear n0_ n1_ n2_ n3_ n4_; (try clear hb); (try clear hb2); (try clear hk); (try clear hi); (try clear ho0); obtain ⟨Ao36, co36, eo36⟩ := Kd.R_slice HO327.out; subst eo36) | ((with_reducible refine gate_callee (f := 15) rfl ?_); refine goesL_ (some 44) rfl rfl Try.func15 (by kernel_rfl) rfl #[.slice Ao16 t313.length co16, .slice Ao36 t325.length co36] rfl (by (try simp only [List.map_toArray, List.map_cons, List.map_nil]); first | done | rfl | (simp only [List.length_drop, List.length_take]; rfl)) ?_; (with_reducible refine (laws_eqIntS.calls kj8 _ _ t313 _ _ t325 true _ ?side1 ?side2 ?side3 ?side4 A33.out).mono ?_); (case side1 => repeat (first | exact (Kd.R_reads' HO_9.out).2.2 | (with_reducible refine Kd.C_alloc ?_ _) | (with_reducible refine Kd.C_drewN ?_ _) | (with_reducible refine Kd.C_drew ?_))); (case side2 => exact (Kd.R_reads' HO_9.out).2.1); (case side3 => repeat (first | exact (Kd.R_reads' HO327.out).2.2 | (with_reducible refine Kd.C_alloc ?_ _) | (with_reducible refine Kd.C_drewN ?_ _) | (with_reducible refine Kd.C_drew ?_))); (case side4 => exact (Kd.R_reads' HO327.out).2.1); rintro e w' ⟨rfl, ⟨nd, rfl⟩⟩; refine ⟨_, rfl, ?_⟩))
            go_ret
            exact ⟨by first | rfl | (simp [errW_none, errW_some] <;> rfl) | (simp [*, errW_none, errW_some] <;> rfl), by repeat (first | (with_reducible first | exact HB.out | apply below_alloc | apply pw_below_drewN | apply below_drew1 | refine below_set ?_ GE312.out | refine below_set ?_ GE323.out) | exact HB.out)⟩
          · replace c34 := Bool.eq_false_iff.mpr c34
            subst c34
            have H1 : (some false) = some r := by rw [if_neg (show ¬ (false = true) by decide)] at H; exact H
            clear H
            have H := H1
            clear H1
            obtain rfl := Option.some.inj H
            go_wp2_with (first | ((with_reducible refine gate_callee (f := 19) rfl ?_); refine goesL_ (some 43) rfl rfl Try.func19 (by kernel_rfl) rfl #[.slice A0 l0.length c0] rfl (by (try simp only [List.map_toArray, List.map_cons, List.map_nil]); first | done | rfl | (simp only [List.length_drop, List.length_take]; rfl)) ?_; (with_reducible refine (laws_toIntS.calls kj8 _ _ l0 t325 _ ?side1 ?side2 A32.out).mono ?_); (case side1 => repeat (first | exact (Kd.C_below HR0.out HB.out) | (with_reducible refine Kd.C_alloc ?_ _) | (with_reducible refine Kd.C_drewN ?_ _) | (with_reducible refine Kd.C_drew ?_))); (case side2 => exact HC0.out); rintro e w37 ⟨v326, rfl, ho0, hb⟩; refine ⟨_, rfl, ?_⟩; have n0_ := Aside0.mk (Kd.R_elder' (by (with_reducible repeat (first | apply Kd.R_alloc | apply Kd.R_drewN | apply Kd.R_drew)); exact HO_9.out) (Kd.R_base ho0) hb); have n1_ := Aside0.mk (Kd.R_lower (Kd.R_new' ho0 (Kd.R_lt (by (with_reducible repeat (first | apply Kd.R_alloc | apply Kd.R_drewN | apply Kd.R_drew)); exact HO_9.out))) (below_size (by repeat (first | (with_reducible first | exact HB.out | apply below_alloc | apply pw_below_drewN | apply below_drew1 | refine below_set ?_ GE312.out | refine below_set ?_ GE323.out) | exact HB.out)))); have n2_ := Aside0.mk (blk_below (g := gb312) (o := .cells #[.int .i64 t305, .int .i64 t306, .int .i64 t307, .string t308, .int .i64 t309, .int .i64 t310] 31 (0, 0)) (by (with_reducible repeat (first | refine blk_drewN ?_ _ | refine blk_drew ?_ | refine blk_alloc ?_ _)); exact BK312.out) hb); have n3_ := Aside0.mk (blk_below (g := gb323) (o := .cells #[.int .i64 t316, .int .i64 t317, .int .i64 t318, .string t319, .int .i64 t320, .int .i64 t321] 31 (0, 0)) (by (with_reducible repeat (first | refine blk_drewN ?_ _ | refine blk_drew ?_ | refine blk_alloc ?_ _)); exact BK323.out) hb); have n4_ := Aside0.mk (below_step (by repeat (first | (with_reducible first | exact HB.out | apply below_alloc | apply pw_below_drewN | apply below_drew1 | refine below_set ?_ GE312.out | refine below_set ?_ GE323.out) | exact HB.out)) hb); clear HO_9; clear BK312; clear BK323; clear HB; have HO_9 := n0_; have HO327 := n1_; have BK312 := n2_; have BK323 := n3_; have HB := n4_; clear n0_ n1_ n2_ n3_ n4_; (try clear hb); (try clear hb2); (try clear hk); (try clear hi); (try clear ho0); obtain ⟨Ao38, co38, eo38⟩ := Kd.R_slice HO327.out; subst eo38) | ((with_reducible refine gate_callee (f := 15) rfl ?_); refine goesL_ (some 44) rfl rfl Try.func15 (by kernel_rfl) rfl #[.slice Ao16 t313.length co16, .slice Ao38 t325.length co38] rfl (by (try simp only [List.map_toArray, List.map_cons, List.map_nil]); first | done | rfl | (simp only [List.length_drop, List.length_take]; rfl)) ?_; (with_reducible refine (laws_eqIntS.calls kj8 _ _ t313 _ _ t325 false _ ?side1 ?side2 ?side3 ?side4 A33.out).mono ?_); (case side1 => repeat (first | exact (Kd.R_reads' HO_9.out).2.2 | (with_reducible refine Kd.C_alloc ?_ _) | (with_reducible refine Kd.C_drewN ?_ _) | (with_reducible refine Kd.C_drew ?_))); (case side2 => exact (Kd.R_reads' HO_9.out).2.1); (case side3 => repeat (first | exact (Kd.R_reads' HO327.out).2.2 | (with_reducible refine Kd.C_alloc ?_ _) | (with_reducible refine Kd.C_drewN ?_ _) | (with_reducible refine Kd.C_drew ?_))); (case side4 => exact (Kd.R_reads' HO327.out).2.1); rintro e w' ⟨rfl, ⟨nd, rfl⟩⟩; refine ⟨_, rfl, ?_⟩))
            go_ret
            exact ⟨by first | rfl | (simp [errW_none, errW_some] <;> rfl) | (simp [*, errW_none, errW_some] <;> rfl), by repeat (first | (with_reducible first | exact HB.out | apply below_alloc | apply pw_below_drewN | apply below_drew1 | refine below_set ?_ GE312.out | refine below_set ?_ GE323.out) | exact HB.out)⟩

/-- THE ONE PURE STATEMENT of laws_FnExactReadFrame: yours. -/
def laws_FnExactReadFrame.Pure : Prop := ∀ (l0 : List Int) (a1 : Int) (a2 : Int), l0.length ≤ maxLen → l0.length * 8 ≤ 140737488351232 → (∀ x ∈ l0, (Lit.int .i64 x).wf = true) → (Lit.int .i64 a1).wf = true → (Lit.int .i64 a2).wf = true → ∃ k, laws_FnExactReadFrame.f k l0 a1 a2 = some true
theorem laws_FnExactReadFrame.walk (P : laws_FnExactReadFrame.Pure) (a0 : Option Addr) (len0 cap0 : Nat) (z0 : List Int) (a1 : Int) (a2 : Int) (w : World) (w0 : (a0 = none ∧ len0 = 0 ∧ cap0 = 0 ∧ z0 = []) ∨ ∃ x, a0 = some x ∧ len0 ≤ cap0 ∧ cap0 ≤ maxLen ∧ z0.length = cap0 ∧ (∀ i, i < z0.length → w.cell? (x.add i) = some (.int .i64 (z0.getD i 0))) ∧ ∀ n ∈ z0, (Lit.int .i64 n).wf = true) (y0 : len0 * 8 ≤ 140737488351232) (w1 : (Lit.int .i64 a1).wf = true) (w2 : (Lit.int .i64 a2).wf = true) :
    Calls Try.prog 8 #[.slice a0 len0 cap0, .int .i64 a1, .int .i64 a2] w fun e w' => e = .returned (.bool true) ∧ Below w.heap.size w w' := by
  obtain ⟨l0, rfl, hr0, hm0, hw0, hc0⟩ := ReadsInt.ofRowC w0
  obtain ⟨k, h⟩ := P l0 a1 a2 hm0 y0 hw0 w1 w2
  refine (laws_FnExactReadFrame.calls k _ _ l0 a1 a2 true w (Kd.C_of_reads (d := (0 : Int)) (h1 := fun _ => rfl) hr0) hc0 h).mono ?_
  rintro e w' ⟨rfl, hd⟩
  exact ⟨rfl, hd⟩

end Go.Proofs.Ytlimhkjnnpmpkaa.PFnExactReadFrame
