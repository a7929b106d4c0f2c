-- PRINTED BY print.sh 35421559b90ae4d0a3588c463048766b98c2df88dd9212a6774a882060cdf62d: not written by this session
import Derived.Test.YthfmpcaflplnbaaPFnRunCommandsx0
import Derived.Test.YthfmpcaflplnbaaPFnRunCommandsx31
import Derived.Test.YthfmpcaflplnbaaPFnRunCommandsx38
import Derived.Test.YthfmpcaflplnbaaPFnRunCommandsx41
namespace Go.Proofs.Ythfmpcaflplnbaa.PFnRunCommands
open Go.RowKit Go.Proofs.YthfmpcaflplnbaaW.PrintWords Go.Proofs.YthfmpcaflplnbaaW.PrintLast Go.Proofs.YthfmpcaflplnbaaW.PrintMore
attribute [local go_sem] max2_int min2_int max_two min_two max_three min_three max_four min_four   -- for this text's walks alone
set_option linter.unusedVariables false
set_option linter.unusedSimpArgs false

/-! ### spec_DrawRunCommands: function 30 -/
def spec_DrawRunCommands.f (k : Nat) (l0 : List Int) : Option ((List (S42)) × (List (S31))) := (spec_l20Open.f l0).bind fun bt431 => ((spec_l20Pairs.f k bt431.1 bt431.2 14).bind fun bt434 => ((spec_l20Cmds.f k bt431.1 bt434.2 12).bind fun bt438 => (some (bt434.1, bt438.1))))
theorem spec_DrawRunCommands.mono : ∀ a0 k, LeO (spec_DrawRunCommands.f k a0) (spec_DrawRunCommands.f (k + 1) a0) := by
  intro a0 k
  unfold spec_DrawRunCommands.f
  repeat' first
      | (with_reducible exact spec_l20Cmds.mono _ _ _ _)
      | (with_reducible exact spec_l20Pairs.mono _ _ _ _)
      | (with_reducible exact LeO.refl _)
      | (with_reducible exact LeO.none _)
      | (with_reducible refine LeO.ite ?_ ?_)
      | (with_reducible refine LeO.bind ?_ (fun _ => ?_))
      | exact spec_l20Cmds.mono _ _ _ _
      | exact spec_l20Pairs.mono _ _ _ _
      | exact LeO.none _
      | refine LeO.ite ?_ ?_
      | refine LeO.bind ?_ (fun _ => ?_)
set_option maxHeartbeats 8000000 in
set_option maxRecDepth 100000 in
theorem spec_DrawRunCommands.calls (k : Nat) (A0 : Option Addr) (c0 : Nat) (l0 : List Int) (r1 : List (S42)) (r2 : List (S31)) (w : World) (hr0 : Kd.C (Kd.int .u8) w A0 l0.length l0) (hc0 : l0.length ≤ c0) (h : spec_DrawRunCommands.f k l0 = some (r1, r2)) :
    Calls Try.prog 30 #[.slice A0 l0.length c0] w fun e w' => ∃ v0_ v1_ : Value, e = .returned (.tuple #[v0_, v1_]) ∧ Kd.R k42 42 w' w.heap.size (fun _ => True) v0_ r1 ∧ Kd.R k31 31 w' w.heap.size (fun _ => True) v1_ r2 ∧ Below w.heap.size w w' := by
  have HR0 := Aside0.mk hr0
  have HC0 := Aside0.mk hc0
  clear hr0 hc0
  have HB := Aside0.mk (Below.refl w.heap.size w)
  have H : ((spec_l20Open.f l0).bind fun bt431 => ((spec_l20Pairs.f k bt431.1 bt431.2 14).bind fun bt434 => ((spec_l20Cmds.f k bt431.1 bt434.2 12).bind fun bt438 => (some (bt434.1, bt438.1))))) = some (r1, r2) := h
  clear h
  replace H := Option.bind_eq_some_iff.mp H
  obtain ⟨⟨t431, t432⟩, A20, H⟩ := H
  replace H : ((spec_l20Pairs.f k t431 t432 14).bind fun bt434 => ((spec_l20Cmds.f k t431 bt434.2 12).bind fun bt438 => (some (bt434.1, bt438.1)))) = some (r1, r2) := H
  have A2 := Aside0.mk A20
  clear A20
  replace H := Option.bind_eq_some_iff.mp H
  obtain ⟨⟨t434, t437⟩, A30, H⟩ := H
  replace H : ((spec_l20Cmds.f k t431 t437 12).bind fun bt438 => (some (t434, bt438.1))) = some (r1, r2) := H
  have A3 := Aside0.mk A30
  clear A30
  replace H := Option.bind_eq_some_iff.mp H
  obtain ⟨⟨t438, t441⟩, A40, H⟩ := H
  replace H : (some (t434, t438)) = some (r1, r2) := H
  have A4 := Aside0.mk A40
  clear A40
  simp only [Option.some.injEq, Prod.mk.injEq] at H
  obtain ⟨rfl, rfl⟩ := H
  go_enter Try.func30, Try.ntmps30
  go_wp2_with (first | ((with_reducible refine gate_callee (f := 52) rfl ?_); refine goesL_ (some 7) rfl rfl Try.func52 (by kernel_rfl) rfl #[.slice A0 l0.length c0] rfl (by (try simp only [List.map_toArray, List.map_cons, List.map_nil]); first | done | rfl | (simp only [List.length_drop, List.length_take]; rfl)) ?_; (with_reducible refine (spec_l20Open.calls _ _ l0 t431 t432 w _ ?side1 ?side2 ?side3 A2.out).mono ?_); (case side1 => repeat (first | (with_reducible first | exact HB.out | apply below_alloc | apply pw_below_drewN | apply below_drew1) | exact HB.out)); (case side2 => exact HR0.out); (case side3 => exact HC0.out); rintro e w5 ⟨g433, rfl, hi, hb, hb2⟩; refine ⟨_, rfl, ?_⟩; have n0_ := Aside0.mk (hb); have n1_ := Aside0.mk (hi); clear HB; have HB := n0_; have HI433 := n1_; clear n0_ n1_; (try clear hb); (try clear hb2); (try clear hk); (try clear hi)) | ((with_reducible refine gate_callee (f := 53) rfl ?_); refine goesL_ (some 9) rfl rfl Try.func53 (by kernel_rfl) rfl #[.pointer (some ⟨g433, 0, none⟩), .int .i64 14] rfl (by (try simp only [List.map_toArray, List.map_cons, List.map_nil]); first | done | rfl | (simp only [List.length_drop, List.length_take]; rfl)) ?_; (with_reducible refine (spec_l20Pairs.calls k g433 t431 t432 14 t434 t437 w _ ?side1 ?side2 A3.out).mono ?_); (case side1 => repeat (first | (with_reducible first | exact HI433.out | apply IsS98.alloc | apply IsS98.drewN | apply IsS98.drew | apply IsS98.set_1) | exact HI433.out)); (case side2 => repeat (first | (with_reducible first | exact HB.out | apply below_alloc | apply pw_below_drewN | apply below_drew1 | refine below_set ?_ (IsS98.ge HI433.out)) | exact HB.out)); rintro e w6 ⟨v435, rfl, ho0, hi, hb, hk⟩; refine ⟨_, rfl, ?_⟩; have n0_ := Aside0.mk (Kd.R_lower ho0 (below_size (by repeat (first | (with_reducible first | exact HB.out | apply below_alloc | apply pw_below_drewN | apply below_drew1 | refine below_set ?_ (IsS98.ge HI433.out)) | exact HB.out)))); have n1_ := Aside0.mk (hb); have n2_ := Aside0.mk (hi); clear HB; clear HI433; have HO436 := n0_; have HB := n1_; have HI433 := n2_; clear n0_ n1_ n2_; (try clear hb); (try clear hb2); (try clear hk); (try clear hi); (try clear ho0)) | ((with_reducible refine gate_callee (f := 60) rfl ?_); refine goesL_ (some 12) rfl rfl Try.func60 (by kernel_rfl) rfl #[.pointer (some ⟨g433, 0, none⟩), .int .i64 12] rfl (by (try simp only [List.map_toArray, List.map_cons, List.map_nil]); first | done | rfl | (simp only [List.length_drop, List.length_take]; rfl)) ?_; (with_reducible refine (spec_l20Cmds.calls k g433 t431 t437 12 t438 t441 w _ ?side1 ?side2 A4.out).mono ?_); (case side1 => repeat (first | (with_reducible first | exact HI433.out | apply IsS98.alloc | apply IsS98.drewN | apply IsS98.drew | apply IsS98.set_1) | exact HI433.out)); (case side2 => repeat (first | (with_reducible first | exact HB.out | apply below_alloc | apply pw_below_drewN | apply below_drew1 | refine below_set ?_ (IsS98.ge HI433.out)) | exact HB.out)); rintro e w7 ⟨v439, rfl, ho0, hi, hb, hk⟩; refine ⟨_, rfl, ?_⟩; have n0_ := Aside0.mk (Kd.R_mono (Kd.R_keep (IsS98.apart (show IsS98 w _ g433 t431 t437 from by repeat (first | (with_reducible first | exact HI433.out | apply IsS98.alloc | apply IsS98.drewN | apply IsS98.drew | apply IsS98.set_1) | exact HI433.out)) (by (with_reducible repeat (first | apply Kd.R_alloc | apply Kd.R_drewN | apply Kd.R_drew)); exact HO436.out) (by decide)) hk (fun _ h => h.2)) (fun _ h => h.1)); have n1_ := Aside0.mk (Kd.R_lower ho0 (below_size (by repeat (first | (with_reducible first | exact HB.out | apply below_alloc | apply pw_below_drewN | apply below_drew1 | refine below_set ?_ (IsS98.ge HI433.out)) | exact HB.out)))); have n2_ := Aside0.mk (hb); have n3_ := Aside0.mk (hi); clear HO436; clear HB; clear HI433; have HO436 := n0_; have HO440 := n1_; have HB := n2_; have HI433 := n3_; clear n0_ n1_ n2_ n3_; (try clear hb); (try clear hb2); (try clear hk); (try clear hi); (try clear ho0)))
  go_ret2
  exact ⟨_, _, by first | rfl | (simp [errW_none, errW_some] <;> rfl) | (simp [*, errW_none, errW_some] <;> rfl), by (with_reducible repeat (first | apply Kd.R_alloc | apply Kd.R_drewN | apply Kd.R_drew)); exact HO436.out, by (with_reducible repeat (first | apply Kd.R_alloc | apply Kd.R_drewN | apply Kd.R_drew)); exact HO440.out, by repeat (first | (with_reducible first | exact HB.out | apply below_alloc | apply pw_below_drewN | apply below_drew1 | refine below_set ?_ (IsS98.ge HI433.out)) | exact HB.out)⟩

end Go.Proofs.Ythfmpcaflplnbaa.PFnRunCommands
