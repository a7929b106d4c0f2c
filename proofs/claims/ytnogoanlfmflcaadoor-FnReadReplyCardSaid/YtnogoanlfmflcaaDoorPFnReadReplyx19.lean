-- PRINTED BY print.sh 35421559b90ae4d0a3588c463048766b98c2df88dd9212a6774a882060cdf62d: not written by this session
import Derived.Test.YtnogoanlfmflcaaDoorPFnReadReplyx0
import Derived.Test.YtnogoanlfmflcaaDoorPFnReadReplyx17
import Derived.Test.YtnogoanlfmflcaaDoorPFnReadReplyx18
namespace Go.Proofs.YtnogoanlfmflcaaDoor.PFnReadReply
open Go.RowKit Go.Proofs.YtnogoanlfmflcaaDoorW.PrintWords Go.Proofs.YtnogoanlfmflcaaDoorW.PrintLast Go.Proofs.YtnogoanlfmflcaaDoorW.PrintMore
attribute [local go_sem] max2_int min2_int max_two min_two max_three min_three max_four min_four   -- for this text's walks alone
set_option linter.unusedVariables false
set_option linter.unusedSimpArgs false

/-! ### spec_ReplyText: function 11 -/
def spec_ReplyText.f (k : Nat) (a0 : Int) : Option (ByteArray) := if a0 = (-1) then (some (⟨#[110, 111, 110, 101]⟩ : ByteArray)) else (if a0 = (-2) then (some (⟨#[102, 117, 108, 108]⟩ : ByteArray)) else (if a0 = (-3) then (some (⟨#[109, 111, 118, 101, 100]⟩ : ByteArray)) else (if a0 = (-4) then (some (⟨#[115, 116, 97, 108, 101]⟩ : ByteArray)) else ((spec_l1In.f a0 0 999).bind fun t127 => (if t127 = true then ((spec_l7Text.f k a0).bind fun t128 => (some t128)) else (some (⟨#[]⟩ : ByteArray)))))))
theorem spec_ReplyText.mono : ∀ a0 k, LeO (spec_ReplyText.f k a0) (spec_ReplyText.f (k + 1) a0) := by
  intro a0 k
  unfold spec_ReplyText.f
  repeat' first
      | (with_reducible exact spec_l7Text.mono _ _)
      | (with_reducible exact LeO.refl _)
      | (with_reducible exact LeO.none _)
      | (with_reducible refine LeO.ite ?_ ?_)
      | (with_reducible refine LeO.bind ?_ (fun _ => ?_))
      | exact spec_l7Text.mono _ _
      | exact LeO.none _
      | refine LeO.ite ?_ ?_
      | refine LeO.bind ?_ (fun _ => ?_)
set_option maxHeartbeats 8000000 in
set_option maxRecDepth 100000 in
theorem spec_ReplyText.calls (k : Nat) (a0 : Int) (r : ByteArray) (w : World) (h : spec_ReplyText.f k a0 = some r) :
    Calls Tryd.prog 11 #[.int .i64 a0] w fun e w' => e = .returned (.string r) ∧ Below w.heap.size w w' := by
  have HB := Aside0.mk (Below.refl w.heap.size w)
  have H : (if a0 = (-1) then (some (⟨#[110, 111, 110, 101]⟩ : ByteArray)) else (if a0 = (-2) then (some (⟨#[102, 117, 108, 108]⟩ : ByteArray)) else (if a0 = (-3) then (some (⟨#[109, 111, 118, 101, 100]⟩ : ByteArray)) else (if a0 = (-4) then (some (⟨#[115, 116, 97, 108, 101]⟩ : ByteArray)) else ((spec_l1In.f a0 0 999).bind fun t127 => (if t127 = true then ((spec_l7Text.f k a0).bind fun t128 => (some t128)) else (some (⟨#[]⟩ : ByteArray)))))))) = some r := h
  clear h
  by_cases c2 : a0 = (-1)
  · rw [if_pos c2] at H
    have c2b0 : (a0 == (-1)) = true := beq_iff_eq.mpr c2
    have c2b1 : (a0 != (-1)) = false := bne_eq_false_iff_eq.mpr c2
    clear c2
    obtain rfl := Option.some.inj H
    go_enter Tryd.func11, Tryd.ntmps11
    go_wp2
    go_ret
    exact ⟨by first | rfl | (simp [errW_none, errW_some] <;> rfl) | (simp [*, errW_none, errW_some] <;> rfl), by repeat (first | (with_reducible first | exact HB.out | apply below_alloc | apply pw_below_drewN | apply below_drew1) | exact HB.out)⟩
  · rw [if_neg c2] at H
    have c2b0 : (a0 == (-1)) = false := beq_eq_false_iff_ne.mpr c2
    have c2b1 : (a0 != (-1)) = true := bne_iff_ne.mpr c2
    by_cases c3 : a0 = (-2)
    · rw [if_pos c3] at H
      have c3b0 : (a0 == (-2)) = true := beq_iff_eq.mpr c3
      have c3b1 : (a0 != (-2)) = false := bne_eq_false_iff_eq.mpr c3
      clear c3
      obtain rfl := Option.some.inj H
      go_enter Tryd.func11, Tryd.ntmps11
      go_wp2
      go_ret
      exact ⟨by first | rfl | (simp [errW_none, errW_some] <;> rfl) | (simp [*, errW_none, errW_some] <;> rfl), by repeat (first | (with_reducible first | exact HB.out | apply below_alloc | apply pw_below_drewN | apply below_drew1) | exact HB.out)⟩
    · rw [if_neg c3] at H
      have c3b0 : (a0 == (-2)) = false := beq_eq_false_iff_ne.mpr c3
      have c3b1 : (a0 != (-2)) = true := bne_iff_ne.mpr c3
      by_cases c4 : a0 = (-3)
      · rw [if_pos c4] at H
        have c4b0 : (a0 == (-3)) = true := beq_iff_eq.mpr c4
        have c4b1 : (a0 != (-3)) = false := bne_eq_false_iff_eq.mpr c4
        clear c4
        obtain rfl := Option.some.inj H
        go_enter Tryd.func11, Tryd.ntmps11
        go_wp2
        go_ret
        exact ⟨by first | rfl | (simp [errW_none, errW_some] <;> rfl) | (simp [*, errW_none, errW_some] <;> rfl), by repeat (first | (with_reducible first | exact HB.out | apply below_alloc | apply pw_below_drewN | apply below_drew1) | exact HB.out)⟩
      · rw [if_neg c4] at H
        have c4b0 : (a0 == (-3)) = false := beq_eq_false_iff_ne.mpr c4
        have c4b1 : (a0 != (-3)) = true := bne_iff_ne.mpr c4
        by_cases c5 : a0 = (-4)
        · rw [if_pos c5] at H
          have c5b0 : (a0 == (-4)) = true := beq_iff_eq.mpr c5
          have c5b1 : (a0 != (-4)) = false := bne_eq_false_iff_eq.mpr c5
          clear c5
          obtain rfl := Option.some.inj H
          go_enter Tryd.func11, Tryd.ntmps11
          go_wp2
          go_ret
          exact ⟨by first | rfl | (simp [errW_none, errW_some] <;> rfl) | (simp [*, errW_none, errW_some] <;> rfl), by repeat (first | (with_reducible first | exact HB.out | apply below_alloc | apply pw_below_drewN | apply below_drew1) | exact HB.out)⟩
        · rw [if_neg c5] at H
          have c5b0 : (a0 == (-4)) = false := beq_eq_false_iff_ne.mpr c5
          have c5b1 : (a0 != (-4)) = true := bne_iff_ne.mpr c5
          replace H := Option.bind_eq_some_iff.mp H
          obtain ⟨t127, A60, H⟩ := H
          replace H : (if t127 = true then ((spec_l7Text.f k a0).bind fun t128 => (some t128)) else (some (⟨#[]⟩ : ByteArray))) = some r := H
          have A6 := Aside0.mk A60
          clear A60
          by_cases c7 : t127 = true
          · subst c7
            have H1 : ((spec_l7Text.f k a0).bind fun t128 => (some t128)) = some r := by rw [if_pos rfl] at H; exact H
            clear H
            have H := H1
            clear H1
            replace H := Option.bind_eq_some_iff.mp H
            obtain ⟨t128, A80, H⟩ := H
            replace H : (some t128) = some r := H
            have A8 := Aside0.mk A80
            clear A80
            obtain rfl := Option.some.inj H
            go_enter Tryd.func11, Tryd.ntmps11
            go_wp2_with (first | ((with_reducible refine gate_callee (f := 28) rfl ?_); refine goesL_ (some 13) rfl rfl Tryd.func28 (by kernel_rfl) rfl #[.int .i64 a0, .int .i64 0, .int .i64 999] rfl (by (try simp only [List.map_toArray, List.map_cons, List.map_nil]); first | done | rfl | (simp only [List.length_drop, List.length_take]; rfl)) ?_; (with_reducible refine (spec_l1In.calls a0 0 999 true _ A6.out).mono ?_); rintro e w' ⟨rfl, ⟨nd, rfl⟩⟩; refine ⟨_, rfl, ?_⟩) | ((with_reducible refine gate_callee (f := 29) rfl ?_); refine goesL_ (some 16) rfl rfl Tryd.func29 (by kernel_rfl) rfl #[.int .i64 a0] rfl (by (try simp only [List.map_toArray, List.map_cons, List.map_nil]); first | done | rfl | (simp only [List.length_drop, List.length_take]; rfl)) ?_; (with_reducible refine (spec_l7Text.calls k a0 t128 _ A8.out).mono ?_); rintro e w9 ⟨rfl, hb⟩; refine ⟨_, rfl, ?_⟩; have n0_ := Aside0.mk (below_step (by repeat (first | (with_reducible first | exact HB.out | apply below_alloc | apply pw_below_drewN | apply below_drew1) | exact HB.out)) hb); clear HB; have HB := n0_; clear n0_; (try clear hb); (try clear hb2); (try clear hk); (try clear hi)))
            go_ret
            exact ⟨by first | rfl | (simp [errW_none, errW_some] <;> rfl) | (simp [*, errW_none, errW_some] <;> rfl), by repeat (first | (with_reducible first | exact HB.out | apply below_alloc | apply pw_below_drewN | apply below_drew1) | exact HB.out)⟩
          · replace c7 := Bool.eq_false_iff.mpr c7
            subst c7
            have H1 : (some (⟨#[]⟩ : ByteArray)) = some r := by rw [if_neg (show ¬ (false = true) by decide)] at H; exact H
            clear H
            have H := H1
            clear H1
            obtain rfl := Option.some.inj H
            go_enter Tryd.func11, Tryd.ntmps11
            go_wp2_with (first | ((with_reducible refine gate_callee (f := 28) rfl ?_); refine goesL_ (some 13) rfl rfl Tryd.func28 (by kernel_rfl) rfl #[.int .i64 a0, .int .i64 0, .int .i64 999] rfl (by (try simp only [List.map_toArray, List.map_cons, List.map_nil]); first | done | rfl | (simp only [List.length_drop, List.length_take]; rfl)) ?_; (with_reducible refine (spec_l1In.calls a0 0 999 false _ A6.out).mono ?_); rintro e w' ⟨rfl, ⟨nd, rfl⟩⟩; refine ⟨_, rfl, ?_⟩))
            go_ret
            exact ⟨by first | rfl | (simp [errW_none, errW_some] <;> rfl) | (simp [*, errW_none, errW_some] <;> rfl), by repeat (first | (with_reducible first | exact HB.out | apply below_alloc | apply pw_below_drewN | apply below_drew1) | exact HB.out)⟩

end Go.Proofs.YtnogoanlfmflcaaDoor.PFnReadReply
