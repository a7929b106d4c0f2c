-- PRINTED BY print.sh 35421559b90ae4d0a3588c463048766b98c2df88dd9212a6774a882060cdf62d: not written by this session
import Derived.Test.YtnogoanlfmflcaaDoorPFnReadReplyx0
import Derived.Test.YtnogoanlfmflcaaDoorPFnReadReplyx19
import Derived.Test.YtnogoanlfmflcaaDoorPFnReadReplyx43
import Derived.Test.YtnogoanlfmflcaaDoorPFnReadReplyx45
import Derived.Test.YtnogoanlfmflcaaDoorPFnReadReplyx46
namespace Go.Proofs.YtnogoanlfmflcaaDoor.PFnReadReply
open Go.RowKit Go.Proofs.YtnogoanlfmflcaaDoorW.PrintWords Go.Proofs.YtnogoanlfmflcaaDoorW.PrintLast Go.Proofs.YtnogoanlfmflcaaDoorW.PrintMore
attribute [local go_sem] max2_int min2_int max_two min_two max_three min_three max_four min_four   -- for this text's walks alone
set_option linter.unusedVariables false
set_option linter.unusedSimpArgs false

/-! ### spec_DrawReadReply: function 24 -/
def spec_DrawReadReply.f (k : Nat) (l0 : List Int) : Option (ByteArray) := (spec_l20Open.f l0).bind fun bt181 => ((spec_l20Reply.f k bt181.1 bt181.2 0).bind fun bt184 => ((spec_ReplyText.f k bt184.1).bind fun t186 => (if t186.size + 1 ≤ 9223372036854775807 then (if 1 + t186.size ≤ 9223372036854775807 then ((some (([t186, t186 ++ (⟨#[48]⟩ : ByteArray), (⟨#[48]⟩ : ByteArray) ++ t186, (⟨#[]⟩ : ByteArray), (⟨#[78, 111, 110, 101]⟩ : ByteArray), (⟨#[49, 48, 48, 48]⟩ : ByteArray)] : List ByteArray) : List ByteArray)).bind fun y187 => ((some (([0, 0, 0, 0, 1, 2, 3, 4, 5] : List Int) : List Int)).bind fun y190 => ((spec_l20Rd_pick.f k bt181.1 bt184.2 9).bind fun bt193 => (if 0 ≤ bt193.1 then (if bt193.1 < (y190.length : Int) then (if 0 ≤ (rd y190 bt193.1) then (if (rd y190 bt193.1) < (y187.length : Int) then (some (rdOf ByteArray.empty y187 (rd y190 bt193.1))) else (none)) else (none)) else (none)) else (none))))) else (none)) else (none))))
theorem spec_DrawReadReply.mono : ∀ a0 k, LeO (spec_DrawReadReply.f k a0) (spec_DrawReadReply.f (k + 1) a0) := by
  intro a0 k
  unfold spec_DrawReadReply.f
  repeat' first
      | (with_reducible exact spec_ReplyText.mono _ _)
      | (with_reducible exact spec_l20Rd_pick.mono _ _ _ _)
      | (with_reducible exact spec_l20Reply.mono _ _ _ _)
      | (with_reducible exact LeO.refl _)
      | (with_reducible exact LeO.none _)
      | (with_reducible refine LeO.ite ?_ ?_)
      | (with_reducible refine LeO.bind ?_ (fun _ => ?_))
      | exact spec_ReplyText.mono _ _
      | exact spec_l20Rd_pick.mono _ _ _ _
      | exact spec_l20Reply.mono _ _ _ _
      | exact LeO.none _
      | refine LeO.ite ?_ ?_
      | refine LeO.bind ?_ (fun _ => ?_)
set_option maxHeartbeats 8000000 in
set_option maxRecDepth 100000 in
theorem spec_DrawReadReply.calls (k : Nat) (A0 : Option Addr) (c0 : Nat) (l0 : List Int) (r : ByteArray) (w : World) (hr0 : Kd.C (Kd.int .u8) w A0 l0.length l0) (hc0 : l0.length ≤ c0) (h : spec_DrawReadReply.f k l0 = some r) :
    Calls Tryd.prog 24 #[.slice A0 l0.length c0] w fun e w' => e = .returned (.string r) ∧ Below w.heap.size w w' := by
  have HR0 := Aside0.mk hr0
  have HC0 := Aside0.mk hc0
  clear hr0 hc0
  have HB := Aside0.mk (Below.refl w.heap.size w)
  have H : ((spec_l20Open.f l0).bind fun bt181 => ((spec_l20Reply.f k bt181.1 bt181.2 0).bind fun bt184 => ((spec_ReplyText.f k bt184.1).bind fun t186 => (if t186.size + 1 ≤ 9223372036854775807 then (if 1 + t186.size ≤ 9223372036854775807 then ((some (([t186, t186 ++ (⟨#[48]⟩ : ByteArray), (⟨#[48]⟩ : ByteArray) ++ t186, (⟨#[]⟩ : ByteArray), (⟨#[78, 111, 110, 101]⟩ : ByteArray), (⟨#[49, 48, 48, 48]⟩ : ByteArray)] : List ByteArray) : List ByteArray)).bind fun y187 => ((some (([0, 0, 0, 0, 1, 2, 3, 4, 5] : List Int) : List Int)).bind fun y190 => ((spec_l20Rd_pick.f k bt181.1 bt184.2 9).bind fun bt193 => (if 0 ≤ bt193.1 then (if bt193.1 < (y190.length : Int) then (if 0 ≤ (rd y190 bt193.1) then (if (rd y190 bt193.1) < (y187.length : Int) then (some (rdOf ByteArray.empty y187 (rd y190 bt193.1))) else (none)) else (none)) else (none)) else (none))))) else (none)) else (none))))) = some r := h
  clear h
  replace H := Option.bind_eq_some_iff.mp H
  obtain ⟨⟨t181, t182⟩, A20, H⟩ := H
  replace H : ((spec_l20Reply.f k t181 t182 0).bind fun bt184 => ((spec_ReplyText.f k bt184.1).bind fun t186 => (if t186.size + 1 ≤ 9223372036854775807 then (if 1 + t186.size ≤ 9223372036854775807 then ((some (([t186, t186 ++ (⟨#[48]⟩ : ByteArray), (⟨#[48]⟩ : ByteArray) ++ t186, (⟨#[]⟩ : ByteArray), (⟨#[78, 111, 110, 101]⟩ : ByteArray), (⟨#[49, 48, 48, 48]⟩ : ByteArray)] : List ByteArray) : List ByteArray)).bind fun y187 => ((some (([0, 0, 0, 0, 1, 2, 3, 4, 5] : List Int) : List Int)).bind fun y190 => ((spec_l20Rd_pick.f k t181 bt184.2 9).bind fun bt193 => (if 0 ≤ bt193.1 then (if bt193.1 < (y190.length : Int) then (if 0 ≤ (rd y190 bt193.1) then (if (rd y190 bt193.1) < (y187.length : Int) then (some (rdOf ByteArray.empty y187 (rd y190 bt193.1))) else (none)) else (none)) else (none)) else (none))))) else (none)) else (none)))) = some r := H
  have A2 := Aside0.mk A20
  clear A20
  replace H := Option.bind_eq_some_iff.mp H
  obtain ⟨⟨t184, t185⟩, A30, H⟩ := H
  replace H : ((spec_ReplyText.f k t184).bind fun t186 => (if t186.size + 1 ≤ 9223372036854775807 then (if 1 + t186.size ≤ 9223372036854775807 then ((some (([t186, t186 ++ (⟨#[48]⟩ : ByteArray), (⟨#[48]⟩ : ByteArray) ++ t186, (⟨#[]⟩ : ByteArray), (⟨#[78, 111, 110, 101]⟩ : ByteArray), (⟨#[49, 48, 48, 48]⟩ : ByteArray)] : List ByteArray) : List ByteArray)).bind fun y187 => ((some (([0, 0, 0, 0, 1, 2, 3, 4, 5] : List Int) : List Int)).bind fun y190 => ((spec_l20Rd_pick.f k t181 t185 9).bind fun bt193 => (if 0 ≤ bt193.1 then (if bt193.1 < (y190.length : Int) then (if 0 ≤ (rd y190 bt193.1) then (if (rd y190 bt193.1) < (y187.length : Int) then (some (rdOf ByteArray.empty y187 (rd y190 bt193.1))) else (none)) else (none)) else (none)) else (none))))) else (none)) else (none))) = some r := H
  have A3 := Aside0.mk A30
  clear A30
  replace H := Option.bind_eq_some_iff.mp H
  obtain ⟨t186, A40, H⟩ := H
  replace H : (if t186.size + 1 ≤ 9223372036854775807 then (if 1 + t186.size ≤ 9223372036854775807 then ((some (([t186, t186 ++ (⟨#[48]⟩ : ByteArray), (⟨#[48]⟩ : ByteArray) ++ t186, (⟨#[]⟩ : ByteArray), (⟨#[78, 111, 110, 101]⟩ : ByteArray), (⟨#[49, 48, 48, 48]⟩ : ByteArray)] : List ByteArray) : List ByteArray)).bind fun y187 => ((some (([0, 0, 0, 0, 1, 2, 3, 4, 5] : List Int) : List Int)).bind fun y190 => ((spec_l20Rd_pick.f k t181 t185 9).bind fun bt193 => (if 0 ≤ bt193.1 then (if bt193.1 < (y190.length : Int) then (if 0 ≤ (rd y190 bt193.1) then (if (rd y190 bt193.1) < (y187.length : Int) then (some (rdOf ByteArray.empty y187 (rd y190 bt193.1))) else (none)) else (none)) else (none)) else (none))))) else (none)) else (none)) = some r := H
  have A4 := Aside0.mk A40
  clear A40
  by_cases c5 : t186.size + 1 ≤ 9223372036854775807
  · rw [if_pos c5] at H
    have c5b0 := eq_true c5
    have c5b1 : decide (t186.size + 1 ≤ 9223372036854775807) = true := decide_eq_true c5
    try have c5b2 : (9223372036854775807 < t186.size + 1) = False := eq_false (Nat.not_lt.2 c5)
    by_cases c6 : 1 + t186.size ≤ 9223372036854775807
    · rw [if_pos c6] at H
      have c6b0 := eq_true c6
      have c6b1 : decide (1 + t186.size ≤ 9223372036854775807) = true := decide_eq_true c6
      try have c6b2 : (9223372036854775807 < 1 + t186.size) = False := eq_false (Nat.not_lt.2 c6)
      obtain ⟨y187, hy187⟩ : ∃ y_ : List ByteArray, y_ = (([t186, t186 ++ (⟨#[48]⟩ : ByteArray), (⟨#[48]⟩ : ByteArray) ++ t186, (⟨#[]⟩ : ByteArray), (⟨#[78, 111, 110, 101]⟩ : ByteArray), (⟨#[49, 48, 48, 48]⟩ : ByteArray)] : List ByteArray)) := ⟨_, rfl⟩
      replace H : ((some (([0, 0, 0, 0, 1, 2, 3, 4, 5] : List Int) : List Int)).bind fun y190 => ((spec_l20Rd_pick.f k t181 t185 9).bind fun bt193 => (if 0 ≤ bt193.1 then (if bt193.1 < (y190.length : Int) then (if 0 ≤ (rd y190 bt193.1) then (if (rd y190 bt193.1) < (y187.length : Int) then (some (rdOf ByteArray.empty y187 (rd y190 bt193.1))) else (none)) else (none)) else (none)) else (none)))) = some r := by first | (rw [hy187]; with_reducible exact H) | (have H2_ := (Option.bind_some _ _).symm.trans H; rw [hy187]; with_reducible exact H2_) | (have H2_ := (Option.bind_some _ _).symm.trans H; with_reducible exact H2_) | with_reducible exact H | (rw [hy187]; exact H) | exact H
      have Ny187 := Aside0.mk hy187
      clear hy187
      obtain ⟨y190, hy190⟩ : ∃ y_ : List Int, y_ = (([0, 0, 0, 0, 1, 2, 3, 4, 5] : List Int)) := ⟨_, rfl⟩
      replace H : ((spec_l20Rd_pick.f k t181 t185 9).bind fun bt193 => (if 0 ≤ bt193.1 then (if bt193.1 < (y190.length : Int) then (if 0 ≤ (rd y190 bt193.1) then (if (rd y190 bt193.1) < (y187.length : Int) then (some (rdOf ByteArray.empty y187 (rd y190 bt193.1))) else (none)) else (none)) else (none)) else (none))) = some r := by first | (rw [hy190]; with_reducible exact H) | (have H2_ := (Option.bind_some _ _).symm.trans H; rw [hy190]; with_reducible exact H2_) | (have H2_ := (Option.bind_some _ _).symm.trans H; with_reducible exact H2_) | with_reducible exact H | (rw [hy190]; exact H) | exact H
      have Ny190 := Aside0.mk hy190
      clear hy190
      replace H := Option.bind_eq_some_iff.mp H
      obtain ⟨⟨t193, t194⟩, A70, H⟩ := H
      replace H : (if 0 ≤ t193 then (if t193 < (y190.length : Int) then (if 0 ≤ (rd y190 t193) then (if (rd y190 t193) < (y187.length : Int) then (some (rdOf ByteArray.empty y187 (rd y190 t193))) else (none)) else (none)) else (none)) else (none)) = some r := H
      have A7 := Aside0.mk A70
      clear A70
      by_cases c8 : 0 ≤ t193
      · rw [if_pos c8] at H
        have c8b0 : decide (0 ≤ t193) = true := decide_eq_true c8
        clear c8
        by_cases c9 : t193 < (y190.length : Int)
        · rw [if_pos c9] at H
          have c9b0 : decide (t193 < (y190.length : Int)) = true := decide_eq_true c9
          clear c9
          by_cases c10 : 0 ≤ (rd y190 t193)
          · rw [if_pos c10] at H
            have c10b0 : decide (0 ≤ (rd y190 t193)) = true := decide_eq_true c10
            clear c10
            by_cases c11 : (rd y190 t193) < (y187.length : Int)
            · rw [if_pos c11] at H
              have c11b0 : decide ((rd y190 t193) < (y187.length : Int)) = true := decide_eq_true c11
              clear c11
              obtain rfl := Option.some.inj H
              go_enter Tryd.func24, Tryd.ntmps24
              go_wp2_with (first | ((with_reducible refine gate_callee (f := 39) rfl ?_); refine goesL_ (some 6) rfl rfl Tryd.func39 (by kernel_rfl) rfl #[.slice A0 l0.length c0] rfl (by (try simp only [List.map_toArray, List.map_cons, List.map_nil]); first | done | rfl | (simp only [List.length_drop, List.length_take]; rfl)) ?_; (with_reducible refine (spec_l20Open.calls _ _ l0 t181 t182 w _ ?side1 ?side2 ?side3 A2.out).mono ?_); (case side1 => repeat (first | (with_reducible first | exact HB.out | apply below_alloc | apply pw_below_drewN | apply below_drew1) | exact HB.out)); (case side2 => exact HR0.out); (case side3 => exact HC0.out); rintro e w12 ⟨g183, rfl, hi, hb, hb2⟩; refine ⟨_, rfl, ?_⟩; have n0_ := Aside0.mk (hb); have n1_ := Aside0.mk (hi); clear HB; have HB := n0_; have HI183 := n1_; clear n0_ n1_; (try clear hb); (try clear hb2); (try clear hk); (try clear hi)) | ((with_reducible refine gate_callee (f := 38) rfl ?_); refine goesL_ (some 8) rfl rfl Tryd.func38 (by kernel_rfl) rfl #[.pointer (some ⟨g183, 0, none⟩), .int .i64 0] rfl (by (try simp only [List.map_toArray, List.map_cons, List.map_nil]); first | done | rfl | (simp only [List.length_drop, List.length_take]; rfl)) ?_; (with_reducible refine (spec_l20Reply.calls k g183 t181 t182 0 t184 t185 w _ ?side1 ?side2 A3.out).mono ?_); (case side1 => repeat (first | (with_reducible first | exact HI183.out | apply IsS62.alloc | apply IsS62.drewN | apply IsS62.drew | apply IsS62.set_1) | exact HI183.out)); (case side2 => repeat (first | (with_reducible first | exact HB.out | apply below_alloc | apply pw_below_drewN | apply below_drew1 | refine below_set ?_ (IsS62.ge HI183.out)) | exact HB.out)); rintro e w13 ⟨rfl, hi, hb, hk⟩; refine ⟨_, rfl, ?_⟩; have n0_ := Aside0.mk (hb); have n1_ := Aside0.mk (hi); clear HB; clear HI183; have HB := n0_; have HI183 := n1_; clear n0_ n1_; (try clear hb); (try clear hb2); (try clear hk); (try clear hi)) | ((with_reducible refine gate_callee (f := 11) rfl ?_); refine goesL_ (some 9) rfl rfl Tryd.func11 (by kernel_rfl) rfl #[.int .i64 t184] rfl (by (try simp only [List.map_toArray, List.map_cons, List.map_nil]); first | done | rfl | (simp only [List.length_drop, List.length_take]; rfl)) ?_; (with_reducible refine (spec_ReplyText.calls k t184 t186 _ A4.out).mono ?_); rintro e w14 ⟨rfl, hb⟩; refine ⟨_, rfl, ?_⟩; have n0_ := Aside0.mk (IsS62.below (by repeat (first | (with_reducible first | exact HI183.out | apply IsS62.alloc | apply IsS62.drewN | apply IsS62.drew | apply IsS62.set_1) | exact HI183.out)) hb); have n1_ := Aside0.mk (below_step (by repeat (first | (with_reducible first | exact HB.out | apply below_alloc | apply pw_below_drewN | apply below_drew1 | refine below_set ?_ (IsS62.ge HI183.out)) | exact HB.out)) hb); clear HI183; clear HB; have HI183 := n0_; have HB := n1_; clear n0_ n1_; (try clear hb); (try clear hb2); (try clear hk); (try clear hi)) | ((with_reducible refine gate_dst (N := 15) rfl ?_); refine Kd.R_lit Kd.string _ 9 ?hg (N := 15) ?hd (xs := ([t186, t186 ++ (⟨#[48]⟩ : ByteArray), (⟨#[48]⟩ : ByteArray) ++ t186, (⟨#[]⟩ : ByteArray), (⟨#[78, 111, 110, 101]⟩ : ByteArray), (⟨#[49, 48, 48, 48]⟩ : ByteArray)] : List ByteArray)) (inner := [.string t186, .string (t186 ++ (⟨#[48]⟩ : ByteArray)), .string ((⟨#[48]⟩ : ByteArray) ++ t186), .string (⟨#[]⟩ : ByteArray), .string (⟨#[78, 111, 110, 101]⟩ : ByteArray), .string (⟨#[49, 48, 48, 48]⟩ : ByteArray)]) (ok := fun _ => True) (okp := fun _ => True) ?hr ?hp (fun _ hk => hk) trivial (Below.refl _ _) (Nat.le_refl _) (by simp) ?_; (case hd => rfl); (case hg => rfl); (case hr => first | (go_simp; done) | (go_simp; rfl)); (case hp => exact (Reps.one (show Kd.M Kd.string _ _ _ t186 [.string t186] from rfl) (Reps.one (show Kd.M Kd.string _ _ _ (t186 ++ (⟨#[48]⟩ : ByteArray)) [.string (t186 ++ (⟨#[48]⟩ : ByteArray))] from rfl) (Reps.one (show Kd.M Kd.string _ _ _ ((⟨#[48]⟩ : ByteArray) ++ t186) [.string ((⟨#[48]⟩ : ByteArray) ++ t186)] from rfl) (Reps.one (show Kd.M Kd.string _ _ _ (⟨#[]⟩ : ByteArray) [.string (⟨#[]⟩ : ByteArray)] from rfl) (Reps.one (show Kd.M Kd.string _ _ _ (⟨#[78, 111, 110, 101]⟩ : ByteArray) [.string (⟨#[78, 111, 110, 101]⟩ : ByteArray)] from rfl) (Reps.one (show Kd.M Kd.string _ _ _ (⟨#[49, 48, 48, 48]⟩ : ByteArray) [.string (⟨#[49, 48, 48, 48]⟩ : ByteArray)] from rfl) (Reps.none _ _)))))))); intro v188 w15 ho16 hb hg_ hnew_; clear hg_ hnew_; (first | rw [← Ny187.out] at ho16 | (simp only [Int.reduceToNat] at ho16; rw [← Ny187.out] at ho16)); have n0_ := Aside0.mk (Kd.R_lower ho16 (below_size (by repeat (first | (with_reducible first | exact HB.out | apply below_alloc | apply pw_below_drewN | apply below_drew1 | refine below_set ?_ (IsS62.ge HI183.out)) | exact HB.out)))); have n1_ := Aside0.mk (IsS62.below (by repeat (first | (with_reducible first | exact HI183.out | apply IsS62.alloc | apply IsS62.drewN | apply IsS62.drew | apply IsS62.set_1) | exact HI183.out)) hb); have n2_ := Aside0.mk (below_step (by repeat (first | (with_reducible first | exact HB.out | apply below_alloc | apply pw_below_drewN | apply below_drew1 | refine below_set ?_ (IsS62.ge HI183.out)) | exact HB.out)) hb); clear HI183; clear HB; have HO189 := n0_; have HI183 := n1_; have HB := n2_; clear n0_ n1_ n2_; clear hb ho16) | ((with_reducible refine gate_dst (N := 16) rfl ?_); refine Kd.R_lit (Kd.int .i64) _ 3 ?hg (N := 16) ?hd (xs := ([0, 0, 0, 0, 1, 2, 3, 4, 5] : List Int)) (inner := [.int .i64 0, .int .i64 0, .int .i64 0, .int .i64 0, .int .i64 1, .int .i64 2, .int .i64 3, .int .i64 4, .int .i64 5]) (ok := fun _ => True) (okp := fun _ => True) ?hr ?hp (fun _ hk => hk) trivial (Below.refl _ _) (Nat.le_refl _) (by simp) ?_; (case hd => rfl); (case hg => rfl); (case hr => first | (go_simp; done) | (go_simp; rfl)); (case hp => exact (Reps.one (show Kd.M (Kd.int .i64) _ _ _ 0 [.int .i64 0] from rfl) (Reps.one (show Kd.M (Kd.int .i64) _ _ _ 0 [.int .i64 0] from rfl) (Reps.one (show Kd.M (Kd.int .i64) _ _ _ 0 [.int .i64 0] from rfl) (Reps.one (show Kd.M (Kd.int .i64) _ _ _ 0 [.int .i64 0] from rfl) (Reps.one (show Kd.M (Kd.int .i64) _ _ _ 1 [.int .i64 1] from rfl) (Reps.one (show Kd.M (Kd.int .i64) _ _ _ 2 [.int .i64 2] from rfl) (Reps.one (show Kd.M (Kd.int .i64) _ _ _ 3 [.int .i64 3] from rfl) (Reps.one (show Kd.M (Kd.int .i64) _ _ _ 4 [.int .i64 4] from rfl) (Reps.one (show Kd.M (Kd.int .i64) _ _ _ 5 [.int .i64 5] from rfl) (Reps.none _ _))))))))))); intro v191 w17 ho18 hb hg_ hnew_; clear hg_ hnew_; (first | rw [← Ny190.out] at ho18 | (simp only [Int.reduceToNat] at ho18; rw [← Ny190.out] at ho18)); have n0_ := Aside0.mk (Kd.R_below (by (with_reducible repeat (first | apply Kd.R_alloc | apply Kd.R_drewN | apply Kd.R_drew)); exact HO189.out) hb); have n1_ := Aside0.mk (Kd.R_lower ho18 (below_size (by repeat (first | (with_reducible first | exact HB.out | apply below_alloc | apply pw_below_drewN | apply below_drew1 | refine below_set ?_ (IsS62.ge HI183.out)) | exact HB.out)))); have n2_ := Aside0.mk (IsS62.below (by repeat (first | (with_reducible first | exact HI183.out | apply IsS62.alloc | apply IsS62.drewN | apply IsS62.drew | apply IsS62.set_1) | exact HI183.out)) hb); have n3_ := Aside0.mk (below_step (by repeat (first | (with_reducible first | exact HB.out | apply below_alloc | apply pw_below_drewN | apply below_drew1 | refine below_set ?_ (IsS62.ge HI183.out)) | exact HB.out)) hb); clear HO189; clear HI183; clear HB; have HO189 := n0_; have HO192 := n1_; have HI183 := n2_; have HB := n3_; clear n0_ n1_ n2_ n3_; clear hb ho18) | ((with_reducible refine gate_callee (f := 41) rfl ?_); refine goesL_ (some 18) rfl rfl Tryd.func41 (by kernel_rfl) rfl #[.pointer (some ⟨g183, 0, none⟩), .int .i64 9] rfl (by (try simp only [List.map_toArray, List.map_cons, List.map_nil]); first | done | rfl | (simp only [List.length_drop, List.length_take]; rfl)) ?_; (with_reducible refine (spec_l20Rd_pick.calls k g183 t181 t185 9 t193 t194 w _ ?side1 ?side2 A7.out).mono ?_); (case side1 => repeat (first | (with_reducible first | exact HI183.out | apply IsS62.alloc | apply IsS62.drewN | apply IsS62.drew | apply IsS62.set_1) | exact HI183.out)); (case side2 => repeat (first | (with_reducible first | exact HB.out | apply below_alloc | apply pw_below_drewN | apply below_drew1 | refine below_set ?_ (IsS62.ge HI183.out)) | exact HB.out)); rintro e w19 ⟨rfl, hi, hb, hk⟩; refine ⟨_, rfl, ?_⟩; have n0_ := Aside0.mk (Kd.R_mono (Kd.R_keep (IsS62.apart (show IsS62 w _ g183 t181 t185 from by repeat (first | (with_reducible first | exact HI183.out | apply IsS62.alloc | apply IsS62.drewN | apply IsS62.drew | apply IsS62.set_1) | exact HI183.out)) (by (with_reducible repeat (first | apply Kd.R_alloc | apply Kd.R_drewN | apply Kd.R_drew)); exact HO189.out) (by decide)) hk (fun _ h => h.2)) (fun _ h => h.1)); have n1_ := Aside0.mk (Kd.R_mono (Kd.R_keep (IsS62.apart (show IsS62 w _ g183 t181 t185 from by repeat (first | (with_reducible first | exact HI183.out | apply IsS62.alloc | apply IsS62.drewN | apply IsS62.drew | apply IsS62.set_1) | exact HI183.out)) (by (with_reducible repeat (first | apply Kd.R_alloc | apply Kd.R_drewN | apply Kd.R_drew)); exact HO192.out) (by decide)) hk (fun _ h => h.2)) (fun _ h => h.1)); have n2_ := Aside0.mk (hb); have n3_ := Aside0.mk (hi); clear HO189; clear HO192; clear HB; clear HI183; have HO189 := n0_; have HO192 := n1_; have HB := n2_; have HI183 := n3_; clear n0_ n1_ n2_ n3_; (try clear hb); (try clear hb2); (try clear hk); (try clear hi); obtain ⟨Ao20, co20, eo20⟩ := Kd.R_slice HO192.out; subst eo20; have p195 : 0 ≤ (t193 : Int) := of_decide_eq_true (by first | (with_reducible assumption) | assumption); have q195 : t193 < (y190.length : Int) := of_decide_eq_true (by first | (with_reducible assumption) | assumption); obtain ⟨ad195, e195, hx195_0⟩ := Kd.at_int (Kd.R_reads' HO192.out).2.2 t193 p195 q195; cases e195; replace p195 := eq_true p195; replace q195 := eq_true q195; obtain ⟨Ao21, co21, eo21⟩ := Kd.R_slice HO189.out; subst eo21; have p196 : 0 ≤ ((rd y190 t193) : Int) := of_decide_eq_true (by first | (with_reducible assumption) | assumption); have q196 : (rd y190 t193) < (y187.length : Int) := of_decide_eq_true (by first | (with_reducible assumption) | assumption); obtain ⟨ad196, e196, hx196_0⟩ := Kd.at_string (Kd.R_reads' HO189.out).2.2 (rd y190 t193) p196 q196; cases e196; replace p196 := eq_true p196; replace q196 := eq_true q196))
              go_ret
              exact ⟨by first | rfl | (simp [errW_none, errW_some] <;> rfl) | (simp [*, errW_none, errW_some] <;> rfl), by repeat (first | (with_reducible first | exact HB.out | apply below_alloc | apply pw_below_drewN | apply below_drew1 | refine below_set ?_ (IsS62.ge HI183.out)) | exact HB.out)⟩
            · rw [if_neg c11] at H
              exact absurd H (by simp)
          · rw [if_neg c10] at H
            exact absurd H (by simp)
        · rw [if_neg c9] at H
          exact absurd H (by simp)
      · rw [if_neg c8] at H
        exact absurd H (by simp)
    · rw [if_neg c6] at H
      exact absurd H (by simp)
  · rw [if_neg c5] at H
    exact absurd H (by simp)

end Go.Proofs.YtnogoanlfmflcaaDoor.PFnReadReply
