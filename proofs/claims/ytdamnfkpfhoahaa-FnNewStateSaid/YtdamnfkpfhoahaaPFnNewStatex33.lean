-- PRINTED BY print.sh 35421559b90ae4d0a3588c463048766b98c2df88dd9212a6774a882060cdf62d: not written by this session
import Derived.Test.YtdamnfkpfhoahaaPFnNewStatex0
import Derived.Test.YtdamnfkpfhoahaaPFnNewStatex15
import Derived.Test.YtdamnfkpfhoahaaPFnNewStatex28
import Derived.Test.YtdamnfkpfhoahaaPFnNewStatex30
import Derived.Test.YtdamnfkpfhoahaaPFnNewStatex31
import Derived.Test.YtdamnfkpfhoahaaPFnNewStatex32
namespace Go.Proofs.Ytdamnfkpfhoahaa.PFnNewState
open Go.RowKit Go.Proofs.YtdamnfkpfhoahaaW.PrintWords Go.Proofs.YtdamnfkpfhoahaaW.PrintLast Go.Proofs.YtdamnfkpfhoahaaW.PrintMore
attribute [local go_sem] max2_int min2_int max_two min_two max_three min_three max_four min_four   -- for this text's walks alone
set_option linter.unusedVariables false
set_option linter.unusedSimpArgs false

/-! ### impl_StateValid: function 36 -/
mutual
def impl_StateValid.j0 : Nat → Bool → ByteArray → ByteArray → List (S76) → List (S90) → Bool → ByteArray → Option (Bool)
  | 0, _, _, _, _, _, _, _ => none
  | k + 1, x23, x211000, x211001, x211002, x211003, x211004, x211005 => if x23 = true then (some false) else (impl_StateValid.l0 k x211002 (x211002.length : Int) 0 x211000 x211001 x211002 x211003 x211004 x211005)
def impl_StateValid.l0 : Nat → List (S76) → Int → Int → ByteArray → ByteArray → List (S76) → List (S90) → Bool → ByteArray → Option (Bool)
  | 0, _, _, _, _, _, _, _, _, _ => none
  | k + 1, x25, x26, x27, x211000, x211001, x211002, x211003, x211004, x211005 => if x27 < x26 then (if 0 ≤ x27 then (if x27 < (x25.length : Int) then ((impl_inside.f x211000 x211001 ((rd_T76 x25 x27).f0)).bind fun t216 => (if t216 = true then (impl_StateValid.l0 k x25 x26 (wrap64 (x27 + 1)) x211000 x211001 x211002 x211003 x211004 x211005) else (some false))) else (none)) else (none)) else (if x211005.toList = ([] : List UInt8) then (some true) else ((impl_IntervalCut.f k x211000 x211001 x211005).bind fun bt217 => (if x211004 = true then (some bt217.2.2.2.2) else (some false))))
end
def impl_StateValid.f (k : Nat) (a0_0 : ByteArray) (a0_1 : ByteArray) (l0_2 : List (S76)) (l0_3 : List (S90)) (a0_4 : Bool) (a0_5 : ByteArray) : Option (Bool) := (impl_IntervalValid.f k a0_0 a0_1).bind fun t211 => (if t211 = true then ((impl_PairsValid.f k l0_2).bind fun t212 => (if t212 = true then ((impl_SessionsValid.f k l0_3).bind fun t213 => (impl_StateValid.j0 k (!t213) a0_0 a0_1 l0_2 l0_3 a0_4 a0_5)) else (impl_StateValid.j0 k true a0_0 a0_1 l0_2 l0_3 a0_4 a0_5))) else (impl_StateValid.j0 k true a0_0 a0_1 l0_2 l0_3 a0_4 a0_5))
theorem impl_StateValid.mono_l : ∀ k, (∀ y0 y1 y2 y3 y4 y5 y6, LeO (impl_StateValid.j0 k y0 y1 y2 y3 y4 y5 y6) (impl_StateValid.j0 (k + 1) y0 y1 y2 y3 y4 y5 y6)) ∧ (∀ y0 y1 y2 y3 y4 y5 y6 y7 y8, LeO (impl_StateValid.l0 k y0 y1 y2 y3 y4 y5 y6 y7 y8) (impl_StateValid.l0 (k + 1) y0 y1 y2 y3 y4 y5 y6 y7 y8))
  | 0 => ⟨fun _ _ _ _ _ _ _ r h => by simp [impl_StateValid.j0] at h, fun _ _ _ _ _ _ _ _ _ r h => by simp [impl_StateValid.l0] at h⟩
  | k + 1 => by
    obtain ⟨ih0, ih1⟩ := impl_StateValid.mono_l k
    refine ⟨?_, ?_⟩
    · intro y0 y1 y2 y3 y4 y5 y6
      unfold impl_StateValid.j0
      repeat' first
      | (with_reducible exact ih0 _ _ _ _ _ _ _)
      | (with_reducible exact ih1 _ _ _ _ _ _ _ _ _)
      | (with_reducible exact impl_IntervalCut.mono _ _ _ _)
      | (with_reducible exact impl_IntervalValid.mono _ _ _)
      | (with_reducible exact impl_PairsValid.mono _ _)
      | (with_reducible exact impl_SessionsValid.mono _ _)
      | (with_reducible exact LeO.refl _)
      | (with_reducible exact LeO.none _)
      | (with_reducible refine LeO.ite ?_ ?_)
      | (with_reducible refine LeO.bind ?_ (fun _ => ?_))
      | exact ih0 _ _ _ _ _ _ _
      | exact ih1 _ _ _ _ _ _ _ _ _
      | exact impl_IntervalCut.mono _ _ _ _
      | exact impl_IntervalValid.mono _ _ _
      | exact impl_PairsValid.mono _ _
      | exact impl_SessionsValid.mono _ _
      | exact LeO.none _
      | refine LeO.ite ?_ ?_
      | refine LeO.bind ?_ (fun _ => ?_)
    · intro y0 y1 y2 y3 y4 y5 y6 y7 y8
      unfold impl_StateValid.l0
      repeat' first
      | (with_reducible exact ih0 _ _ _ _ _ _ _)
      | (with_reducible exact ih1 _ _ _ _ _ _ _ _ _)
      | (with_reducible exact impl_IntervalCut.mono _ _ _ _)
      | (with_reducible exact impl_IntervalValid.mono _ _ _)
      | (with_reducible exact impl_PairsValid.mono _ _)
      | (with_reducible exact impl_SessionsValid.mono _ _)
      | (with_reducible exact LeO.refl _)
      | (with_reducible exact LeO.none _)
      | (with_reducible refine LeO.ite ?_ ?_)
      | (with_reducible refine LeO.bind ?_ (fun _ => ?_))
      | exact ih0 _ _ _ _ _ _ _
      | exact ih1 _ _ _ _ _ _ _ _ _
      | exact impl_IntervalCut.mono _ _ _ _
      | exact impl_IntervalValid.mono _ _ _
      | exact impl_PairsValid.mono _ _
      | exact impl_SessionsValid.mono _ _
      | exact LeO.none _
      | refine LeO.ite ?_ ?_
      | refine LeO.bind ?_ (fun _ => ?_)
theorem impl_StateValid.mono : ∀ a0 a1 a2 a3 a4 a5 k, LeO (impl_StateValid.f k a0 a1 a2 a3 a4 a5) (impl_StateValid.f (k + 1) a0 a1 a2 a3 a4 a5) := by
  intro a0 a1 a2 a3 a4 a5 k
  obtain ⟨ih0, ih1⟩ := impl_StateValid.mono_l k
  unfold impl_StateValid.f
  repeat' first
      | (with_reducible exact ih0 _ _ _ _ _ _ _)
      | (with_reducible exact ih1 _ _ _ _ _ _ _ _ _)
      | (with_reducible exact impl_IntervalCut.mono _ _ _ _)
      | (with_reducible exact impl_IntervalValid.mono _ _ _)
      | (with_reducible exact impl_PairsValid.mono _ _)
      | (with_reducible exact impl_SessionsValid.mono _ _)
      | (with_reducible exact LeO.refl _)
      | (with_reducible exact LeO.none _)
      | (with_reducible refine LeO.ite ?_ ?_)
      | (with_reducible refine LeO.bind ?_ (fun _ => ?_))
      | exact ih0 _ _ _ _ _ _ _
      | exact ih1 _ _ _ _ _ _ _ _ _
      | exact impl_IntervalCut.mono _ _ _ _
      | exact impl_IntervalValid.mono _ _ _
      | exact impl_PairsValid.mono _ _
      | exact impl_SessionsValid.mono _ _
      | exact LeO.none _
      | refine LeO.ite ?_ ?_
      | refine LeO.bind ?_ (fun _ => ?_)
set_option maxHeartbeats 8000000 in
set_option maxRecDepth 100000 in
theorem impl_StateValid.calls (k : Nat) (a0_0 : ByteArray) (a0_1 : ByteArray) (A0_2 : Option Addr) (c0_2 : Nat) (l0_2 : List (S76)) (A0_3 : Option Addr) (c0_3 : Nat) (l0_3 : List (S90)) (a0_4 : Bool) (a0_5 : ByteArray) (r : Bool) (w : World) (hr0_2 : Kd.C k76 w A0_2 l0_2.length l0_2) (hc0_2 : l0_2.length ≤ c0_2) (hr0_3 : Kd.C k90 w A0_3 l0_3.length l0_3) (hc0_3 : l0_3.length ≤ c0_3) (h : impl_StateValid.f k a0_0 a0_1 l0_2 l0_3 a0_4 a0_5 = some r) :
    Calls Try.prog 36 #[.agg #[.string a0_0, .string a0_1, .slice A0_2 l0_2.length c0_2, .slice A0_3 l0_3.length c0_3, .bool a0_4, .string a0_5]] w fun e w' => e = .returned (.bool r) ∧ Below w.heap.size w w' := by
  have hu49 := Try.underlying49
  have hu45 := Try.underlying45
  have hu76 := Try.underlying76
  have HR0_2 := Aside0.mk hr0_2
  have HC0_2 := Aside0.mk hc0_2
  clear hr0_2 hc0_2
  have HR0_3 := Aside0.mk hr0_3
  have HC0_3 := Aside0.mk hc0_3
  clear hr0_3 hc0_3
  have HB := Aside0.mk (Below.refl w.heap.size w)
  have H : ((impl_IntervalValid.f k a0_0 a0_1).bind fun t211 => (if t211 = true then ((impl_PairsValid.f k l0_2).bind fun t212 => (if t212 = true then ((impl_SessionsValid.f k l0_3).bind fun t213 => (impl_StateValid.j0 k (!t213) a0_0 a0_1 l0_2 l0_3 a0_4 a0_5)) else (impl_StateValid.j0 k true a0_0 a0_1 l0_2 l0_3 a0_4 a0_5))) else (impl_StateValid.j0 k true a0_0 a0_1 l0_2 l0_3 a0_4 a0_5))) = some r := h
  clear h
  have HC2 := Aside0.mk H
  clear H
  go_enter Try.func36, Try.ntmps36
  go_upto_region 1 with (first | ((with_reducible refine gate_dst (N := 1) rfl ?_); refine box_event ?hg (N := 1) ?hd (cs := #[.string a0_0, .string a0_1, .slice A0_2 l0_2.length c0_2, .slice A0_3 l0_3.length c0_3, .bool a0_4, .string a0_5]) (t := 49) ?hr ?_; (case hd => rfl); (case hg => rfl); (case hr => first | (go_simp; done) | (go_simp; rfl)); intro gb210 hg w3 hbox hb; have n0_ := Aside0.mk (below_step (by repeat (first | (with_reducible first | exact HB.out | apply below_alloc | apply pw_below_drewN | apply below_drew1) | exact HB.out)) hb); have n1_ := Aside0.mk (hbox); have n2_ := Aside0.mk ((by rw [hg]; exact (below_size (by repeat (first | (with_reducible first | exact HB.out | apply below_alloc | apply pw_below_drewN | apply below_drew1) | exact HB.out))) : w.heap.size ≤ gb210)); have n3_ := Aside0.mk ((by rw [hg]; exact (below_size (by repeat (first | (with_reducible first | exact HB.out | apply below_alloc | apply pw_below_drewN | apply below_drew1) | exact HB.out))) : w.heap.size ≤ gb210)); clear HB; have HB := n0_; have BK210 := n1_; have GW210 := n2_; have GE210 := n3_; clear n0_ n1_ n2_ n3_; clear hb hbox hg))
  (try simp only [Act.put, List.setIfInBounds_toArray, List.set_cons_zero, List.set_cons_succ])
  go_cut [23] (fun v23 wc => ∃ (kq : Nat) (x23_1 : Bool), v23 = .bool x23_1 ∧ Aside0 (impl_StateValid.j0 kq x23_1 a0_0 a0_1 l0_2 l0_3 a0_4 a0_5 = some r) ∧ Aside0 (kq ≤ k) ∧ Aside0 (wc.heap[gb210]? = some (.cells #[.string a0_0, .string a0_1, (.slice A0_2 l0_2.length c0_2), (.slice A0_3 l0_3.length c0_3), .bool a0_4, .string a0_5] 49 (0, 0))) ∧ Aside0 (Below w.heap.size w wc))
  case first =>
    have H := HC2.out
    clear HC2
    replace H := Option.bind_eq_some_iff.mp H
    obtain ⟨t211, A40, H⟩ := H
    replace H : (if t211 = true then ((impl_PairsValid.f k l0_2).bind fun t212 => (if t212 = true then ((impl_SessionsValid.f k l0_3).bind fun t213 => (impl_StateValid.j0 k (!t213) a0_0 a0_1 l0_2 l0_3 a0_4 a0_5)) else (impl_StateValid.j0 k true a0_0 a0_1 l0_2 l0_3 a0_4 a0_5))) else (impl_StateValid.j0 k true a0_0 a0_1 l0_2 l0_3 a0_4 a0_5)) = some r := H
    have A4 := Aside0.mk A40
    clear A40
    by_cases c5 : t211 = true
    · subst c5
      have H1 : ((impl_PairsValid.f k l0_2).bind fun t212 => (if t212 = true then ((impl_SessionsValid.f k l0_3).bind fun t213 => (impl_StateValid.j0 k (!t213) a0_0 a0_1 l0_2 l0_3 a0_4 a0_5)) else (impl_StateValid.j0 k true a0_0 a0_1 l0_2 l0_3 a0_4 a0_5))) = some r := by rw [if_pos rfl] at H; exact H
      clear H
      have H := H1
      clear H1
      replace H := Option.bind_eq_some_iff.mp H
      obtain ⟨t212, A60, H⟩ := H
      replace H : (if t212 = true then ((impl_SessionsValid.f k l0_3).bind fun t213 => (impl_StateValid.j0 k (!t213) a0_0 a0_1 l0_2 l0_3 a0_4 a0_5)) else (impl_StateValid.j0 k true a0_0 a0_1 l0_2 l0_3 a0_4 a0_5)) = some r := H
      have A6 := Aside0.mk A60
      clear A60
      by_cases c7 : t212 = true
      · subst c7
        have H1 : ((impl_SessionsValid.f k l0_3).bind fun t213 => (impl_StateValid.j0 k (!t213) a0_0 a0_1 l0_2 l0_3 a0_4 a0_5)) = some r := by rw [if_pos rfl] at H; exact H
        clear H
        have H := H1
        clear H1
        replace H := Option.bind_eq_some_iff.mp H
        obtain ⟨t213, A80, H⟩ := H
        replace H : (impl_StateValid.j0 k (!t213) a0_0 a0_1 l0_2 l0_3 a0_4 a0_5) = some r := H
        have A8 := Aside0.mk A80
        clear A80
        have H' := Aside0.mk H
        clear H
        have hcz9_0 : w3.cell? ⟨gb210, 0, none⟩ = some (.string a0_0) := (blk_cell BK210.out 0).trans rfl
        have hcz9_1 : w3.cell? ⟨gb210, 1, none⟩ = some (.string a0_1) := (blk_cell BK210.out 1).trans rfl
        have hcz9_2 : w3.cell? ⟨gb210, 2, none⟩ = some (.slice A0_2 l0_2.length c0_2) := (blk_cell BK210.out 2).trans rfl
        have hcz9_3 : w3.cell? ⟨gb210, 3, none⟩ = some (.slice A0_3 l0_3.length c0_3) := (blk_cell BK210.out 3).trans rfl
        have hcz9_4 : w3.cell? ⟨gb210, 4, none⟩ = some (.bool a0_4) := (blk_cell BK210.out 4).trans rfl
        have hcz9_5 : w3.cell? ⟨gb210, 5, none⟩ = some (.string a0_5) := (blk_cell BK210.out 5).trans rfl
        have hfz9_0 := blk_frozen BK210.out 0
        have hfz9_1 := blk_frozen BK210.out 1
        have hfz9_2 := blk_frozen BK210.out 2
        have hfz9_3 := blk_frozen BK210.out 3
        have hfz9_4 := blk_frozen BK210.out 4
        have hfz9_5 := blk_frozen BK210.out 5
        go_wp2_with (first | ((with_reducible refine gate_callee (f := 34) rfl ?_); refine goesL_ (some 10) rfl rfl Try.func34 (by kernel_rfl) rfl #[.agg #[.string a0_0, .string a0_1]] rfl (by (try simp only [List.map_toArray, List.map_cons, List.map_nil]); first | done | rfl | (simp only [List.length_drop, List.length_take]; rfl)) ?_; (with_reducible refine (impl_IntervalValid.calls k a0_0 a0_1 true _ A4.out).mono ?_); rintro e w10 ⟨rfl, hb⟩; refine ⟨_, rfl, ?_⟩; have n0_ := Aside0.mk (blk_below (g := gb210) (o := .cells #[.string a0_0, .string a0_1, .slice A0_2 l0_2.length c0_2, .slice A0_3 l0_3.length c0_3, .bool a0_4, .string a0_5] 49 (0, 0)) (by (with_reducible repeat (first | refine blk_drewN ?_ _ | refine blk_drew ?_ | refine blk_alloc ?_ _)); exact BK210.out) hb); have n1_ := Aside0.mk (below_step (by repeat (first | (with_reducible first | exact HB.out | apply below_alloc | apply pw_below_drewN | apply below_drew1 | refine below_set ?_ GE210.out) | exact HB.out)) hb); clear BK210; clear HB; have BK210 := n0_; have HB := n1_; clear n0_ n1_; (try clear hb); (try clear hb2); (try clear hk); (try clear hi); have hcz11_0 : w10.cell? ⟨gb210, 0, none⟩ = some (.string a0_0) := (blk_cell BK210.out 0).trans rfl; have hcz11_1 : w10.cell? ⟨gb210, 1, none⟩ = some (.string a0_1) := (blk_cell BK210.out 1).trans rfl; have hcz11_2 : w10.cell? ⟨gb210, 2, none⟩ = some (.slice A0_2 l0_2.length c0_2) := (blk_cell BK210.out 2).trans rfl; have hcz11_3 : w10.cell? ⟨gb210, 3, none⟩ = some (.slice A0_3 l0_3.length c0_3) := (blk_cell BK210.out 3).trans rfl; have hcz11_4 : w10.cell? ⟨gb210, 4, none⟩ = some (.bool a0_4) := (blk_cell BK210.out 4).trans rfl; have hcz11_5 : w10.cell? ⟨gb210, 5, none⟩ = some (.string a0_5) := (blk_cell BK210.out 5).trans rfl; have hfz11_0 := blk_frozen BK210.out 0; have hfz11_1 := blk_frozen BK210.out 1; have hfz11_2 := blk_frozen BK210.out 2; have hfz11_3 := blk_frozen BK210.out 3; have hfz11_4 := blk_frozen BK210.out 4; have hfz11_5 := blk_frozen BK210.out 5) | (go_at_call 58; (with_reducible refine (impl_PairsValid.calls k _ _ l0_2 true _ ?side1 ?side2 A6.out).mono ?_); (case side1 => repeat (first | exact (Kd.C_below HR0_2.out HB.out) | (with_reducible refine Kd.C_alloc ?_ _) | (with_reducible refine Kd.C_drewN ?_ _) | (with_reducible refine Kd.C_drew ?_))); (case side2 => exact HC0_2.out); rintro e w12 ⟨rfl, hb⟩; have n0_ := Aside0.mk (blk_below (g := gb210) (o := .cells #[.string a0_0, .string a0_1, .slice A0_2 l0_2.length c0_2, .slice A0_3 l0_3.length c0_3, .bool a0_4, .string a0_5] 49 (0, 0)) (by (with_reducible repeat (first | refine blk_drewN ?_ _ | refine blk_drew ?_ | refine blk_alloc ?_ _)); exact BK210.out) hb); have n1_ := Aside0.mk (below_step (by repeat (first | (with_reducible first | exact HB.out | apply below_alloc | apply pw_below_drewN | apply below_drew1 | refine below_set ?_ GE210.out) | exact HB.out)) hb); clear BK210; clear HB; have BK210 := n0_; have HB := n1_; clear n0_ n1_; (try clear hb); (try clear hb2); (try clear hk); (try clear hi); have hcz13_0 : w12.cell? ⟨gb210, 0, none⟩ = some (.string a0_0) := (blk_cell BK210.out 0).trans rfl; have hcz13_1 : w12.cell? ⟨gb210, 1, none⟩ = some (.string a0_1) := (blk_cell BK210.out 1).trans rfl; have hcz13_2 : w12.cell? ⟨gb210, 2, none⟩ = some (.slice A0_2 l0_2.length c0_2) := (blk_cell BK210.out 2).trans rfl; have hcz13_3 : w12.cell? ⟨gb210, 3, none⟩ = some (.slice A0_3 l0_3.length c0_3) := (blk_cell BK210.out 3).trans rfl; have hcz13_4 : w12.cell? ⟨gb210, 4, none⟩ = some (.bool a0_4) := (blk_cell BK210.out 4).trans rfl; have hcz13_5 : w12.cell? ⟨gb210, 5, none⟩ = some (.string a0_5) := (blk_cell BK210.out 5).trans rfl; have hfz13_0 := blk_frozen BK210.out 0; have hfz13_1 := blk_frozen BK210.out 1; have hfz13_2 := blk_frozen BK210.out 2; have hfz13_3 := blk_frozen BK210.out 3; have hfz13_4 := blk_frozen BK210.out 4; have hfz13_5 := blk_frozen BK210.out 5) | (go_at_call 59; (with_reducible refine (impl_SessionsValid.calls k _ _ l0_3 t213 _ ?side1 ?side2 A8.out).mono ?_); (case side1 => repeat (first | exact (Kd.C_below HR0_3.out HB.out) | (with_reducible refine Kd.C_alloc ?_ _) | (with_reducible refine Kd.C_drewN ?_ _) | (with_reducible refine Kd.C_drew ?_))); (case side2 => exact HC0_3.out); rintro e w14 ⟨rfl, hb⟩; have n0_ := Aside0.mk (blk_below (g := gb210) (o := .cells #[.string a0_0, .string a0_1, .slice A0_2 l0_2.length c0_2, .slice A0_3 l0_3.length c0_3, .bool a0_4, .string a0_5] 49 (0, 0)) (by (with_reducible repeat (first | refine blk_drewN ?_ _ | refine blk_drew ?_ | refine blk_alloc ?_ _)); exact BK210.out) hb); have n1_ := Aside0.mk (below_step (by repeat (first | (with_reducible first | exact HB.out | apply below_alloc | apply pw_below_drewN | apply below_drew1 | refine below_set ?_ GE210.out) | exact HB.out)) hb); clear BK210; clear HB; have BK210 := n0_; have HB := n1_; clear n0_ n1_; (try clear hb); (try clear hb2); (try clear hk); (try clear hi)))
        go_meet
        case rel => exact ⟨_, (!t213), (by first | rfl | (simp; done) | (simp [*]; done)), H', ⟨by first | omega | exact Nat.le_refl _⟩, ⟨by (with_reducible repeat (first | refine blk_drewN ?_ _ | refine blk_drew ?_ | refine blk_alloc ?_ _)); exact BK210.out⟩, ⟨by repeat (first | (with_reducible first | exact HB.out | apply below_alloc | apply pw_below_drewN | apply below_drew1 | refine below_set ?_ GE210.out) | exact HB.out)⟩⟩
      · replace c7 := Bool.eq_false_iff.mpr c7
        subst c7
        have H1 : (impl_StateValid.j0 k true a0_0 a0_1 l0_2 l0_3 a0_4 a0_5) = some r := by rw [if_neg (show ¬ (false = true) by decide)] at H; exact H
        clear H
        have H := H1
        clear H1
        have H' := Aside0.mk H
        clear H
        have hcz15_0 : w3.cell? ⟨gb210, 0, none⟩ = some (.string a0_0) := (blk_cell BK210.out 0).trans rfl
        have hcz15_1 : w3.cell? ⟨gb210, 1, none⟩ = some (.string a0_1) := (blk_cell BK210.out 1).trans rfl
        have hcz15_2 : w3.cell? ⟨gb210, 2, none⟩ = some (.slice A0_2 l0_2.length c0_2) := (blk_cell BK210.out 2).trans rfl
        have hcz15_3 : w3.cell? ⟨gb210, 3, none⟩ = some (.slice A0_3 l0_3.length c0_3) := (blk_cell BK210.out 3).trans rfl
        have hcz15_4 : w3.cell? ⟨gb210, 4, none⟩ = some (.bool a0_4) := (blk_cell BK210.out 4).trans rfl
        have hcz15_5 : w3.cell? ⟨gb210, 5, none⟩ = some (.string a0_5) := (blk_cell BK210.out 5).trans rfl
        have hfz15_0 := blk_frozen BK210.out 0
        have hfz15_1 := blk_frozen BK210.out 1
        have hfz15_2 := blk_frozen BK210.out 2
        have hfz15_3 := blk_frozen BK210.out 3
        have hfz15_4 := blk_frozen BK210.out 4
        have hfz15_5 := blk_frozen BK210.out 5
        go_wp2_with (first | ((with_reducible refine gate_callee (f := 34) rfl ?_); refine goesL_ (some 10) rfl rfl Try.func34 (by kernel_rfl) rfl #[.agg #[.string a0_0, .string a0_1]] rfl (by (try simp only [List.map_toArray, List.map_cons, List.map_nil]); first | done | rfl | (simp only [List.length_drop, List.length_take]; rfl)) ?_; (with_reducible refine (impl_IntervalValid.calls k a0_0 a0_1 true _ A4.out).mono ?_); rintro e w16 ⟨rfl, hb⟩; refine ⟨_, rfl, ?_⟩; have n0_ := Aside0.mk (blk_below (g := gb210) (o := .cells #[.string a0_0, .string a0_1, .slice A0_2 l0_2.length c0_2, .slice A0_3 l0_3.length c0_3, .bool a0_4, .string a0_5] 49 (0, 0)) (by (with_reducible repeat (first | refine blk_drewN ?_ _ | refine blk_drew ?_ | refine blk_alloc ?_ _)); exact BK210.out) hb); have n1_ := Aside0.mk (below_step (by repeat (first | (with_reducible first | exact HB.out | apply below_alloc | apply pw_below_drewN | apply below_drew1 | refine below_set ?_ GE210.out) | exact HB.out)) hb); clear BK210; clear HB; have BK210 := n0_; have HB := n1_; clear n0_ n1_; (try clear hb); (try clear hb2); (try clear hk); (try clear hi); have hcz17_0 : w16.cell? ⟨gb210, 0, none⟩ = some (.string a0_0) := (blk_cell BK210.out 0).trans rfl; have hcz17_1 : w16.cell? ⟨gb210, 1, none⟩ = some (.string a0_1) := (blk_cell BK210.out 1).trans rfl; have hcz17_2 : w16.cell? ⟨gb210, 2, none⟩ = some (.slice A0_2 l0_2.length c0_2) := (blk_cell BK210.out 2).trans rfl; have hcz17_3 : w16.cell? ⟨gb210, 3, none⟩ = some (.slice A0_3 l0_3.length c0_3) := (blk_cell BK210.out 3).trans rfl; have hcz17_4 : w16.cell? ⟨gb210, 4, none⟩ = some (.bool a0_4) := (blk_cell BK210.out 4).trans rfl; have hcz17_5 : w16.cell? ⟨gb210, 5, none⟩ = some (.string a0_5) := (blk_cell BK210.out 5).trans rfl; have hfz17_0 := blk_frozen BK210.out 0; have hfz17_1 := blk_frozen BK210.out 1; have hfz17_2 := blk_frozen BK210.out 2; have hfz17_3 := blk_frozen BK210.out 3; have hfz17_4 := blk_frozen BK210.out 4; have hfz17_5 := blk_frozen BK210.out 5) | (go_at_call 58; (with_reducible refine (impl_PairsValid.calls k _ _ l0_2 false _ ?side1 ?side2 A6.out).mono ?_); (case side1 => repeat (first | exact (Kd.C_below HR0_2.out HB.out) | (with_reducible refine Kd.C_alloc ?_ _) | (with_reducible refine Kd.C_drewN ?_ _) | (with_reducible refine Kd.C_drew ?_))); (case side2 => exact HC0_2.out); rintro e w18 ⟨rfl, hb⟩; have n0_ := Aside0.mk (blk_below (g := gb210) (o := .cells #[.string a0_0, .string a0_1, .slice A0_2 l0_2.length c0_2, .slice A0_3 l0_3.length c0_3, .bool a0_4, .string a0_5] 49 (0, 0)) (by (with_reducible repeat (first | refine blk_drewN ?_ _ | refine blk_drew ?_ | refine blk_alloc ?_ _)); exact BK210.out) hb); have n1_ := Aside0.mk (below_step (by repeat (first | (with_reducible first | exact HB.out | apply below_alloc | apply pw_below_drewN | apply below_drew1 | refine below_set ?_ GE210.out) | exact HB.out)) hb); clear BK210; clear HB; have BK210 := n0_; have HB := n1_; clear n0_ n1_; (try clear hb); (try clear hb2); (try clear hk); (try clear hi)))
        go_meet
        case rel => exact ⟨_, (true), (by first | rfl | (simp; done) | (simp [*]; done)), H', ⟨by first | omega | exact Nat.le_refl _⟩, ⟨by (with_reducible repeat (first | refine blk_drewN ?_ _ | refine blk_drew ?_ | refine blk_alloc ?_ _)); exact BK210.out⟩, ⟨by repeat (first | (with_reducible first | exact HB.out | apply below_alloc | apply pw_below_drewN | apply below_drew1 | refine below_set ?_ GE210.out) | exact HB.out)⟩⟩
    · replace c5 := Bool.eq_false_iff.mpr c5
      subst c5
      have H1 : (impl_StateValid.j0 k true a0_0 a0_1 l0_2 l0_3 a0_4 a0_5) = some r := by rw [if_neg (show ¬ (false = true) by decide)] at H; exact H
      clear H
      have H := H1
      clear H1
      have H' := Aside0.mk H
      clear H
      have hcz19_0 : w3.cell? ⟨gb210, 0, none⟩ = some (.string a0_0) := (blk_cell BK210.out 0).trans rfl
      have hcz19_1 : w3.cell? ⟨gb210, 1, none⟩ = some (.string a0_1) := (blk_cell BK210.out 1).trans rfl
      have hcz19_2 : w3.cell? ⟨gb210, 2, none⟩ = some (.slice A0_2 l0_2.length c0_2) := (blk_cell BK210.out 2).trans rfl
      have hcz19_3 : w3.cell? ⟨gb210, 3, none⟩ = some (.slice A0_3 l0_3.length c0_3) := (blk_cell BK210.out 3).trans rfl
      have hcz19_4 : w3.cell? ⟨gb210, 4, none⟩ = some (.bool a0_4) := (blk_cell BK210.out 4).trans rfl
      have hcz19_5 : w3.cell? ⟨gb210, 5, none⟩ = some (.string a0_5) := (blk_cell BK210.out 5).trans rfl
      have hfz19_0 := blk_frozen BK210.out 0
      have hfz19_1 := blk_frozen BK210.out 1
      have hfz19_2 := blk_frozen BK210.out 2
      have hfz19_3 := blk_frozen BK210.out 3
      have hfz19_4 := blk_frozen BK210.out 4
      have hfz19_5 := blk_frozen BK210.out 5
      go_wp2_with (first | ((with_reducible refine gate_callee (f := 34) rfl ?_); refine goesL_ (some 10) rfl rfl Try.func34 (by kernel_rfl) rfl #[.agg #[.string a0_0, .string a0_1]] rfl (by (try simp only [List.map_toArray, List.map_cons, List.map_nil]); first | done | rfl | (simp only [List.length_drop, List.length_take]; rfl)) ?_; (with_reducible refine (impl_IntervalValid.calls k a0_0 a0_1 false _ A4.out).mono ?_); rintro e w20 ⟨rfl, hb⟩; refine ⟨_, rfl, ?_⟩; have n0_ := Aside0.mk (blk_below (g := gb210) (o := .cells #[.string a0_0, .string a0_1, .slice A0_2 l0_2.length c0_2, .slice A0_3 l0_3.length c0_3, .bool a0_4, .string a0_5] 49 (0, 0)) (by (with_reducible repeat (first | refine blk_drewN ?_ _ | refine blk_drew ?_ | refine blk_alloc ?_ _)); exact BK210.out) hb); have n1_ := Aside0.mk (below_step (by repeat (first | (with_reducible first | exact HB.out | apply below_alloc | apply pw_below_drewN | apply below_drew1 | refine below_set ?_ GE210.out) | exact HB.out)) hb); clear BK210; clear HB; have BK210 := n0_; have HB := n1_; clear n0_ n1_; (try clear hb); (try clear hb2); (try clear hk); (try clear hi)))
      go_meet
      case rel => exact ⟨_, (true), (by first | rfl | (simp; done) | (simp [*]; done)), H', ⟨by first | omega | exact Nat.le_refl _⟩, ⟨by (with_reducible repeat (first | refine blk_drewN ?_ _ | refine blk_drew ?_ | refine blk_alloc ?_ _)); exact BK210.out⟩, ⟨by repeat (first | (with_reducible first | exact HB.out | apply below_alloc | apply pw_below_drewN | apply below_drew1 | refine below_set ?_ GE210.out) | exact HB.out)⟩⟩
  case rest =>
    clear HC2
    try clear p2
    try clear c3
    try clear c5
    try clear c7
    try clear hcz11_0
    try clear hcz11_1
    try clear hcz11_2
    try clear hcz11_3
    try clear hcz11_4
    try clear hcz11_5
    try clear hcz13_0
    try clear hcz13_1
    try clear hcz13_2
    try clear hcz13_3
    try clear hcz13_4
    try clear hcz13_5
    try clear hcz15_0
    try clear hcz15_1
    try clear hcz15_2
    try clear hcz15_3
    try clear hcz15_4
    try clear hcz15_5
    try clear hcz17_0
    try clear hcz17_1
    try clear hcz17_2
    try clear hcz17_3
    try clear hcz17_4
    try clear hcz17_5
    try clear hcz19_0
    try clear hcz19_1
    try clear hcz19_2
    try clear hcz19_3
    try clear hcz19_4
    try clear hcz19_5
    try clear hcz9_0
    try clear hcz9_1
    try clear hcz9_2
    try clear hcz9_3
    try clear hcz9_4
    try clear hcz9_5
    try clear hfz11_0
    try clear hfz11_1
    try clear hfz11_2
    try clear hfz11_3
    try clear hfz11_4
    try clear hfz11_5
    try clear hfz13_0
    try clear hfz13_1
    try clear hfz13_2
    try clear hfz13_3
    try clear hfz13_4
    try clear hfz13_5
    try clear hfz15_0
    try clear hfz15_1
    try clear hfz15_2
    try clear hfz15_3
    try clear hfz15_4
    try clear hfz15_5
    try clear hfz17_0
    try clear hfz17_1
    try clear hfz17_2
    try clear hfz17_3
    try clear hfz17_4
    try clear hfz17_5
    try clear hfz19_0
    try clear hfz19_1
    try clear hfz19_2
    try clear hfz19_3
    try clear hfz19_4
    try clear hfz19_5
    try clear hfz9_0
    try clear hfz9_1
    try clear hfz9_2
    try clear hfz9_3
    try clear hfz9_4
    try clear hfz9_5
    obtain ⟨kq, x23_1, rfl, HA, HJ1, BK210, HB⟩ := hcut
    cases kq with
    | zero => exact absurd HA.out (by simp [impl_StateValid.j0])
    | succ kj1 =>
      have H := HA.out
      clear HA
      simp only [impl_StateValid.j0] at H
      by_cases c21 : x23_1 = true
      · subst c21
        have H1 : (some false) = some r := by rw [if_pos rfl] at H; exact H
        clear H
        have H := H1
        clear H1
        obtain rfl := Option.some.inj H
        go_wp2
        go_ret
        exact ⟨by first | rfl | (simp [errW_none, errW_some] <;> rfl) | (simp [*, errW_none, errW_some] <;> rfl), by repeat (first | (with_reducible first | exact HB.out | apply below_alloc | apply pw_below_drewN | apply below_drew1 | refine below_set ?_ GE210.out) | exact HB.out)⟩
      · replace c21 := Bool.eq_false_iff.mpr c21
        subst c21
        have H1 : (impl_StateValid.l0 kj1 l0_2 (l0_2.length : Int) 0 a0_0 a0_1 l0_2 l0_3 a0_4 a0_5) = some r := by rw [if_neg (show ¬ (false = true) by decide)] at H; exact H
        clear H
        have H := H1
        clear H1
        have H' := Aside0.mk H
        clear H
        have hcz22_0 : wc.cell? ⟨gb210, 0, none⟩ = some (.string a0_0) := (blk_cell BK210.out 0).trans rfl
        have hcz22_1 : wc.cell? ⟨gb210, 1, none⟩ = some (.string a0_1) := (blk_cell BK210.out 1).trans rfl
        have hcz22_2 : wc.cell? ⟨gb210, 2, none⟩ = some (.slice A0_2 l0_2.length c0_2) := (blk_cell BK210.out 2).trans rfl
        have hcz22_3 : wc.cell? ⟨gb210, 3, none⟩ = some (.slice A0_3 l0_3.length c0_3) := (blk_cell BK210.out 3).trans rfl
        have hcz22_4 : wc.cell? ⟨gb210, 4, none⟩ = some (.bool a0_4) := (blk_cell BK210.out 4).trans rfl
        have hcz22_5 : wc.cell? ⟨gb210, 5, none⟩ = some (.string a0_5) := (blk_cell BK210.out 5).trans rfl
        have hfz22_0 := blk_frozen BK210.out 0
        have hfz22_1 := blk_frozen BK210.out 1
        have hfz22_2 := blk_frozen BK210.out 2
        have hfz22_3 := blk_frozen BK210.out 3
        have hfz22_4 := blk_frozen BK210.out 4
        have hfz22_5 := blk_frozen BK210.out 5
        go_wp2
        go_loopg [27] kj1 (fun kq v27 w' => ∃ (x27_2 : Int), v27 = .int .i64 x27_2 ∧ Aside0 (impl_StateValid.l0 kq l0_2 (l0_2.length : Int) x27_2 a0_0 a0_1 l0_2 l0_3 a0_4 a0_5 = some r) ∧ Aside0 (kq ≤ kj1) ∧ Aside0 (w'.heap[gb210]? = some (.cells #[.string a0_0, .string a0_1, (.slice A0_2 l0_2.length c0_2), (.slice A0_3 l0_3.length c0_3), .bool a0_4, .string a0_5] 49 (0, 0))) ∧ Aside0 (Below w.heap.size w w'))
        case atStart => exact ⟨(0), (by first | rfl | (simp; done) | (simp [*]; done)), H', ⟨Nat.le_refl _⟩, ⟨by (with_reducible repeat (first | refine blk_drewN ?_ _ | refine blk_drew ?_ | refine blk_alloc ?_ _)); exact BK210.out⟩, ⟨by repeat (first | (with_reducible first | exact HB.out | apply below_alloc | apply pw_below_drewN | apply below_drew1 | refine below_set ?_ GE210.out) | exact HB.out)⟩⟩
        case round =>
          clear H'
          try clear c2
          try clear p2
          try clear c3
          try clear c5
          try clear c7
          try clear c21
          try clear hcz11_0
          try clear hcz11_1
          try clear hcz11_2
          try clear hcz11_3
          try clear hcz11_4
          try clear hcz11_5
          try clear hcz13_0
          try clear hcz13_1
          try clear hcz13_2
          try clear hcz13_3
          try clear hcz13_4
          try clear hcz13_5
          try clear hcz15_0
          try clear hcz15_1
          try clear hcz15_2
          try clear hcz15_3
          try clear hcz15_4
          try clear hcz15_5
          try clear hcz17_0
          try clear hcz17_1
          try clear hcz17_2
          try clear hcz17_3
          try clear hcz17_4
          try clear hcz17_5
          try clear hcz19_0
          try clear hcz19_1
          try clear hcz19_2
          try clear hcz19_3
          try clear hcz19_4
          try clear hcz19_5
          try clear hcz22_0
          try clear hcz22_1
          try clear hcz22_2
          try clear hcz22_3
          try clear hcz22_4
          try clear hcz22_5
          try clear hcz9_0
          try clear hcz9_1
          try clear hcz9_2
          try clear hcz9_3
          try clear hcz9_4
          try clear hcz9_5
          try clear hfz11_0
          try clear hfz11_1
          try clear hfz11_2
          try clear hfz11_3
          try clear hfz11_4
          try clear hfz11_5
          try clear hfz13_0
          try clear hfz13_1
          try clear hfz13_2
          try clear hfz13_3
          try clear hfz13_4
          try clear hfz13_5
          try clear hfz15_0
          try clear hfz15_1
          try clear hfz15_2
          try clear hfz15_3
          try clear hfz15_4
          try clear hfz15_5
          try clear hfz17_0
          try clear hfz17_1
          try clear hfz17_2
          try clear hfz17_3
          try clear hfz17_4
          try clear hfz17_5
          try clear hfz19_0
          try clear hfz19_1
          try clear hfz19_2
          try clear hfz19_3
          try clear hfz19_4
          try clear hfz19_5
          try clear hfz22_0
          try clear hfz22_1
          try clear hfz22_2
          try clear hfz22_3
          try clear hfz22_4
          try clear hfz22_5
          try clear hfz9_0
          try clear hfz9_1
          try clear hfz9_2
          try clear hfz9_3
          try clear hfz9_4
          try clear hfz9_5
          try clear p2
          obtain ⟨x27_2, rfl, HA, HK2, BK210, HB⟩ := hrel
          cases gk with
          | zero => exact absurd HA.out (by simp [impl_StateValid.l0])
          | succ k2 =>
            have H := HA.out
            clear HA
            simp only [impl_StateValid.l0] at H
            by_cases c23 : x27_2 < (l0_2.length : Int)
            · rw [if_pos c23] at H
              have c23b0 : decide (x27_2 < (l0_2.length : Int)) = true := decide_eq_true c23
              clear c23
              by_cases c24 : 0 ≤ x27_2
              · rw [if_pos c24] at H
                have c24b0 : decide (0 ≤ x27_2) = true := decide_eq_true c24
                clear c24
                by_cases c25 : x27_2 < (l0_2.length : Int)
                · rw [if_pos c25] at H
                  have c25b0 : decide (x27_2 < (l0_2.length : Int)) = true := decide_eq_true c25
                  clear c25
                  replace H := Option.bind_eq_some_iff.mp H
                  obtain ⟨t216, A260, H⟩ := H
                  replace H : (if t216 = true then (impl_StateValid.l0 k2 l0_2 (l0_2.length : Int) (wrap64 (x27_2 + 1)) a0_0 a0_1 l0_2 l0_3 a0_4 a0_5) else (some false)) = some r := H
                  have A26 := Aside0.mk A260
                  clear A260
                  by_cases c27 : t216 = true
                  · subst c27
                    have H1 : (impl_StateValid.l0 k2 l0_2 (l0_2.length : Int) (wrap64 (x27_2 + 1)) a0_0 a0_1 l0_2 l0_3 a0_4 a0_5) = some r := by rw [if_pos rfl] at H; exact H
                    clear H
                    have H := H1
                    clear H1
                    have H' := Aside0.mk H
                    clear H
                    have p214 : 0 ≤ (x27_2 : Int) := of_decide_eq_true (by first | (with_reducible assumption) | assumption)
                    have q214 : x27_2 < (l0_2.length : Int) := of_decide_eq_true (by first | (with_reducible assumption) | assumption)
                    obtain ⟨ad214, e214, hx214_0, hx214_1⟩ := at_T76 HR0_2.out x27_2 p214 q214
                    cases e214
                    replace hx214_0 := (HB.out.cell (World.block_lt_of_cell? w _ hx214_0)).trans hx214_0
                    replace hx214_1 := (HB.out.cell (World.block_lt_of_cell? w _ hx214_1)).trans hx214_1
                    replace p214 := eq_true p214
                    replace q214 := eq_true q214
                    go_wp2_with (first | ((with_reducible refine gate_dst (N := 4) rfl ?_); refine box_event ?hg (N := 4) ?hd (cs := #[.string (⟨#[]⟩ : ByteArray), .int .i64 0]) (t := 76) ?hr ?_; (case hd => rfl); (case hg => rfl); (case hr => first | (go_simp; done) | (go_simp; rfl)); intro gb215 hg w28 hbox hb; have n0_ := Aside0.mk (blk_below (g := gb210) (o := .cells #[.string a0_0, .string a0_1, .slice (some ad214) l0_2.length c0_2, .slice A0_3 l0_3.length c0_3, .bool a0_4, .string a0_5] 49 (0, 0)) (by (with_reducible repeat (first | refine blk_drewN ?_ _ | refine blk_drew ?_ | refine blk_alloc ?_ _)); exact BK210.out) hb); have n1_ := Aside0.mk (below_step (by repeat (first | (with_reducible first | exact HB.out | apply below_alloc | apply pw_below_drewN | apply below_drew1 | refine below_set ?_ GE210.out) | exact HB.out)) hb); have n2_ := Aside0.mk (hbox); have n3_ := Aside0.mk ((by rw [hg]; exact (below_size (by repeat (first | (with_reducible first | exact HB.out | apply below_alloc | apply pw_below_drewN | apply below_drew1 | refine below_set ?_ GE210.out) | exact HB.out))) : w.heap.size ≤ gb215)); have n4_ := Aside0.mk ((by rw [hg]; exact (below_size (by repeat (first | (with_reducible first | exact HB.out | apply below_alloc | apply pw_below_drewN | apply below_drew1 | refine below_set ?_ GE210.out) | exact HB.out))) : w.heap.size ≤ gb215)); have n5_ := Aside0.mk ((by rw [hg]; exact Nat.ne_of_lt (blk_lt (g := gb210) (o := .cells #[.string a0_0, .string a0_1, .slice (some ad214) l0_2.length c0_2, .slice A0_3 l0_3.length c0_3, .bool a0_4, .string a0_5] 49 (0, 0)) (by (with_reducible repeat (first | refine blk_drewN ?_ _ | refine blk_drew ?_ | refine blk_alloc ?_ _)); exact BK210.out)) : gb210 ≠ gb215)); have n6_ := Aside0.mk ((by rw [hg]; exact Nat.ne_of_gt (blk_lt (g := gb210) (o := .cells #[.string a0_0, .string a0_1, .slice (some ad214) l0_2.length c0_2, .slice A0_3 l0_3.length c0_3, .bool a0_4, .string a0_5] 49 (0, 0)) (by (with_reducible repeat (first | refine blk_drewN ?_ _ | refine blk_drew ?_ | refine blk_alloc ?_ _)); exact BK210.out)) : gb215 ≠ gb210)); clear BK210; clear HB; have BK210 := n0_; have HB := n1_; have BK215 := n2_; have GW215 := n3_; have GE215 := n4_; have NB210_215 := n5_; have NB215_210 := n6_; clear n0_ n1_ n2_ n3_ n4_ n5_ n6_; clear hb hbox hg; have hnb29 := NB215_210.out; have hnc29 := NB210_215.out; have hcz30_0 : w28.cell? ⟨gb215, 0, none⟩ = some (.string (⟨#[]⟩ : ByteArray)) := (blk_cell BK215.out 0).trans rfl; have hcz30_1 : w28.cell? ⟨gb215, 1, none⟩ = some (.int .i64 0) := (blk_cell BK215.out 1).trans rfl; have hfz30_0 := blk_frozen BK215.out 0; have hfz30_1 := blk_frozen BK215.out 1; have hcz31_0 : w28.cell? ⟨gb210, 0, none⟩ = some (.string a0_0) := (blk_cell BK210.out 0).trans rfl; have hcz31_1 : w28.cell? ⟨gb210, 1, none⟩ = some (.string a0_1) := (blk_cell BK210.out 1).trans rfl; have hcz31_2 : w28.cell? ⟨gb210, 2, none⟩ = some (.slice (some ad214) l0_2.length c0_2) := (blk_cell BK210.out 2).trans rfl; have hcz31_3 : w28.cell? ⟨gb210, 3, none⟩ = some (.slice A0_3 l0_3.length c0_3) := (blk_cell BK210.out 3).trans rfl; have hcz31_4 : w28.cell? ⟨gb210, 4, none⟩ = some (.bool a0_4) := (blk_cell BK210.out 4).trans rfl; have hcz31_5 : w28.cell? ⟨gb210, 5, none⟩ = some (.string a0_5) := (blk_cell BK210.out 5).trans rfl; have hfz31_0 := blk_frozen BK210.out 0; have hfz31_1 := blk_frozen BK210.out 1; have hfz31_2 := blk_frozen BK210.out 2; have hfz31_3 := blk_frozen BK210.out 3; have hfz31_4 := blk_frozen BK210.out 4; have hfz31_5 := blk_frozen BK210.out 5) | ((with_reducible refine gate_callee (f := 60) rfl ?_); refine goesL_ (some 35) rfl rfl Try.func60 (by kernel_rfl) rfl #[.agg #[.string a0_0, .string a0_1], .string ((rd_T76 l0_2 x27_2).f0)] rfl (by (try simp only [List.map_toArray, List.map_cons, List.map_nil]); first | done | rfl | (simp only [List.length_drop, List.length_take]; rfl)) ?_; (with_reducible refine (impl_inside.calls a0_0 a0_1 ((rd_T76 l0_2 x27_2).f0) true _ A26.out).mono ?_); rintro e w32 ⟨rfl, hb⟩; refine ⟨_, rfl, ?_⟩; have n0_ := Aside0.mk (blk_below (g := gb210) (o := .cells #[.string a0_0, .string a0_1, .slice (some ad214) l0_2.length c0_2, .slice A0_3 l0_3.length c0_3, .bool a0_4, .string a0_5] 49 (0, 0)) (by (with_reducible repeat (first | refine blk_drewN ?_ _ | refine blk_drew ?_ | refine blk_alloc ?_ _)); refine blk_far ?_ NB210_215.out _; (with_reducible repeat (first | refine blk_drewN ?_ _ | refine blk_drew ?_ | refine blk_alloc ?_ _)); refine blk_far ?_ NB210_215.out _; (with_reducible repeat (first | refine blk_drewN ?_ _ | refine blk_drew ?_ | refine blk_alloc ?_ _)); exact BK210.out) hb); have n1_ := Aside0.mk (blk_below (g := gb215) (o := .cells #[.string ((rd_T76 l0_2 x27_2).f0), .int .i64 ((rd_T76 l0_2 x27_2).f1)] 76 (0, 0)) (by (with_reducible repeat (first | refine blk_drewN ?_ _ | refine blk_drew ?_ | refine blk_alloc ?_ _)); refine blk_put (cs := #[.string ((rd_T76 l0_2 x27_2).f0), .int .i64 0]) ?_ 1 _ rfl; (with_reducible repeat (first | refine blk_drewN ?_ _ | refine blk_drew ?_ | refine blk_alloc ?_ _)); refine blk_put (cs := #[.string (⟨#[]⟩ : ByteArray), .int .i64 0]) ?_ 0 _ rfl; (with_reducible repeat (first | refine blk_drewN ?_ _ | refine blk_drew ?_ | refine blk_alloc ?_ _)); exact BK215.out) hb); have n2_ := Aside0.mk (below_step (by repeat (first | (with_reducible first | exact HB.out | apply below_alloc | apply pw_below_drewN | apply below_drew1 | refine below_set ?_ GE210.out | refine below_set ?_ GE215.out) | exact HB.out)) hb); clear BK210; clear BK215; clear HB; have BK210 := n0_; have BK215 := n1_; have HB := n2_; clear n0_ n1_ n2_; (try clear hb); (try clear hb2); (try clear hk); (try clear hi)))
                    go_roundg k2
                    case measure => have := HJ1.out; have := HK2.out; omega
                    case rel => exact ⟨(wrap64 (x27_2 + 1)), (by first | rfl | (simp; done) | (simp [*]; done)), H', ⟨by have := HJ1.out; have := HK2.out; omega⟩, ⟨by (with_reducible repeat (first | refine blk_drewN ?_ _ | refine blk_drew ?_ | refine blk_alloc ?_ _)); exact BK210.out⟩, ⟨by repeat (first | (with_reducible first | exact HB.out | apply below_alloc | apply pw_below_drewN | apply below_drew1 | refine below_set ?_ GE210.out | refine below_set ?_ GE215.out) | exact HB.out)⟩⟩
                  · replace c27 := Bool.eq_false_iff.mpr c27
                    subst c27
                    have H1 : (some false) = some r := by rw [if_neg (show ¬ (false = true) by decide)] at H; exact H
                    clear H
                    have H := H1
                    clear H1
                    obtain rfl := Option.some.inj H
                    have p214 : 0 ≤ (x27_2 : Int) := of_decide_eq_true (by first | (with_reducible assumption) | assumption)
                    have q214 : x27_2 < (l0_2.length : Int) := of_decide_eq_true (by first | (with_reducible assumption) | assumption)
                    obtain ⟨ad214, e214, hx214_0, hx214_1⟩ := at_T76 HR0_2.out x27_2 p214 q214
                    cases e214
                    replace hx214_0 := (HB.out.cell (World.block_lt_of_cell? w _ hx214_0)).trans hx214_0
                    replace hx214_1 := (HB.out.cell (World.block_lt_of_cell? w _ hx214_1)).trans hx214_1
                    replace p214 := eq_true p214
                    replace q214 := eq_true q214
                    go_wp2_with (first | ((with_reducible refine gate_dst (N := 4) rfl ?_); refine box_event ?hg (N := 4) ?hd (cs := #[.string (⟨#[]⟩ : ByteArray), .int .i64 0]) (t := 76) ?hr ?_; (case hd => rfl); (case hg => rfl); (case hr => first | (go_simp; done) | (go_simp; rfl)); intro gb215 hg w33 hbox hb; have n0_ := Aside0.mk (blk_below (g := gb210) (o := .cells #[.string a0_0, .string a0_1, .slice (some ad214) l0_2.length c0_2, .slice A0_3 l0_3.length c0_3, .bool a0_4, .string a0_5] 49 (0, 0)) (by (with_reducible repeat (first | refine blk_drewN ?_ _ | refine blk_drew ?_ | refine blk_alloc ?_ _)); exact BK210.out) hb); have n1_ := Aside0.mk (below_step (by repeat (first | (with_reducible first | exact HB.out | apply below_alloc | apply pw_below_drewN | apply below_drew1 | refine below_set ?_ GE210.out) | exact HB.out)) hb); have n2_ := Aside0.mk (hbox); have n3_ := Aside0.mk ((by rw [hg]; exact (below_size (by repeat (first | (with_reducible first | exact HB.out | apply below_alloc | apply pw_below_drewN | apply below_drew1 | refine below_set ?_ GE210.out) | exact HB.out))) : w.heap.size ≤ gb215)); have n4_ := Aside0.mk ((by rw [hg]; exact (below_size (by repeat (first | (with_reducible first | exact HB.out | apply below_alloc | apply pw_below_drewN | apply below_drew1 | refine below_set ?_ GE210.out) | exact HB.out))) : w.heap.size ≤ gb215)); have n5_ := Aside0.mk ((by rw [hg]; exact Nat.ne_of_lt (blk_lt (g := gb210) (o := .cells #[.string a0_0, .string a0_1, .slice (some ad214) l0_2.length c0_2, .slice A0_3 l0_3.length c0_3, .bool a0_4, .string a0_5] 49 (0, 0)) (by (with_reducible repeat (first | refine blk_drewN ?_ _ | refine blk_drew ?_ | refine blk_alloc ?_ _)); exact BK210.out)) : gb210 ≠ gb215)); have n6_ := Aside0.mk ((by rw [hg]; exact Nat.ne_of_gt (blk_lt (g := gb210) (o := .cells #[.string a0_0, .string a0_1, .slice (some ad214) l0_2.length c0_2, .slice A0_3 l0_3.length c0_3, .bool a0_4, .string a0_5] 49 (0, 0)) (by (with_reducible repeat (first | refine blk_drewN ?_ _ | refine blk_drew ?_ | refine blk_alloc ?_ _)); exact BK210.out)) : gb215 ≠ gb210)); clear BK210; clear HB; have BK210 := n0_; have HB := n1_; have BK215 := n2_; have GW215 := n3_; have GE215 := n4_; have NB210_215 := n5_; have NB215_210 := n6_; clear n0_ n1_ n2_ n3_ n4_ n5_ n6_; clear hb hbox hg; have hnb34 := NB215_210.out; have hnc34 := NB210_215.out; have hcz35_0 : w33.cell? ⟨gb215, 0, none⟩ = some (.string (⟨#[]⟩ : ByteArray)) := (blk_cell BK215.out 0).trans rfl; have hcz35_1 : w33.cell? ⟨gb215, 1, none⟩ = some (.int .i64 0) := (blk_cell BK215.out 1).trans rfl; have hfz35_0 := blk_frozen BK215.out 0; have hfz35_1 := blk_frozen BK215.out 1; have hcz36_0 : w33.cell? ⟨gb210, 0, none⟩ = some (.string a0_0) := (blk_cell BK210.out 0).trans rfl; have hcz36_1 : w33.cell? ⟨gb210, 1, none⟩ = some (.string a0_1) := (blk_cell BK210.out 1).trans rfl; have hcz36_2 : w33.cell? ⟨gb210, 2, none⟩ = some (.slice (some ad214) l0_2.length c0_2) := (blk_cell BK210.out 2).trans rfl; have hcz36_3 : w33.cell? ⟨gb210, 3, none⟩ = some (.slice A0_3 l0_3.length c0_3) := (blk_cell BK210.out 3).trans rfl; have hcz36_4 : w33.cell? ⟨gb210, 4, none⟩ = some (.bool a0_4) := (blk_cell BK210.out 4).trans rfl; have hcz36_5 : w33.cell? ⟨gb210, 5, none⟩ = some (.string a0_5) := (blk_cell BK210.out 5).trans rfl; have hfz36_0 := blk_frozen BK210.out 0; have hfz36_1 := blk_frozen BK210.out 1; have hfz36_2 := blk_frozen BK210.out 2; have hfz36_3 := blk_frozen BK210.out 3; have hfz36_4 := blk_frozen BK210.out 4; have hfz36_5 := blk_frozen BK210.out 5) | ((with_reducible refine gate_callee (f := 60) rfl ?_); refine goesL_ (some 35) rfl rfl Try.func60 (by kernel_rfl) rfl #[.agg #[.string a0_0, .string a0_1], .string ((rd_T76 l0_2 x27_2).f0)] rfl (by (try simp only [List.map_toArray, List.map_cons, List.map_nil]); first | done | rfl | (simp only [List.length_drop, List.length_take]; rfl)) ?_; (with_reducible refine (impl_inside.calls a0_0 a0_1 ((rd_T76 l0_2 x27_2).f0) false _ A26.out).mono ?_); rintro e w37 ⟨rfl, hb⟩; refine ⟨_, rfl, ?_⟩; have n0_ := Aside0.mk (blk_below (g := gb210) (o := .cells #[.string a0_0, .string a0_1, .slice (some ad214) l0_2.length c0_2, .slice A0_3 l0_3.length c0_3, .bool a0_4, .string a0_5] 49 (0, 0)) (by (with_reducible repeat (first | refine blk_drewN ?_ _ | refine blk_drew ?_ | refine blk_alloc ?_ _)); refine blk_far ?_ NB210_215.out _; (with_reducible repeat (first | refine blk_drewN ?_ _ | refine blk_drew ?_ | refine blk_alloc ?_ _)); refine blk_far ?_ NB210_215.out _; (with_reducible repeat (first | refine blk_drewN ?_ _ | refine blk_drew ?_ | refine blk_alloc ?_ _)); exact BK210.out) hb); have n1_ := Aside0.mk (blk_below (g := gb215) (o := .cells #[.string ((rd_T76 l0_2 x27_2).f0), .int .i64 ((rd_T76 l0_2 x27_2).f1)] 76 (0, 0)) (by (with_reducible repeat (first | refine blk_drewN ?_ _ | refine blk_drew ?_ | refine blk_alloc ?_ _)); refine blk_put (cs := #[.string ((rd_T76 l0_2 x27_2).f0), .int .i64 0]) ?_ 1 _ rfl; (with_reducible repeat (first | refine blk_drewN ?_ _ | refine blk_drew ?_ | refine blk_alloc ?_ _)); refine blk_put (cs := #[.string (⟨#[]⟩ : ByteArray), .int .i64 0]) ?_ 0 _ rfl; (with_reducible repeat (first | refine blk_drewN ?_ _ | refine blk_drew ?_ | refine blk_alloc ?_ _)); exact BK215.out) hb); have n2_ := Aside0.mk (below_step (by repeat (first | (with_reducible first | exact HB.out | apply below_alloc | apply pw_below_drewN | apply below_drew1 | refine below_set ?_ GE210.out | refine below_set ?_ GE215.out) | exact HB.out)) hb); clear BK210; clear BK215; clear HB; have BK210 := n0_; have BK215 := n1_; have HB := n2_; clear n0_ n1_ n2_; (try clear hb); (try clear hb2); (try clear hk); (try clear hi)))
                    go_ret
                    exact ⟨by first | rfl | (simp [errW_none, errW_some] <;> rfl) | (simp [*, errW_none, errW_some] <;> rfl), by repeat (first | (with_reducible first | exact HB.out | apply below_alloc | apply pw_below_drewN | apply below_drew1 | refine below_set ?_ GE210.out | refine below_set ?_ GE215.out) | exact HB.out)⟩
                · rw [if_neg c25] at H
                  exact absurd H (by simp)
              · rw [if_neg c24] at H
                exact absurd H (by simp)
            · rw [if_neg c23] at H
              have c23b0 : decide (x27_2 < (l0_2.length : Int)) = false := decide_eq_false c23
              clear c23
              by_cases c38 : a0_5.toList = ([] : List UInt8)
              · rw [if_pos c38] at H
                have c38b0 : (a0_5.toList == ([] : List UInt8)) = true := beq_iff_eq.mpr c38
                have c38b1 : (a0_5.toList != ([] : List UInt8)) = false := bne_eq_false_iff_eq.mpr c38
                clear c38
                obtain rfl := Option.some.inj H
                have hcz39_0 : wr.cell? ⟨gb210, 0, none⟩ = some (.string a0_0) := (blk_cell BK210.out 0).trans rfl
                have hcz39_1 : wr.cell? ⟨gb210, 1, none⟩ = some (.string a0_1) := (blk_cell BK210.out 1).trans rfl
                have hcz39_2 : wr.cell? ⟨gb210, 2, none⟩ = some (.slice A0_2 l0_2.length c0_2) := (blk_cell BK210.out 2).trans rfl
                have hcz39_3 : wr.cell? ⟨gb210, 3, none⟩ = some (.slice A0_3 l0_3.length c0_3) := (blk_cell BK210.out 3).trans rfl
                have hcz39_4 : wr.cell? ⟨gb210, 4, none⟩ = some (.bool a0_4) := (blk_cell BK210.out 4).trans rfl
                have hcz39_5 : wr.cell? ⟨gb210, 5, none⟩ = some (.string a0_5) := (blk_cell BK210.out 5).trans rfl
                have hfz39_0 := blk_frozen BK210.out 0
                have hfz39_1 := blk_frozen BK210.out 1
                have hfz39_2 := blk_frozen BK210.out 2
                have hfz39_3 := blk_frozen BK210.out 3
                have hfz39_4 := blk_frozen BK210.out 4
                have hfz39_5 := blk_frozen BK210.out 5
                go_wp2
                go_ret
                exact ⟨by first | rfl | (simp [errW_none, errW_some] <;> rfl) | (simp [*, errW_none, errW_some] <;> rfl), by repeat (first | (with_reducible first | exact HB.out | apply below_alloc | apply pw_below_drewN | apply below_drew1 | refine below_set ?_ GE210.out) | exact HB.out)⟩
              · rw [if_neg c38] at H
                have c38b0 : (a0_5.toList == ([] : List UInt8)) = false := beq_eq_false_iff_ne.mpr c38
                have c38b1 : (a0_5.toList != ([] : List UInt8)) = true := bne_iff_ne.mpr c38
                replace H := Option.bind_eq_some_iff.mp H
                obtain ⟨⟨t217, t218, t219, t220, t221⟩, A400, H⟩ := H
                replace H : (if a0_4 = true then (some t221) else (some false)) = some r := H
                have A40 := Aside0.mk A400
                clear A400
                by_cases c41 : a0_4 = true
                · subst c41
                  have H1 : (some t221) = some r := by rw [if_pos rfl] at H; exact H
                  clear H
                  have H := H1
                  clear H1
                  obtain rfl := Option.some.inj H
                  have hcz42_0 : wr.cell? ⟨gb210, 0, none⟩ = some (.string a0_0) := (blk_cell BK210.out 0).trans rfl
                  have hcz42_1 : wr.cell? ⟨gb210, 1, none⟩ = some (.string a0_1) := (blk_cell BK210.out 1).trans rfl
                  have hcz42_2 : wr.cell? ⟨gb210, 2, none⟩ = some (.slice A0_2 l0_2.length c0_2) := (blk_cell BK210.out 2).trans rfl
                  have hcz42_3 : wr.cell? ⟨gb210, 3, none⟩ = some (.slice A0_3 l0_3.length c0_3) := (blk_cell BK210.out 3).trans rfl
                  have hcz42_4 : wr.cell? ⟨gb210, 4, none⟩ = some (.bool true) := (blk_cell BK210.out 4).trans rfl
                  have hcz42_5 : wr.cell? ⟨gb210, 5, none⟩ = some (.string a0_5) := (blk_cell BK210.out 5).trans rfl
                  have hfz42_0 := blk_frozen BK210.out 0
                  have hfz42_1 := blk_frozen BK210.out 1
                  have hfz42_2 := blk_frozen BK210.out 2
                  have hfz42_3 := blk_frozen BK210.out 3
                  have hfz42_4 := blk_frozen BK210.out 4
                  have hfz42_5 := blk_frozen BK210.out 5
                  go_wp2_with (first | ((with_reducible refine gate_callee (f := 61) rfl ?_); refine goesL_ (some 46) rfl rfl Try.func61 (by kernel_rfl) rfl #[.agg #[.string a0_0, .string a0_1], .string a0_5] rfl (by (try simp only [List.map_toArray, List.map_cons, List.map_nil]); first | done | rfl | (simp only [List.length_drop, List.length_take]; rfl)) ?_; (with_reducible refine (impl_IntervalCut.calls k2 a0_0 a0_1 a0_5 t217 t218 t219 t220 t221 _ A40.out).mono ?_); rintro e w43 ⟨rfl, hb⟩; refine ⟨_, rfl, ?_⟩; have n0_ := Aside0.mk (blk_below (g := gb210) (o := .cells #[.string a0_0, .string a0_1, .slice A0_2 l0_2.length c0_2, .slice A0_3 l0_3.length c0_3, .bool true, .string a0_5] 49 (0, 0)) (by (with_reducible repeat (first | refine blk_drewN ?_ _ | refine blk_drew ?_ | refine blk_alloc ?_ _)); exact BK210.out) hb); have n1_ := Aside0.mk (below_step (by repeat (first | (with_reducible first | exact HB.out | apply below_alloc | apply pw_below_drewN | apply below_drew1 | refine below_set ?_ GE210.out) | exact HB.out)) hb); clear BK210; clear HB; have BK210 := n0_; have HB := n1_; clear n0_ n1_; (try clear hb); (try clear hb2); (try clear hk); (try clear hi)) | ((with_reducible refine gate_dst (N := 5) rfl ?_); refine box_event ?hg (N := 5) ?hd (cs := #[.string (⟨#[]⟩ : ByteArray), .string (⟨#[]⟩ : ByteArray)]) (t := 45) ?hr ?_; (case hd => rfl); (case hg => rfl); (case hr => first | (go_simp; done) | (go_simp; rfl)); intro gb222 hg w44 hbox hb; have n0_ := Aside0.mk (blk_below (g := gb210) (o := .cells #[.string a0_0, .string a0_1, .slice A0_2 l0_2.length c0_2, .slice A0_3 l0_3.length c0_3, .bool true, .string a0_5] 49 (0, 0)) (by (with_reducible repeat (first | refine blk_drewN ?_ _ | refine blk_drew ?_ | refine blk_alloc ?_ _)); exact BK210.out) hb); have n1_ := Aside0.mk (below_step (by repeat (first | (with_reducible first | exact HB.out | apply below_alloc | apply pw_below_drewN | apply below_drew1 | refine below_set ?_ GE210.out) | exact HB.out)) hb); have n2_ := Aside0.mk (hbox); have n3_ := Aside0.mk ((by rw [hg]; exact (below_size (by repeat (first | (with_reducible first | exact HB.out | apply below_alloc | apply pw_below_drewN | apply below_drew1 | refine below_set ?_ GE210.out) | exact HB.out))) : w.heap.size ≤ gb222)); have n4_ := Aside0.mk ((by rw [hg]; exact (below_size (by repeat (first | (with_reducible first | exact HB.out | apply below_alloc | apply pw_below_drewN | apply below_drew1 | refine below_set ?_ GE210.out) | exact HB.out))) : w.heap.size ≤ gb222)); have n5_ := Aside0.mk ((by rw [hg]; exact Nat.ne_of_lt (blk_lt (g := gb210) (o := .cells #[.string a0_0, .string a0_1, .slice A0_2 l0_2.length c0_2, .slice A0_3 l0_3.length c0_3, .bool true, .string a0_5] 49 (0, 0)) (by (with_reducible repeat (first | refine blk_drewN ?_ _ | refine blk_drew ?_ | refine blk_alloc ?_ _)); exact BK210.out)) : gb210 ≠ gb222)); have n6_ := Aside0.mk ((by rw [hg]; exact Nat.ne_of_gt (blk_lt (g := gb210) (o := .cells #[.string a0_0, .string a0_1, .slice A0_2 l0_2.length c0_2, .slice A0_3 l0_3.length c0_3, .bool true, .string a0_5] 49 (0, 0)) (by (with_reducible repeat (first | refine blk_drewN ?_ _ | refine blk_drew ?_ | refine blk_alloc ?_ _)); exact BK210.out)) : gb222 ≠ gb210)); clear BK210; clear HB; have BK210 := n0_; have HB := n1_; have BK222 := n2_; have GW222 := n3_; have GE222 := n4_; have NB210_222 := n5_; have NB222_210 := n6_; clear n0_ n1_ n2_ n3_ n4_ n5_ n6_; clear hb hbox hg) | ((with_reducible refine gate_dst (N := 6) rfl ?_); refine box_event ?hg (N := 6) ?hd (cs := #[.string (⟨#[]⟩ : ByteArray), .string (⟨#[]⟩ : ByteArray)]) (t := 45) ?hr ?_; (case hd => rfl); (case hg => rfl); (case hr => first | (go_simp; done) | (go_simp; rfl)); intro gb223 hg w45 hbox hb; have n0_ := Aside0.mk (blk_below (g := gb210) (o := .cells #[.string a0_0, .string a0_1, .slice A0_2 l0_2.length c0_2, .slice A0_3 l0_3.length c0_3, .bool true, .string a0_5] 49 (0, 0)) (by (with_reducible repeat (first | refine blk_drewN ?_ _ | refine blk_drew ?_ | refine blk_alloc ?_ _)); exact BK210.out) hb); have n1_ := Aside0.mk (blk_below (g := gb222) (o := .cells #[.string (⟨#[]⟩ : ByteArray), .string (⟨#[]⟩ : ByteArray)] 45 (0, 0)) (by (with_reducible repeat (first | refine blk_drewN ?_ _ | refine blk_drew ?_ | refine blk_alloc ?_ _)); exact BK222.out) hb); have n2_ := Aside0.mk (below_step (by repeat (first | (with_reducible first | exact HB.out | apply below_alloc | apply pw_below_drewN | apply below_drew1 | refine below_set ?_ GE210.out | refine below_set ?_ GE222.out) | exact HB.out)) hb); have n3_ := Aside0.mk (hbox); have n4_ := Aside0.mk ((by rw [hg]; exact (below_size (by repeat (first | (with_reducible first | exact HB.out | apply below_alloc | apply pw_below_drewN | apply below_drew1 | refine below_set ?_ GE210.out | refine below_set ?_ GE222.out) | exact HB.out))) : w.heap.size ≤ gb223)); have n5_ := Aside0.mk ((by rw [hg]; exact (below_size (by repeat (first | (with_reducible first | exact HB.out | apply below_alloc | apply pw_below_drewN | apply below_drew1 | refine below_set ?_ GE210.out | refine below_set ?_ GE222.out) | exact HB.out))) : w.heap.size ≤ gb223)); have n6_ := Aside0.mk ((by rw [hg]; exact Nat.ne_of_lt (blk_lt (g := gb210) (o := .cells #[.string a0_0, .string a0_1, .slice A0_2 l0_2.length c0_2, .slice A0_3 l0_3.length c0_3, .bool true, .string a0_5] 49 (0, 0)) (by (with_reducible repeat (first | refine blk_drewN ?_ _ | refine blk_drew ?_ | refine blk_alloc ?_ _)); exact BK210.out)) : gb210 ≠ gb223)); have n7_ := Aside0.mk ((by rw [hg]; exact Nat.ne_of_gt (blk_lt (g := gb210) (o := .cells #[.string a0_0, .string a0_1, .slice A0_2 l0_2.length c0_2, .slice A0_3 l0_3.length c0_3, .bool true, .string a0_5] 49 (0, 0)) (by (with_reducible repeat (first | refine blk_drewN ?_ _ | refine blk_drew ?_ | refine blk_alloc ?_ _)); exact BK210.out)) : gb223 ≠ gb210)); have n8_ := Aside0.mk ((by rw [hg]; exact Nat.ne_of_lt (blk_lt (g := gb222) (o := .cells #[.string (⟨#[]⟩ : ByteArray), .string (⟨#[]⟩ : ByteArray)] 45 (0, 0)) (by (with_reducible repeat (first | refine blk_drewN ?_ _ | refine blk_drew ?_ | refine blk_alloc ?_ _)); exact BK222.out)) : gb222 ≠ gb223)); have n9_ := Aside0.mk ((by rw [hg]; exact Nat.ne_of_gt (blk_lt (g := gb222) (o := .cells #[.string (⟨#[]⟩ : ByteArray), .string (⟨#[]⟩ : ByteArray)] 45 (0, 0)) (by (with_reducible repeat (first | refine blk_drewN ?_ _ | refine blk_drew ?_ | refine blk_alloc ?_ _)); exact BK222.out)) : gb223 ≠ gb222)); clear BK210; clear BK222; clear HB; have BK210 := n0_; have BK222 := n1_; have HB := n2_; have BK223 := n3_; have GW223 := n4_; have GE223 := n5_; have NB210_223 := n6_; have NB223_210 := n7_; have NB222_223 := n8_; have NB223_222 := n9_; clear n0_ n1_ n2_ n3_ n4_ n5_ n6_ n7_ n8_ n9_; clear hb hbox hg; have hnb46 := NB222_210.out; have hnc46 := NB210_222.out; have hnb47 := NB222_223.out; have hnc47 := NB223_222.out; have hcz48_0 : w45.cell? ⟨gb222, 0, none⟩ = some (.string (⟨#[]⟩ : ByteArray)) := (blk_cell BK222.out 0).trans rfl; have hcz48_1 : w45.cell? ⟨gb222, 1, none⟩ = some (.string (⟨#[]⟩ : ByteArray)) := (blk_cell BK222.out 1).trans rfl; have hfz48_0 := blk_frozen BK222.out 0; have hfz48_1 := blk_frozen BK222.out 1; have hnb49 := NB223_210.out; have hnc49 := NB210_223.out; have hcz50_0 : w45.cell? ⟨gb223, 0, none⟩ = some (.string (⟨#[]⟩ : ByteArray)) := (blk_cell BK223.out 0).trans rfl; have hcz50_1 : w45.cell? ⟨gb223, 1, none⟩ = some (.string (⟨#[]⟩ : ByteArray)) := (blk_cell BK223.out 1).trans rfl; have hfz50_0 := blk_frozen BK223.out 0; have hfz50_1 := blk_frozen BK223.out 1; have hcz51_0 : w45.cell? ⟨gb210, 0, none⟩ = some (.string a0_0) := (blk_cell BK210.out 0).trans rfl; have hcz51_1 : w45.cell? ⟨gb210, 1, none⟩ = some (.string a0_1) := (blk_cell BK210.out 1).trans rfl; have hcz51_2 : w45.cell? ⟨gb210, 2, none⟩ = some (.slice A0_2 l0_2.length c0_2) := (blk_cell BK210.out 2).trans rfl; have hcz51_3 : w45.cell? ⟨gb210, 3, none⟩ = some (.slice A0_3 l0_3.length c0_3) := (blk_cell BK210.out 3).trans rfl; have hcz51_4 : w45.cell? ⟨gb210, 4, none⟩ = some (.bool true) := (blk_cell BK210.out 4).trans rfl; have hcz51_5 : w45.cell? ⟨gb210, 5, none⟩ = some (.string a0_5) := (blk_cell BK210.out 5).trans rfl; have hfz51_0 := blk_frozen BK210.out 0; have hfz51_1 := blk_frozen BK210.out 1; have hfz51_2 := blk_frozen BK210.out 2; have hfz51_3 := blk_frozen BK210.out 3; have hfz51_4 := blk_frozen BK210.out 4; have hfz51_5 := blk_frozen BK210.out 5))
                  go_ret
                  exact ⟨by first | rfl | (simp [errW_none, errW_some] <;> rfl) | (simp [*, errW_none, errW_some] <;> rfl), by repeat (first | (with_reducible first | exact HB.out | apply below_alloc | apply pw_below_drewN | apply below_drew1 | refine below_set ?_ GE210.out | refine below_set ?_ GE222.out | refine below_set ?_ GE223.out) | exact HB.out)⟩
                · replace c41 := Bool.eq_false_iff.mpr c41
                  subst c41
                  have H1 : (some false) = some r := by rw [if_neg (show ¬ (false = true) by decide)] at H; exact H
                  clear H
                  have H := H1
                  clear H1
                  obtain rfl := Option.some.inj H
                  have hcz52_0 : wr.cell? ⟨gb210, 0, none⟩ = some (.string a0_0) := (blk_cell BK210.out 0).trans rfl
                  have hcz52_1 : wr.cell? ⟨gb210, 1, none⟩ = some (.string a0_1) := (blk_cell BK210.out 1).trans rfl
                  have hcz52_2 : wr.cell? ⟨gb210, 2, none⟩ = some (.slice A0_2 l0_2.length c0_2) := (blk_cell BK210.out 2).trans rfl
                  have hcz52_3 : wr.cell? ⟨gb210, 3, none⟩ = some (.slice A0_3 l0_3.length c0_3) := (blk_cell BK210.out 3).trans rfl
                  have hcz52_4 : wr.cell? ⟨gb210, 4, none⟩ = some (.bool false) := (blk_cell BK210.out 4).trans rfl
                  have hcz52_5 : wr.cell? ⟨gb210, 5, none⟩ = some (.string a0_5) := (blk_cell BK210.out 5).trans rfl
                  have hfz52_0 := blk_frozen BK210.out 0
                  have hfz52_1 := blk_frozen BK210.out 1
                  have hfz52_2 := blk_frozen BK210.out 2
                  have hfz52_3 := blk_frozen BK210.out 3
                  have hfz52_4 := blk_frozen BK210.out 4
                  have hfz52_5 := blk_frozen BK210.out 5
                  go_wp2_with (first | ((with_reducible refine gate_callee (f := 61) rfl ?_); refine goesL_ (some 46) rfl rfl Try.func61 (by kernel_rfl) rfl #[.agg #[.string a0_0, .string a0_1], .string a0_5] rfl (by (try simp only [List.map_toArray, List.map_cons, List.map_nil]); first | done | rfl | (simp only [List.length_drop, List.length_take]; rfl)) ?_; (with_reducible refine (impl_IntervalCut.calls k2 a0_0 a0_1 a0_5 t217 t218 t219 t220 t221 _ A40.out).mono ?_); rintro e w53 ⟨rfl, hb⟩; refine ⟨_, rfl, ?_⟩; have n0_ := Aside0.mk (blk_below (g := gb210) (o := .cells #[.string a0_0, .string a0_1, .slice A0_2 l0_2.length c0_2, .slice A0_3 l0_3.length c0_3, .bool false, .string a0_5] 49 (0, 0)) (by (with_reducible repeat (first | refine blk_drewN ?_ _ | refine blk_drew ?_ | refine blk_alloc ?_ _)); exact BK210.out) hb); have n1_ := Aside0.mk (below_step (by repeat (first | (with_reducible first | exact HB.out | apply below_alloc | apply pw_below_drewN | apply below_drew1 | refine below_set ?_ GE210.out) | exact HB.out)) hb); clear BK210; clear HB; have BK210 := n0_; have HB := n1_; clear n0_ n1_; (try clear hb); (try clear hb2); (try clear hk); (try clear hi)) | ((with_reducible refine gate_dst (N := 5) rfl ?_); refine box_event ?hg (N := 5) ?hd (cs := #[.string (⟨#[]⟩ : ByteArray), .string (⟨#[]⟩ : ByteArray)]) (t := 45) ?hr ?_; (case hd => rfl); (case hg => rfl); (case hr => first | (go_simp; done) | (go_simp; rfl)); intro gb222 hg w54 hbox hb; have n0_ := Aside0.mk (blk_below (g := gb210) (o := .cells #[.string a0_0, .string a0_1, .slice A0_2 l0_2.length c0_2, .slice A0_3 l0_3.length c0_3, .bool false, .string a0_5] 49 (0, 0)) (by (with_reducible repeat (first | refine blk_drewN ?_ _ | refine blk_drew ?_ | refine blk_alloc ?_ _)); exact BK210.out) hb); have n1_ := Aside0.mk (below_step (by repeat (first | (with_reducible first | exact HB.out | apply below_alloc | apply pw_below_drewN | apply below_drew1 | refine below_set ?_ GE210.out) | exact HB.out)) hb); have n2_ := Aside0.mk (hbox); have n3_ := Aside0.mk ((by rw [hg]; exact (below_size (by repeat (first | (with_reducible first | exact HB.out | apply below_alloc | apply pw_below_drewN | apply below_drew1 | refine below_set ?_ GE210.out) | exact HB.out))) : w.heap.size ≤ gb222)); have n4_ := Aside0.mk ((by rw [hg]; exact (below_size (by repeat (first | (with_reducible first | exact HB.out | apply below_alloc | apply pw_below_drewN | apply below_drew1 | refine below_set ?_ GE210.out) | exact HB.out))) : w.heap.size ≤ gb222)); have n5_ := Aside0.mk ((by rw [hg]; exact Nat.ne_of_lt (blk_lt (g := gb210) (o := .cells #[.string a0_0, .string a0_1, .slice A0_2 l0_2.length c0_2, .slice A0_3 l0_3.length c0_3, .bool false, .string a0_5] 49 (0, 0)) (by (with_reducible repeat (first | refine blk_drewN ?_ _ | refine blk_drew ?_ | refine blk_alloc ?_ _)); exact BK210.out)) : gb210 ≠ gb222)); have n6_ := Aside0.mk ((by rw [hg]; exact Nat.ne_of_gt (blk_lt (g := gb210) (o := .cells #[.string a0_0, .string a0_1, .slice A0_2 l0_2.length c0_2, .slice A0_3 l0_3.length c0_3, .bool false, .string a0_5] 49 (0, 0)) (by (with_reducible repeat (first | refine blk_drewN ?_ _ | refine blk_drew ?_ | refine blk_alloc ?_ _)); exact BK210.out)) : gb222 ≠ gb210)); clear BK210; clear HB; have BK210 := n0_; have HB := n1_; have BK222 := n2_; have GW222 := n3_; have GE222 := n4_; have NB210_222 := n5_; have NB222_210 := n6_; clear n0_ n1_ n2_ n3_ n4_ n5_ n6_; clear hb hbox hg) | ((with_reducible refine gate_dst (N := 6) rfl ?_); refine box_event ?hg (N := 6) ?hd (cs := #[.string (⟨#[]⟩ : ByteArray), .string (⟨#[]⟩ : ByteArray)]) (t := 45) ?hr ?_; (case hd => rfl); (case hg => rfl); (case hr => first | (go_simp; done) | (go_simp; rfl)); intro gb223 hg w55 hbox hb; have n0_ := Aside0.mk (blk_below (g := gb210) (o := .cells #[.string a0_0, .string a0_1, .slice A0_2 l0_2.length c0_2, .slice A0_3 l0_3.length c0_3, .bool false, .string a0_5] 49 (0, 0)) (by (with_reducible repeat (first | refine blk_drewN ?_ _ | refine blk_drew ?_ | refine blk_alloc ?_ _)); exact BK210.out) hb); have n1_ := Aside0.mk (blk_below (g := gb222) (o := .cells #[.string (⟨#[]⟩ : ByteArray), .string (⟨#[]⟩ : ByteArray)] 45 (0, 0)) (by (with_reducible repeat (first | refine blk_drewN ?_ _ | refine blk_drew ?_ | refine blk_alloc ?_ _)); exact BK222.out) hb); have n2_ := Aside0.mk (below_step (by repeat (first | (with_reducible first | exact HB.out | apply below_alloc | apply pw_below_drewN | apply below_drew1 | refine below_set ?_ GE210.out | refine below_set ?_ GE222.out) | exact HB.out)) hb); have n3_ := Aside0.mk (hbox); have n4_ := Aside0.mk ((by rw [hg]; exact (below_size (by repeat (first | (with_reducible first | exact HB.out | apply below_alloc | apply pw_below_drewN | apply below_drew1 | refine below_set ?_ GE210.out | refine below_set ?_ GE222.out) | exact HB.out))) : w.heap.size ≤ gb223)); have n5_ := Aside0.mk ((by rw [hg]; exact (below_size (by repeat (first | (with_reducible first | exact HB.out | apply below_alloc | apply pw_below_drewN | apply below_drew1 | refine below_set ?_ GE210.out | refine below_set ?_ GE222.out) | exact HB.out))) : w.heap.size ≤ gb223)); have n6_ := Aside0.mk ((by rw [hg]; exact Nat.ne_of_lt (blk_lt (g := gb210) (o := .cells #[.string a0_0, .string a0_1, .slice A0_2 l0_2.length c0_2, .slice A0_3 l0_3.length c0_3, .bool false, .string a0_5] 49 (0, 0)) (by (with_reducible repeat (first | refine blk_drewN ?_ _ | refine blk_drew ?_ | refine blk_alloc ?_ _)); exact BK210.out)) : gb210 ≠ gb223)); have n7_ := Aside0.mk ((by rw [hg]; exact Nat.ne_of_gt (blk_lt (g := gb210) (o := .cells #[.string a0_0, .string a0_1, .slice A0_2 l0_2.length c0_2, .slice A0_3 l0_3.length c0_3, .bool false, .string a0_5] 49 (0, 0)) (by (with_reducible repeat (first | refine blk_drewN ?_ _ | refine blk_drew ?_ | refine blk_alloc ?_ _)); exact BK210.out)) : gb223 ≠ gb210)); have n8_ := Aside0.mk ((by rw [hg]; exact Nat.ne_of_lt (blk_lt (g := gb222) (o := .cells #[.string (⟨#[]⟩ : ByteArray), .string (⟨#[]⟩ : ByteArray)] 45 (0, 0)) (by (with_reducible repeat (first | refine blk_drewN ?_ _ | refine blk_drew ?_ | refine blk_alloc ?_ _)); exact BK222.out)) : gb222 ≠ gb223)); have n9_ := Aside0.mk ((by rw [hg]; exact Nat.ne_of_gt (blk_lt (g := gb222) (o := .cells #[.string (⟨#[]⟩ : ByteArray), .string (⟨#[]⟩ : ByteArray)] 45 (0, 0)) (by (with_reducible repeat (first | refine blk_drewN ?_ _ | refine blk_drew ?_ | refine blk_alloc ?_ _)); exact BK222.out)) : gb223 ≠ gb222)); clear BK210; clear BK222; clear HB; have BK210 := n0_; have BK222 := n1_; have HB := n2_; have BK223 := n3_; have GW223 := n4_; have GE223 := n5_; have NB210_223 := n6_; have NB223_210 := n7_; have NB222_223 := n8_; have NB223_222 := n9_; clear n0_ n1_ n2_ n3_ n4_ n5_ n6_ n7_ n8_ n9_; clear hb hbox hg; have hnb56 := NB222_210.out; have hnc56 := NB210_222.out; have hnb57 := NB222_223.out; have hnc57 := NB223_222.out; have hcz58_0 : w55.cell? ⟨gb222, 0, none⟩ = some (.string (⟨#[]⟩ : ByteArray)) := (blk_cell BK222.out 0).trans rfl; have hcz58_1 : w55.cell? ⟨gb222, 1, none⟩ = some (.string (⟨#[]⟩ : ByteArray)) := (blk_cell BK222.out 1).trans rfl; have hfz58_0 := blk_frozen BK222.out 0; have hfz58_1 := blk_frozen BK222.out 1; have hnb59 := NB223_210.out; have hnc59 := NB210_223.out; have hcz60_0 : w55.cell? ⟨gb223, 0, none⟩ = some (.string (⟨#[]⟩ : ByteArray)) := (blk_cell BK223.out 0).trans rfl; have hcz60_1 : w55.cell? ⟨gb223, 1, none⟩ = some (.string (⟨#[]⟩ : ByteArray)) := (blk_cell BK223.out 1).trans rfl; have hfz60_0 := blk_frozen BK223.out 0; have hfz60_1 := blk_frozen BK223.out 1; have hcz61_0 : w55.cell? ⟨gb210, 0, none⟩ = some (.string a0_0) := (blk_cell BK210.out 0).trans rfl; have hcz61_1 : w55.cell? ⟨gb210, 1, none⟩ = some (.string a0_1) := (blk_cell BK210.out 1).trans rfl; have hcz61_2 : w55.cell? ⟨gb210, 2, none⟩ = some (.slice A0_2 l0_2.length c0_2) := (blk_cell BK210.out 2).trans rfl; have hcz61_3 : w55.cell? ⟨gb210, 3, none⟩ = some (.slice A0_3 l0_3.length c0_3) := (blk_cell BK210.out 3).trans rfl; have hcz61_4 : w55.cell? ⟨gb210, 4, none⟩ = some (.bool false) := (blk_cell BK210.out 4).trans rfl; have hcz61_5 : w55.cell? ⟨gb210, 5, none⟩ = some (.string a0_5) := (blk_cell BK210.out 5).trans rfl; have hfz61_0 := blk_frozen BK210.out 0; have hfz61_1 := blk_frozen BK210.out 1; have hfz61_2 := blk_frozen BK210.out 2; have hfz61_3 := blk_frozen BK210.out 3; have hfz61_4 := blk_frozen BK210.out 4; have hfz61_5 := blk_frozen BK210.out 5))
                  go_ret
                  exact ⟨by first | rfl | (simp [errW_none, errW_some] <;> rfl) | (simp [*, errW_none, errW_some] <;> rfl), by repeat (first | (with_reducible first | exact HB.out | apply below_alloc | apply pw_below_drewN | apply below_drew1 | refine below_set ?_ GE210.out | refine below_set ?_ GE222.out | refine below_set ?_ GE223.out) | exact HB.out)⟩

end Go.Proofs.Ytdamnfkpfhoahaa.PFnNewState
