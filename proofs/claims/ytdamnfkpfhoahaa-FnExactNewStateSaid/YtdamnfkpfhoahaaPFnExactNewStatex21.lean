-- PRINTED BY print.sh 35421559b90ae4d0a3588c463048766b98c2df88dd9212a6774a882060cdf62d: not written by this session
import Derived.Test.YtdamnfkpfhoahaaPFnExactNewStatex0
import Derived.Test.YtdamnfkpfhoahaaPFnExactNewStatex19
import Derived.Test.YtdamnfkpfhoahaaPFnExactNewStatex20
namespace Go.Proofs.Ytdamnfkpfhoahaa.PFnExactNewState
open Go.RowKit Go.Proofs.YtdamnfkpfhoahaaW.PrintWords Go.Proofs.YtdamnfkpfhoahaaW.PrintLast Go.Proofs.YtdamnfkpfhoahaaW.PrintMore
attribute [local go_sem] max2_int min2_int max_two min_two max_three min_three max_four min_four   -- for this text's walks alone
set_option linter.unusedVariables false
set_option linter.unusedSimpArgs false

/-! ### laws_markState: function 30 -/
def laws_markState.f (k : Nat) (a0_0 : ByteArray) (a0_1 : ByteArray) (l0_2 : List (S76)) (l0_3 : List (S90)) (a0_4 : Bool) (a0_5 : ByteArray) (a1 : Int) : Option (Int × (List (S76)) × (List (S90))) := (laws_markPairS.f k l0_2 a1).bind fun bt152 => ((laws_markSessionS.f k l0_3 bt152.1).bind fun bt154 => (some (bt154.1, bt152.2, bt154.2)))
theorem laws_markState.mono : ∀ a0 a1 a2 a3 a4 a5 a6 k, LeO (laws_markState.f k a0 a1 a2 a3 a4 a5 a6) (laws_markState.f (k + 1) a0 a1 a2 a3 a4 a5 a6) := by
  intro a0 a1 a2 a3 a4 a5 a6 k
  unfold laws_markState.f
  repeat' first
      | (with_reducible exact laws_markPairS.mono _ _ _)
      | (with_reducible exact laws_markSessionS.mono _ _ _)
      | (with_reducible exact LeO.refl _)
      | (with_reducible exact LeO.none _)
      | (with_reducible refine LeO.ite ?_ ?_)
      | (with_reducible refine LeO.bind ?_ (fun _ => ?_))
      | exact laws_markPairS.mono _ _ _
      | exact laws_markSessionS.mono _ _ _
      | exact LeO.none _
      | refine LeO.ite ?_ ?_
      | refine LeO.bind ?_ (fun _ => ?_)
set_option maxHeartbeats 8000000 in
set_option maxRecDepth 100000 in
theorem laws_markState.calls (k : Nat) (a0_0 : ByteArray) (a0_1 : ByteArray) (P0_2_ : Nat → Prop) (u9000_ : Value) (l0_2 : List (S76)) (P0_3_ : Nat → Prop) (u9001_ : Value) (l0_3 : List (S90)) (a0_4 : Bool) (a0_5 : ByteArray) (a1 : Int) (r1 : Int) (r2 : List (S76)) (r3 : List (S90)) (w0 w : World) (hB : Below w0.heap.size w0 w) (ho0_2 : Kd.R k76 76 w w0.heap.size P0_2_ u9000_ l0_2) (ho0_3 : Kd.R k90 90 w w0.heap.size P0_3_ u9001_ l0_3) (h : laws_markState.f k a0_0 a0_1 l0_2 l0_3 a0_4 a0_5 a1 = some (r1, r2, r3)) :
    Calls Try.prog 30 #[.agg #[.string a0_0, .string a0_1, u9000_, u9001_, .bool a0_4, .string a0_5], .int .i64 a1] w fun e w' => e = .returned (.int .i64 r1) ∧ Kd.R k76 76 w' w0.heap.size (fun k_ => ((P0_2_ k_ ∨ P0_3_ k_) ∨ w.heap.size ≤ k_)) u9000_ r2 ∧ Kd.R k90 90 w' w0.heap.size (fun k_ => ((P0_2_ k_ ∨ P0_3_ k_) ∨ w.heap.size ≤ k_)) u9001_ r3 ∧ Below w0.heap.size w0 w' ∧ Kept w w' (fun k_ => P0_2_ k_ ∨ P0_3_ k_) := by
  have hu49 := Try.underlying49
  have HO0_2 := Aside0.mk (show Kd.R k76 76 w w0.heap.size (fun k_ => ((P0_2_ k_ ∨ P0_3_ k_) ∨ w.heap.size ≤ k_)) u9000_ l0_2 from Kd.R_mono ho0_2 (fun k_ hk => (.inl (.inl hk))))
  have HO0_3 := Aside0.mk (show Kd.R k90 90 w w0.heap.size (fun k_ => ((P0_2_ k_ ∨ P0_3_ k_) ∨ w.heap.size ≤ k_)) u9001_ l0_3 from Kd.R_mono ho0_3 (fun k_ hk => (.inl (.inr hk))))
  have HK := Aside0.mk (Kept.refl w (fun k_ => P0_2_ k_ ∨ P0_3_ k_))
  have HW0 := Aside0.mk hB.size
  have HB := Aside0.mk hB
  clear hB
  have H : ((laws_markPairS.f k l0_2 a1).bind fun bt152 => ((laws_markSessionS.f k l0_3 bt152.1).bind fun bt154 => (some (bt154.1, bt152.2, bt154.2)))) = some (r1, r2, r3) := h
  clear h
  replace H := Option.bind_eq_some_iff.mp H
  obtain ⟨⟨t152, t153⟩, A30, H⟩ := H
  replace H : ((laws_markSessionS.f k l0_3 t152).bind fun bt154 => (some (bt154.1, t153, bt154.2))) = some (r1, r2, r3) := H
  have A3 := Aside0.mk A30
  clear A30
  replace H := Option.bind_eq_some_iff.mp H
  obtain ⟨⟨t154, t155⟩, A40, H⟩ := H
  replace H : (some (t154, t153, t155)) = some (r1, r2, r3) := H
  have A4 := Aside0.mk A40
  clear A40
  simp only [Option.some.injEq, Prod.mk.injEq] at H
  obtain ⟨rfl, rfl, rfl⟩ := H
  obtain ⟨Ao5, co5, eo5⟩ := Kd.R_slice HO0_2.out
  subst eo5
  obtain ⟨Ao6, co6, eo6⟩ := Kd.R_slice HO0_3.out
  subst eo6
  go_enter Try.func30, Try.ntmps30
  go_wp2_with (first | ((with_reducible refine gate_dst (N := 2) rfl ?_); refine box_event ?hg (N := 2) ?hd (cs := #[.string a0_0, .string a0_1, .slice Ao5 l0_2.length co5, .slice Ao6 l0_3.length co6, .bool a0_4, .string a0_5]) (t := 49) ?hr ?_; (case hd => rfl); (case hg => rfl); (case hr => first | (go_simp; done) | (go_simp; rfl)); intro gb151 hg w7 hbox hb; have n0_ := Aside0.mk (Kd.R_below (by (with_reducible repeat (first | apply Kd.R_alloc | apply Kd.R_drewN | apply Kd.R_drew)); exact HO0_2.out) hb); have n1_ := Aside0.mk (Kd.R_below (by (with_reducible repeat (first | apply Kd.R_alloc | apply Kd.R_drewN | apply Kd.R_drew)); exact HO0_3.out) hb); have n2_ := Aside0.mk (Kept.below (S := (fun k_ => P0_2_ k_ ∨ P0_3_ k_)) (by repeat (first | (with_reducible first | exact HK.out | apply Kept.alloc | apply Kept.drewN | apply Kept.drew) | exact HK.out)) hb); have n3_ := Aside0.mk (below_step (by repeat (first | (with_reducible first | exact HB.out | apply below_alloc | apply pw_below_drewN | apply below_drew1) | exact HB.out)) hb); have n4_ := Aside0.mk (hbox); have n5_ := Aside0.mk ((by rw [hg]; exact (by first | exact HK.out.1 | exact (show Kept w _ (fun k_ => P0_2_ k_ ∨ P0_3_ k_) from by repeat (first | (with_reducible first | exact HK.out | apply Kept.alloc | apply Kept.drewN | apply Kept.drew) | exact HK.out)).1) : w.heap.size ≤ gb151)); have n6_ := Aside0.mk ((by rw [hg]; exact (below_size (by repeat (first | (with_reducible first | exact HB.out | apply below_alloc | apply pw_below_drewN | apply below_drew1) | exact HB.out))) : w0.heap.size ≤ gb151)); clear HO0_2; clear HO0_3; clear HK; clear HB; have HO0_2 := n0_; have HO0_3 := n1_; have HK := n2_; have HB := n3_; have BK151 := n4_; have GW151 := n5_; have GE151 := n6_; clear n0_ n1_ n2_ n3_ n4_ n5_ n6_; clear hb hbox hg; have hcz8_0 : w7.cell? ⟨gb151, 0, none⟩ = some (.string a0_0) := (blk_cell BK151.out 0).trans rfl; have hcz8_1 : w7.cell? ⟨gb151, 1, none⟩ = some (.string a0_1) := (blk_cell BK151.out 1).trans rfl; have hcz8_2 : w7.cell? ⟨gb151, 2, none⟩ = some (.slice Ao5 l0_2.length co5) := (blk_cell BK151.out 2).trans rfl; have hcz8_3 : w7.cell? ⟨gb151, 3, none⟩ = some (.slice Ao6 l0_3.length co6) := (blk_cell BK151.out 3).trans rfl; have hcz8_4 : w7.cell? ⟨gb151, 4, none⟩ = some (.bool a0_4) := (blk_cell BK151.out 4).trans rfl; have hcz8_5 : w7.cell? ⟨gb151, 5, none⟩ = some (.string a0_5) := (blk_cell BK151.out 5).trans rfl; have hfz8_0 := blk_frozen BK151.out 0; have hfz8_1 := blk_frozen BK151.out 1; have hfz8_2 := blk_frozen BK151.out 2; have hfz8_3 := blk_frozen BK151.out 3; have hfz8_4 := blk_frozen BK151.out 4; have hfz8_5 := blk_frozen BK151.out 5) | ((with_reducible refine gate_callee (f := 50) rfl ?_); refine goesL_ (some 8) rfl rfl Try.func50 (by kernel_rfl) rfl #[.slice Ao5 l0_2.length co5, .int .i64 a1] rfl (by (try simp only [List.map_toArray, List.map_cons, List.map_nil]); first | done | rfl | (simp only [List.length_drop, List.length_take]; rfl)) ?_; (with_reducible refine (laws_markPairS.calls k (fun k_ => some k_ = (.slice Ao5 l0_2.length co5 : Value).ownBlock) (.slice Ao5 l0_2.length co5) l0_2 a1 t152 t153 w0 _ ?side1 ?side2 A3.out).mono ?_); (case side1 => repeat (first | (with_reducible first | exact HB.out | apply below_alloc | apply pw_below_drewN | apply below_drew1 | refine below_set ?_ GE151.out) | exact HB.out)); (case side2 => exact Kd.R_tight rfl HO0_2.out); rintro e w9 ⟨rfl, hy0, hb, hkp⟩; refine ⟨_, rfl, ?_⟩; have n0_ := Aside0.mk (Kd.R_reok rfl hy0 (fun k_ e_ => HO0_2.out.1 k_ e_)); have n1_ := Aside0.mk (Kd.R_mono (ok' := fun k_ => ((P0_2_ k_ ∨ P0_3_ k_) ∨ w.heap.size ≤ k_)) (Kd.R_keptB ((Kd.R_apart' HO0_3.out (Kd.R_typed HO0_2.out) (by decide))) hkp (fun k_ hk_ hs_ => (hk_.2) hs_)) (fun k_ hk_ => hk_.1.1)); have n2_ := Aside0.mk (blk_kept (by (with_reducible repeat (first | refine blk_drewN ?_ _ | refine blk_drew ?_ | refine blk_alloc ?_ _)); exact BK151.out) hkp (fun hs_ => (fun e_ => (Kd.R_ne HO0_2.out BK151.out (by decide)) e_) hs_)); have n3_ := Aside0.mk (Kept.then_ (S := (fun k_ => P0_2_ k_ ∨ P0_3_ k_)) (by repeat (first | (with_reducible first | exact HK.out | apply Kept.alloc | apply Kept.drewN | apply Kept.drew | refine Kept.setCell ?_ (.inr GW151.out) _) | exact HK.out)) hkp (fun k_ hs_ => (fun e_ => (HO0_2.out.1 k_ e_.symm)) hs_)); have n4_ := Aside0.mk (hb); clear HO0_2; clear HO0_3; clear BK151; clear HK; clear HB; have HO0_2 := n0_; have HO0_3 := n1_; have BK151 := n2_; have HK := n3_; have HB := n4_; clear n0_ n1_ n2_ n3_ n4_; (try clear hb); (try clear hkp); (try clear hy0); have hcz10_0 : w9.cell? ⟨gb151, 0, none⟩ = some (.string a0_0) := (blk_cell BK151.out 0).trans rfl; have hcz10_1 : w9.cell? ⟨gb151, 1, none⟩ = some (.string a0_1) := (blk_cell BK151.out 1).trans rfl; have hcz10_2 : w9.cell? ⟨gb151, 2, none⟩ = some (.slice Ao5 l0_2.length co5) := (blk_cell BK151.out 2).trans rfl; have hcz10_3 : w9.cell? ⟨gb151, 3, none⟩ = some (.slice Ao6 l0_3.length co6) := (blk_cell BK151.out 3).trans rfl; have hcz10_4 : w9.cell? ⟨gb151, 4, none⟩ = some (.bool a0_4) := (blk_cell BK151.out 4).trans rfl; have hcz10_5 : w9.cell? ⟨gb151, 5, none⟩ = some (.string a0_5) := (blk_cell BK151.out 5).trans rfl; have hfz10_0 := blk_frozen BK151.out 0; have hfz10_1 := blk_frozen BK151.out 1; have hfz10_2 := blk_frozen BK151.out 2; have hfz10_3 := blk_frozen BK151.out 3; have hfz10_4 := blk_frozen BK151.out 4; have hfz10_5 := blk_frozen BK151.out 5) | ((with_reducible refine gate_callee (f := 51) rfl ?_); refine goesL_ (some 12) rfl rfl Try.func51 (by kernel_rfl) rfl #[.slice Ao6 l0_3.length co6, .int .i64 t152] rfl (by (try simp only [List.map_toArray, List.map_cons, List.map_nil]); first | done | rfl | (simp only [List.length_drop, List.length_take]; rfl)) ?_; (with_reducible refine (laws_markSessionS.calls k (fun k_ => some k_ = (.slice Ao6 l0_3.length co6 : Value).ownBlock) (.slice Ao6 l0_3.length co6) l0_3 t152 t154 t155 w0 _ ?side1 ?side2 A4.out).mono ?_); (case side1 => repeat (first | (with_reducible first | exact HB.out | apply below_alloc | apply pw_below_drewN | apply below_drew1 | refine below_set ?_ GE151.out) | exact HB.out)); (case side2 => exact Kd.R_tight rfl HO0_3.out); rintro e w11 ⟨rfl, hy0, hb, hkp⟩; refine ⟨_, rfl, ?_⟩; have n0_ := Aside0.mk (Kd.R_mono (ok' := fun k_ => ((P0_2_ k_ ∨ P0_3_ k_) ∨ w.heap.size ≤ k_)) (Kd.R_keptB ((Kd.R_apart' HO0_2.out (Kd.R_typed HO0_3.out) (by decide))) hkp (fun k_ hk_ hs_ => (hk_.2) hs_)) (fun k_ hk_ => hk_.1.1)); have n1_ := Aside0.mk (Kd.R_reok rfl hy0 (fun k_ e_ => HO0_3.out.1 k_ e_)); have n2_ := Aside0.mk (blk_kept (by (with_reducible repeat (first | refine blk_drewN ?_ _ | refine blk_drew ?_ | refine blk_alloc ?_ _)); exact BK151.out) hkp (fun hs_ => (fun e_ => (Kd.R_ne HO0_3.out BK151.out (by decide)) e_) hs_)); have n3_ := Aside0.mk (Kept.then_ (S := (fun k_ => P0_2_ k_ ∨ P0_3_ k_)) (by repeat (first | (with_reducible first | exact HK.out | apply Kept.alloc | apply Kept.drewN | apply Kept.drew | refine Kept.setCell ?_ (.inr GW151.out) _) | exact HK.out)) hkp (fun k_ hs_ => (fun e_ => (HO0_3.out.1 k_ e_.symm)) hs_)); have n4_ := Aside0.mk (hb); clear HO0_2; clear HO0_3; clear BK151; clear HK; clear HB; have HO0_2 := n0_; have HO0_3 := n1_; have BK151 := n2_; have HK := n3_; have HB := n4_; clear n0_ n1_ n2_ n3_ n4_; (try clear hb); (try clear hkp); (try clear hy0)))
  go_ret
  exact ⟨by first | rfl | (simp [errW_none, errW_some] <;> rfl) | (simp [*, errW_none, errW_some] <;> rfl), by (with_reducible repeat (first | apply Kd.R_alloc | apply Kd.R_drewN | apply Kd.R_drew)); exact HO0_2.out, by (with_reducible repeat (first | apply Kd.R_alloc | apply Kd.R_drewN | apply Kd.R_drew)); exact HO0_3.out, by repeat (first | (with_reducible first | exact HB.out | apply below_alloc | apply pw_below_drewN | apply below_drew1 | refine below_set ?_ GE151.out) | exact HB.out), by repeat (first | (with_reducible first | exact HK.out | apply Kept.alloc | apply Kept.drewN | apply Kept.drew | refine Kept.setCell ?_ (.inr GW151.out) _) | exact HK.out)⟩

end Go.Proofs.Ytdamnfkpfhoahaa.PFnExactNewState
