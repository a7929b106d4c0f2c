-- PRINTED BY print.sh 35421559b90ae4d0a3588c463048766b98c2df88dd9212a6774a882060cdf62d: not written by this session
import Derived.Test.YtmljefpcjlelmaaPFnSessionsJoinx0
import Derived.Test.YtmljefpcjlelmaaPFnSessionsJoinx1
namespace Go.Proofs.Ytmljefpcjlelmaa.PFnSessionsJoin
open Go.RowKit Go.Proofs.YtmljefpcjlelmaaW.PrintWords Go.Proofs.YtmljefpcjlelmaaW.PrintLast Go.Proofs.YtmljefpcjlelmaaW.PrintMore
attribute [local go_sem] max2_int min2_int max_two min_two max_three min_three max_four min_four   -- for this text's walks alone
set_option linter.unusedVariables false
set_option linter.unusedSimpArgs false

attribute [local go_sem high] eqA35
/-! ### laws_hasSession: function 31 -/
def laws_hasSession.l0 : Nat → List (S35) → Int → Int → Int → Int → Option (Bool)
  | 0, _, _, _, _, _ => none
  | k + 1, x0, x5, x186000, x186001, x186002 => if x5 < (x0.length : Int) then (if 0 ≤ x5 then (if (((rd_T35 x0 x5).f0) == x186000 && (((rd_T35 x0 x5).f1) == x186001 && (((rd_T35 x0 x5).f2) == x186002))) = true then (some true) else (laws_hasSession.l0 k x0 (wrap64 (x5 + 1)) x186000 x186001 x186002)) else (none)) else (some false)
def laws_hasSession.f (k : Nat) (l0 : List (S35)) (a1_0 : Int) (a1_1 : Int) (a1_2 : Int) : Option (Bool) := laws_hasSession.l0 k l0 0 a1_0 a1_1 a1_2
theorem laws_hasSession.mono_l : ∀ k, (∀ y0 y1 y2 y3 y4, LeO (laws_hasSession.l0 k y0 y1 y2 y3 y4) (laws_hasSession.l0 (k + 1) y0 y1 y2 y3 y4))
  | 0 => fun _ _ _ _ _ r h => by simp [laws_hasSession.l0] at h
  | k + 1 => by
    have ih0 := laws_hasSession.mono_l k
    · intro y0 y1 y2 y3 y4
      unfold laws_hasSession.l0
      repeat' first
      | (with_reducible exact ih0 _ _ _ _ _)
      | (with_reducible exact LeO.refl _)
      | (with_reducible exact LeO.none _)
      | (with_reducible refine LeO.ite ?_ ?_)
      | (with_reducible refine LeO.bind ?_ (fun _ => ?_))
      | exact ih0 _ _ _ _ _
      | exact LeO.none _
      | refine LeO.ite ?_ ?_
      | refine LeO.bind ?_ (fun _ => ?_)
theorem laws_hasSession.mono : ∀ a0 a1 a2 a3 k, LeO (laws_hasSession.f k a0 a1 a2 a3) (laws_hasSession.f (k + 1) a0 a1 a2 a3) := by
  intro a0 a1 a2 a3 k
  have ih0 := laws_hasSession.mono_l k
  unfold laws_hasSession.f
  repeat' first
      | (with_reducible exact ih0 _ _ _ _ _)
      | (with_reducible exact LeO.refl _)
      | (with_reducible exact LeO.none _)
      | (with_reducible refine LeO.ite ?_ ?_)
      | (with_reducible refine LeO.bind ?_ (fun _ => ?_))
      | exact ih0 _ _ _ _ _
      | exact LeO.none _
      | refine LeO.ite ?_ ?_
      | refine LeO.bind ?_ (fun _ => ?_)
set_option maxHeartbeats 8000000 in
set_option maxRecDepth 100000 in
theorem laws_hasSession.calls (k : Nat) (A0 : Option Addr) (c0 : Nat) (l0 : List (S35)) (a1_0 : Int) (a1_1 : Int) (a1_2 : Int) (r : Bool) (w : World) (hr0 : Kd.C k35 w A0 l0.length l0) (hc0 : l0.length ≤ c0) (h : laws_hasSession.f k l0 a1_0 a1_1 a1_2 = some r) :
    Calls Try.prog 31 #[.slice A0 l0.length c0, .agg #[.int .i64 a1_0, .int .i64 a1_1, .int .i64 a1_2]] w fun e w' => e = .returned (.bool r) ∧ Below w.heap.size w w' := by
  have hu35 := Try.underlying35
  have HR0 := Aside0.mk hr0
  have HC0 := Aside0.mk hc0
  clear hr0 hc0
  have HB := Aside0.mk (Below.refl w.heap.size w)
  have H : (laws_hasSession.l0 k l0 0 a1_0 a1_1 a1_2) = some r := h
  clear h
  have H' := Aside0.mk H
  clear H
  go_enter Try.func31, Try.ntmps31
  go_wp2_with (first | ((with_reducible refine gate_dst (N := 3) rfl ?_); refine box_event ?hg (N := 3) ?hd (cs := #[.int .i64 a1_0, .int .i64 a1_1, .int .i64 a1_2]) (t := 35) ?hr ?_; (case hd => rfl); (case hg => rfl); (case hr => first | (go_simp; done) | (go_simp; rfl)); intro gb185 hg w3 hbox hb; have n0_ := Aside0.mk (below_step (by repeat (first | (with_reducible first | exact HB.out | apply below_alloc | apply pw_below_drewN | apply below_drew1) | exact HB.out)) hb); have n1_ := Aside0.mk (hbox); have n2_ := Aside0.mk ((by rw [hg]; exact (below_size (by repeat (first | (with_reducible first | exact HB.out | apply below_alloc | apply pw_below_drewN | apply below_drew1) | exact HB.out))) : w.heap.size ≤ gb185)); have n3_ := Aside0.mk ((by rw [hg]; exact (below_size (by repeat (first | (with_reducible first | exact HB.out | apply below_alloc | apply pw_below_drewN | apply below_drew1) | exact HB.out))) : w.heap.size ≤ gb185)); clear HB; have HB := n0_; have BK185 := n1_; have GW185 := n2_; have GE185 := n3_; clear n0_ n1_ n2_ n3_; clear hb hbox hg))
  repeat (go_quiet (first | ((with_reducible refine gate_dst (N := 3) rfl ?_); refine box_event ?hg (N := 3) ?hd (cs := #[.int .i64 a1_0, .int .i64 a1_1, .int .i64 a1_2]) (t := 35) ?hr ?_; (case hd => rfl); (case hg => rfl); (case hr => first | (go_simp; done) | (go_simp; rfl)); intro gb185 hg w3 hbox hb; have n0_ := Aside0.mk (below_step (by repeat (first | (with_reducible first | exact HB.out | apply below_alloc | apply pw_below_drewN | apply below_drew1) | exact HB.out)) hb); have n1_ := Aside0.mk (hbox); have n2_ := Aside0.mk ((by rw [hg]; exact (below_size (by repeat (first | (with_reducible first | exact HB.out | apply below_alloc | apply pw_below_drewN | apply below_drew1) | exact HB.out))) : w.heap.size ≤ gb185)); have n3_ := Aside0.mk ((by rw [hg]; exact (below_size (by repeat (first | (with_reducible first | exact HB.out | apply below_alloc | apply pw_below_drewN | apply below_drew1) | exact HB.out))) : w.heap.size ≤ gb185)); clear HB; have HB := n0_; have BK185 := n1_; have GW185 := n2_; have GE185 := n3_; clear n0_ n1_ n2_ n3_; clear hb hbox hg)); try go_wp2_with (first | ((with_reducible refine gate_dst (N := 3) rfl ?_); refine box_event ?hg (N := 3) ?hd (cs := #[.int .i64 a1_0, .int .i64 a1_1, .int .i64 a1_2]) (t := 35) ?hr ?_; (case hd => rfl); (case hg => rfl); (case hr => first | (go_simp; done) | (go_simp; rfl)); intro gb185 hg w3 hbox hb; have n0_ := Aside0.mk (below_step (by repeat (first | (with_reducible first | exact HB.out | apply below_alloc | apply pw_below_drewN | apply below_drew1) | exact HB.out)) hb); have n1_ := Aside0.mk (hbox); have n2_ := Aside0.mk ((by rw [hg]; exact (below_size (by repeat (first | (with_reducible first | exact HB.out | apply below_alloc | apply pw_below_drewN | apply below_drew1) | exact HB.out))) : w.heap.size ≤ gb185)); have n3_ := Aside0.mk ((by rw [hg]; exact (below_size (by repeat (first | (with_reducible first | exact HB.out | apply below_alloc | apply pw_below_drewN | apply below_drew1) | exact HB.out))) : w.heap.size ≤ gb185)); clear HB; have HB := n0_; have BK185 := n1_; have GW185 := n2_; have GE185 := n3_; clear n0_ n1_ n2_ n3_; clear hb hbox hg)))
  go_loopg [5] k (fun kq v5 w' => ∃ (x5_1 : Int), v5 = .int .i64 x5_1 ∧ Aside0 (laws_hasSession.l0 kq l0 x5_1 a1_0 a1_1 a1_2 = some r) ∧ Aside0 (kq ≤ k) ∧ Aside0 (w'.heap[gb185]? = some (.cells #[.int .i64 a1_0, .int .i64 a1_1, .int .i64 a1_2] 35 (0, 0))) ∧ Aside0 (Below w.heap.size w w'))
  case atStart => exact ⟨(0), (by first | rfl | (simp; done) | (simp [*]; done)), H', ⟨Nat.le_refl _⟩, ⟨by (with_reducible repeat (first | refine blk_drewN ?_ _ | refine blk_drew ?_ | refine blk_alloc ?_ _)); exact BK185.out⟩, ⟨by repeat (first | (with_reducible first | exact HB.out | apply below_alloc | apply pw_below_drewN | apply below_drew1 | refine below_set ?_ GE185.out) | exact HB.out)⟩⟩
  case round =>
    clear H'
    try clear p2
    try clear c3
    obtain ⟨x5_1, rfl, HA, HK1, BK185, HB⟩ := hrel
    cases gk with
    | zero => exact absurd HA.out (by simp [laws_hasSession.l0])
    | succ k1 =>
      have H := HA.out
      clear HA
      simp only [laws_hasSession.l0] at H
      by_cases c4 : x5_1 < (l0.length : Int)
      · rw [if_pos c4] at H
        have c4b0 : decide (x5_1 < (l0.length : Int)) = true := decide_eq_true c4
        clear c4
        by_cases c5 : 0 ≤ x5_1
        · rw [if_pos c5] at H
          have c5b0 : decide (0 ≤ x5_1) = true := decide_eq_true c5
          clear c5
          by_cases c6 : (((rd_T35 l0 x5_1).f0) == a1_0 && (((rd_T35 l0 x5_1).f1) == a1_1 && (((rd_T35 l0 x5_1).f2) == a1_2))) = true
          · rw [if_pos c6] at H
            have c6b0 : (((rd_T35 l0 x5_1).f0) == a1_0 && (((rd_T35 l0 x5_1).f1) == a1_1 && (((rd_T35 l0 x5_1).f2) == a1_2))) = true := c6
            (try (have c6b1 : decide (((rd_T35 l0 x5_1).f0) = a1_0 && (((rd_T35 l0 x5_1).f1) == a1_1 && (((rd_T35 l0 x5_1).f2) == a1_2))) = true := by simpa using c6))
            (try (have c6b2 : (((rd_T35 l0 x5_1).f0) == a1_0 && (((rd_T35 l0 x5_1).f1) == a1_1 && (((rd_T35 l0 x5_1).f2) == a1_2))) = true := by simpa using c6))
            clear c6
            obtain rfl := Option.some.inj H
            have p186 : 0 ≤ (x5_1 : Int) := of_decide_eq_true (by first | (with_reducible assumption) | assumption)
            have q186 : x5_1 < (l0.length : Int) := of_decide_eq_true (by first | (with_reducible assumption) | assumption)
            obtain ⟨ad186, e186, hx186_0, hx186_1, hx186_2⟩ := at_T35 HR0.out x5_1 p186 q186
            cases e186
            replace hx186_0 := (HB.out.cell (World.block_lt_of_cell? w _ hx186_0)).trans hx186_0
            replace hx186_1 := (HB.out.cell (World.block_lt_of_cell? w _ hx186_1)).trans hx186_1
            replace hx186_2 := (HB.out.cell (World.block_lt_of_cell? w _ hx186_2)).trans hx186_2
            replace p186 := eq_true p186
            replace q186 := eq_true q186
            have hcz7_0 : wr.cell? ⟨gb185, 0, none⟩ = some (.int .i64 a1_0) := (blk_cell BK185.out 0).trans rfl
            have hcz7_1 : wr.cell? ⟨gb185, 1, none⟩ = some (.int .i64 a1_1) := (blk_cell BK185.out 1).trans rfl
            have hcz7_2 : wr.cell? ⟨gb185, 2, none⟩ = some (.int .i64 a1_2) := (blk_cell BK185.out 2).trans rfl
            have hfz7_0 := blk_frozen BK185.out 0
            have hfz7_1 := blk_frozen BK185.out 1
            have hfz7_2 := blk_frozen BK185.out 2
            go_wp2
            repeat (go_quiet (fail); try go_wp2)
            go_ret
            exact ⟨by first | rfl | (simp [errW_none, errW_some] <;> rfl) | (simp [*, errW_none, errW_some] <;> rfl), by repeat (first | (with_reducible first | exact HB.out | apply below_alloc | apply pw_below_drewN | apply below_drew1 | refine below_set ?_ GE185.out) | exact HB.out)⟩
          · rw [if_neg c6] at H
            have c6b0 : (((rd_T35 l0 x5_1).f0) == a1_0 && (((rd_T35 l0 x5_1).f1) == a1_1 && (((rd_T35 l0 x5_1).f2) == a1_2))) = false := by simpa using c6
            (try (have c6b1 : decide (((rd_T35 l0 x5_1).f0) = a1_0 && (((rd_T35 l0 x5_1).f1) == a1_1 && (((rd_T35 l0 x5_1).f2) == a1_2))) = false := by simpa using c6))
            (try (have c6b2 : (((rd_T35 l0 x5_1).f0) == a1_0 && (((rd_T35 l0 x5_1).f1) == a1_1 && (((rd_T35 l0 x5_1).f2) == a1_2))) = false := by simpa using c6))
            (try (have c6b3 : ¬ (((rd_T35 l0 x5_1).f0) = a1_0 && (((rd_T35 l0 x5_1).f1) == a1_1 && (((rd_T35 l0 x5_1).f2) == a1_2))) := by simpa using c6))
            clear c6
            have H' := Aside0.mk H
            clear H
            have p186 : 0 ≤ (x5_1 : Int) := of_decide_eq_true (by first | (with_reducible assumption) | assumption)
            have q186 : x5_1 < (l0.length : Int) := of_decide_eq_true (by first | (with_reducible assumption) | assumption)
            obtain ⟨ad186, e186, hx186_0, hx186_1, hx186_2⟩ := at_T35 HR0.out x5_1 p186 q186
            cases e186
            replace hx186_0 := (HB.out.cell (World.block_lt_of_cell? w _ hx186_0)).trans hx186_0
            replace hx186_1 := (HB.out.cell (World.block_lt_of_cell? w _ hx186_1)).trans hx186_1
            replace hx186_2 := (HB.out.cell (World.block_lt_of_cell? w _ hx186_2)).trans hx186_2
            replace p186 := eq_true p186
            replace q186 := eq_true q186
            have hcz8_0 : wr.cell? ⟨gb185, 0, none⟩ = some (.int .i64 a1_0) := (blk_cell BK185.out 0).trans rfl
            have hcz8_1 : wr.cell? ⟨gb185, 1, none⟩ = some (.int .i64 a1_1) := (blk_cell BK185.out 1).trans rfl
            have hcz8_2 : wr.cell? ⟨gb185, 2, none⟩ = some (.int .i64 a1_2) := (blk_cell BK185.out 2).trans rfl
            have hfz8_0 := blk_frozen BK185.out 0
            have hfz8_1 := blk_frozen BK185.out 1
            have hfz8_2 := blk_frozen BK185.out 2
            go_wp2
            repeat (go_quiet (fail); try go_wp2)
            go_roundg k1
            case measure => have := HK1.out; omega
            case rel => exact ⟨(wrap64 (x5_1 + 1)), (by first | rfl | (simp; done) | (simp [*]; done)), H', ⟨by have := HK1.out; omega⟩, ⟨by (with_reducible repeat (first | refine blk_drewN ?_ _ | refine blk_drew ?_ | refine blk_alloc ?_ _)); exact BK185.out⟩, ⟨by repeat (first | (with_reducible first | exact HB.out | apply below_alloc | apply pw_below_drewN | apply below_drew1 | refine below_set ?_ GE185.out) | exact HB.out)⟩⟩
        · rw [if_neg c5] at H
          exact absurd H (by simp)
      · rw [if_neg c4] at H
        have c4b0 : decide (x5_1 < (l0.length : Int)) = false := decide_eq_false c4
        clear c4
        obtain rfl := Option.some.inj H
        go_wp2
        repeat (go_quiet (fail); try go_wp2)
        go_ret
        exact ⟨by first | rfl | (simp [errW_none, errW_some] <;> rfl) | (simp [*, errW_none, errW_some] <;> rfl), by repeat (first | (with_reducible first | exact HB.out | apply below_alloc | apply pw_below_drewN | apply below_drew1 | refine below_set ?_ GE185.out) | exact HB.out)⟩

end Go.Proofs.Ytmljefpcjlelmaa.PFnSessionsJoin
