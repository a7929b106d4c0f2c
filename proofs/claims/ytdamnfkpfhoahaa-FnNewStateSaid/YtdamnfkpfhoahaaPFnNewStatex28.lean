/- impl_PairsValid by hand (its printed text falls in Lean: two strings are compared by >=). -/
import Derived.Test.YtdamnfkpfhoahaaPFnNewStatex0
import Derived.Test.YtdamnfkpfhoahaaPFnNewStatex5
import Derived.Test.YtdamnfkpfhoahaaPFnNewStatex27
namespace Go.Proofs.Ytdamnfkpfhoahaa.PFnNewState
open Go.RowKit Go.Proofs.YtdamnfkpfhoahaaW.PrintWords Go.Proofs.YtdamnfkpfhoahaaW.PrintLast Go.Proofs.YtdamnfkpfhoahaaW.PrintMore
set_option linter.unusedVariables false
set_option linter.unusedSimpArgs false
def impl_PairsValid.bits (m : Nat) : Array Bool := ((List.range 13).map fun i => m.testBit i).toArray
theorem impl_PairsValid.geq_str (t : TypeId) (a b : ByteArray) : binOp .geq t (.string a) (.string b) = pure (.bool !(Op.bytesLess a.toList b.toList)) := by simp [binOp, Op.stringOp]
def impl_PairsValid.l0 : Nat → List S76 → Nat → Option Bool
  | 0, _, _ => none
  | k + 1, l, j => if j < l.length then (impl_KeyValid.f k (rd_T76 l (j : Int)).f0).bind fun t => if t = true then (impl_valueValid.f (rd_T76 l (j : Int)).f1).bind fun u => if u = true then
      (if j = 0 then impl_PairsValid.l0 k l (j + 1) else if Op.bytesLess (rd_T76 l ((j - 1 : Nat) : Int)).f0.toList (rd_T76 l (j : Int)).f0.toList = true then impl_PairsValid.l0 k l (j + 1) else some false)
      else some false else some false else some true
def impl_PairsValid.f (k : Nat) (l : List S76) : Option Bool := if (l.length : Int) > 48 then some false else impl_PairsValid.l0 k l 0
theorem impl_PairsValid.mono_l : ∀ (k : Nat) (l : List S76) (j : Nat), LeO (impl_PairsValid.l0 k l j) (impl_PairsValid.l0 (k + 1) l j)
  | 0, _, _ => fun r h => by simp [impl_PairsValid.l0] at h
  | k + 1, l, j => by
    have ih := impl_PairsValid.mono_l k l (j + 1)
    unfold impl_PairsValid.l0
    exact LeO.ite (LeO.bind (impl_KeyValid.mono _ _) fun _ => LeO.ite (LeO.bind (LeO.refl _) fun _ => LeO.ite (LeO.ite ih (LeO.ite ih (LeO.refl _))) (LeO.refl _)) (LeO.refl _)) (LeO.refl _)
theorem impl_PairsValid.mono : ∀ a0 k, LeO (impl_PairsValid.f k a0) (impl_PairsValid.f (k + 1) a0) := by
  intro a0 k
  unfold impl_PairsValid.f
  exact LeO.ite (LeO.refl _) (impl_PairsValid.mono_l k a0 0)
def impl_PairsValid.T8 : Bool × List (List Nat × List Nat) := (true, [([], []), ([0], [0]), ([1], [1]), ([2], [2]), ([2], [2]), ([4, 2], [2, 4]), ([3, 5, 2], [2, 3, 5]), ([6, 2], [2, 6]), ([7, 2], [2, 7]), ([2], [2]), ([9, 2], [2, 9]), ([8, 10, 2], [2, 8, 10]), ([2, 11], [2, 11])])
def impl_PairsValid.B8 : List Nat := [0, 1, 3, 7, 7, 23, 63, 127, 255, 7, 519, 2047, 4095]
theorem impl_PairsValid.tab8 : rtab .any (opsOf Try.f58 8) = impl_PairsValid.T8 := by kernel_rfl
theorem impl_PairsValid.bits8 : waitsOk impl_PairsValid.T8.2 impl_PairsValid.B8 = true := by kernel_rfl

set_option maxHeartbeats 8000000 in
set_option maxRecDepth 100000 in
theorem impl_PairsValid.calls (k : Nat) (A0 : Option Addr) (c0 : Nat) (l0 : List S76) (r : Bool) (w : World) (hr0 : Kd.C k76 w A0 l0.length l0) (hc0 : l0.length ≤ c0) (h : impl_PairsValid.f k l0 = some r) :
    Calls Try.prog 58 #[.slice A0 l0.length c0] w fun e w' => e = .returned (.bool r) ∧ Below w.heap.size w w' := by
  have hu := Try.underlying76
  have HR0 := Aside0.mk hr0
  clear hr0
  unfold impl_PairsValid.f at h
  by_cases hl : (l0.length : Int) > 48
  · rw [if_pos hl] at h
    obtain rfl := Option.some.inj h
    have cl : decide (48 < (l0.length : Int)) = true := decide_eq_true hl
    clear h hl
    go_enter Try.func58, Try.ntmps58
    go_wp2
    go_ret
    exact ⟨rfl, Below.refl _ _⟩
  · rw [if_neg hl] at h
    have H' := Aside0.mk h
    have cl : decide (48 < (l0.length : Int)) = false := decide_eq_false hl
    have L48 := Aside0.mk (show l0.length ≤ 48 by omega)
    clear h hl
    go_enter Try.func58, Try.ntmps58
    go_wp2
    go_loopg [10] k (fun kq v10 w' => ∃ j : Nat, v10 = .int .i64 (j : Int) ∧ j ≤ l0.length ∧ Aside0 (impl_PairsValid.l0 kq l0 j = some r) ∧ Aside0 (Below w.heap.size w w'))
    case atStart => exact ⟨0, rfl, Nat.zero_le _, H', ⟨Below.refl _ _⟩⟩
    case round =>
      clear H' cl
      obtain ⟨j, rfl, hjl, HA, HB⟩ := hrel
      cases gk with
      | zero => exact absurd HA.out (by simp [impl_PairsValid.l0])
      | succ k1 =>
        have H := HA.out
        clear HA
        simp only [impl_PairsValid.l0] at H
        by_cases hj : j < l0.length
        · rw [if_pos hj] at H
          have cj : decide ((j : Int) < (l0.length : Int)) = true := decide_eq_true (by omega)
          replace H := Option.bind_eq_some_iff.mp H
          obtain ⟨t, h1, H⟩ := H
          have J1 := Aside0.mk h1
          clear h1
          have h48 := L48.out
          obtain ⟨ad, hA, y0, y1⟩ := at_T76 (Kd.C_below HR0.out HB.out) (j : Int) (by omega) (by omega)
          cases hA
          rw [Int.toNat_natCast] at y0 y1
          have j1 := eq_true (show (j : Int) < (l0.length : Int) by omega)
          have j2 := eq_true hj
          cases t with
          | false =>
            rw [if_neg (by simp)] at H
            obtain rfl := Option.some.inj H
            clear H
            go_wp2_with (first
              | ((with_reducible refine gate_dst (N := 4) rfl ?_); refine box_event ?hg (N := 4) ?hd (cs := #[.string (⟨#[]⟩ : ByteArray), .int .i64 0]) (t := 76) ?hr ?_; (case hd => rfl); (case hg => rfl); (case hr => first | (go_simp; done) | (go_simp; rfl)); intro g hg w1 hc hbb; have B1 := Aside0.mk (below_step HB.out hbb); have HB1 := Aside0.mk hbb; have LG := Aside0.mk (Nat.le_of_eq hg.symm); have F1 := Aside0.mk hc; clear hc hbb hg; have e0 : w1.cell? ⟨g, 0, none⟩ = some (.string (⟨#[]⟩ : ByteArray)) := (blk_cell F1.out 0).trans rfl; have e1 : w1.cell? ⟨g, 1, none⟩ = some (.int .i64 0) := (blk_cell F1.out 1).trans rfl; have f0 := blk_frozen F1.out 0; have f1 := blk_frozen F1.out 1)
              | ((with_reducible refine gate_store (t := 76) (p := 4) rfl ?_); refine store_event (t := 76) (p := 4) (v := ?vo_s) (w1 := ((w1.setCell ⟨g, 0, none⟩ (.string (rd_T76 l0 (j : Int)).f0)).setCell ⟨g, 1, none⟩ (.int .i64 (rd_T76 l0 (j : Int)).f1))) ?hg ?ho ?hn ?hr ?_; (case ho => rfl); (case hg => rfl); (case hn => rfl); (case hr => first | (go_simp; done) | (go_simp; rfl)); intro w2 hw; have F2 := Aside0.mk (show w2.heap[g]? = some (.cells #[.string (rd_T76 l0 (j : Int)).f0, .int .i64 (rd_T76 l0 (j : Int)).f1] 76 (0, 0)) from hw ▸ blk_put (blk_put F1.out 0 _ rfl) 1 _ rfl); have B2 := Aside0.mk (below_step HB.out (show Below wr.heap.size wr w2 from hw ▸ below_set (below_set HB1.out LG.out) LG.out)); clear hw; have c2_0 : w2.cell? ⟨g, 0, none⟩ = some (.string (rd_T76 l0 (j : Int)).f0) := (blk_cell F2.out 0).trans rfl; have c2_1 : w2.cell? ⟨g, 1, none⟩ = some (.int .i64 (rd_T76 l0 (j : Int)).f1) := (blk_cell F2.out 1).trans rfl)
              | (go_at_call 39; (with_reducible refine (impl_KeyValid.calls k1 (rd_T76 l0 (j : Int)).f0 false w2 J1.out).mono ?_); rintro e w3 ⟨rfl, ⟨nd, hw⟩⟩; have hb := (show Below w2.heap.size w2 w3 from hw ▸ pw_below_drewN (Below.refl _ _) nd); clear hw; have F3 := Aside0.mk (blk_below F2.out hb); have B3 := Aside0.mk (below_step B2.out hb); clear hb; have c3_0 : w3.cell? ⟨g, 0, none⟩ = some (.string (rd_T76 l0 (j : Int)).f0) := (blk_cell F3.out 0).trans rfl; have c3_1 : w3.cell? ⟨g, 1, none⟩ = some (.int .i64 (rd_T76 l0 (j : Int)).f1) := (blk_cell F3.out 1).trans rfl))
            go_ret
            exact ⟨rfl, B3.out⟩
          | true =>
            rw [if_pos rfl] at H
            replace H := Option.bind_eq_some_iff.mp H
            obtain ⟨u, h2, H⟩ := H
            have J2 := Aside0.mk h2
            clear h2
            cases u with
            | false =>
              rw [if_neg (by simp)] at H
              obtain rfl := Option.some.inj H
              clear H
              go_wp2_with (first
                | ((with_reducible refine gate_dst (N := 4) rfl ?_); refine box_event ?hg (N := 4) ?hd (cs := #[.string (⟨#[]⟩ : ByteArray), .int .i64 0]) (t := 76) ?hr ?_; (case hd => rfl); (case hg => rfl); (case hr => first | (go_simp; done) | (go_simp; rfl)); intro g hg w1 hc hbb; have B1 := Aside0.mk (below_step HB.out hbb); have HB1 := Aside0.mk hbb; have LG := Aside0.mk (Nat.le_of_eq hg.symm); have F1 := Aside0.mk hc; clear hc hbb hg; have e0 : w1.cell? ⟨g, 0, none⟩ = some (.string (⟨#[]⟩ : ByteArray)) := (blk_cell F1.out 0).trans rfl; have e1 : w1.cell? ⟨g, 1, none⟩ = some (.int .i64 0) := (blk_cell F1.out 1).trans rfl; have f0 := blk_frozen F1.out 0; have f1 := blk_frozen F1.out 1)
                | ((with_reducible refine gate_store (t := 76) (p := 4) rfl ?_); refine store_event (t := 76) (p := 4) (v := ?vo_s) (w1 := ((w1.setCell ⟨g, 0, none⟩ (.string (rd_T76 l0 (j : Int)).f0)).setCell ⟨g, 1, none⟩ (.int .i64 (rd_T76 l0 (j : Int)).f1))) ?hg ?ho ?hn ?hr ?_; (case ho => rfl); (case hg => rfl); (case hn => rfl); (case hr => first | (go_simp; done) | (go_simp; rfl)); intro w2 hw; have F2 := Aside0.mk (show w2.heap[g]? = some (.cells #[.string (rd_T76 l0 (j : Int)).f0, .int .i64 (rd_T76 l0 (j : Int)).f1] 76 (0, 0)) from hw ▸ blk_put (blk_put F1.out 0 _ rfl) 1 _ rfl); have B2 := Aside0.mk (below_step HB.out (show Below wr.heap.size wr w2 from hw ▸ below_set (below_set HB1.out LG.out) LG.out)); clear hw; have c2_0 : w2.cell? ⟨g, 0, none⟩ = some (.string (rd_T76 l0 (j : Int)).f0) := (blk_cell F2.out 0).trans rfl; have c2_1 : w2.cell? ⟨g, 1, none⟩ = some (.int .i64 (rd_T76 l0 (j : Int)).f1) := (blk_cell F2.out 1).trans rfl)
                | (go_at_call 39; (with_reducible refine (impl_KeyValid.calls k1 (rd_T76 l0 (j : Int)).f0 true w2 J1.out).mono ?_); rintro e w3 ⟨rfl, ⟨nd, hw⟩⟩; have hb := (show Below w2.heap.size w2 w3 from hw ▸ pw_below_drewN (Below.refl _ _) nd); clear hw; have F3 := Aside0.mk (blk_below F2.out hb); have B3 := Aside0.mk (below_step B2.out hb); clear hb; have c3_0 : w3.cell? ⟨g, 0, none⟩ = some (.string (rd_T76 l0 (j : Int)).f0) := (blk_cell F3.out 0).trans rfl; have c3_1 : w3.cell? ⟨g, 1, none⟩ = some (.int .i64 (rd_T76 l0 (j : Int)).f1) := (blk_cell F3.out 1).trans rfl)
                | (go_at_call 40; (with_reducible refine (impl_valueValid.calls (rd_T76 l0 (j : Int)).f1 false w3 J2.out).mono ?_); rintro e w4 ⟨rfl, ⟨nd, hw⟩⟩; have hb := (show Below w3.heap.size w3 w4 from hw ▸ pw_below_drewN (Below.refl _ _) nd); clear hw; have F4 := Aside0.mk (blk_below F3.out hb); have B4 := Aside0.mk (below_step B3.out hb); clear hb; have c4_0 : w4.cell? ⟨g, 0, none⟩ = some (.string (rd_T76 l0 (j : Int)).f0) := (blk_cell F4.out 0).trans rfl; have c4_1 : w4.cell? ⟨g, 1, none⟩ = some (.int .i64 (rd_T76 l0 (j : Int)).f1) := (blk_cell F4.out 1).trans rfl))
              go_ret
              exact ⟨rfl, B4.out⟩
            | true =>
              rw [if_pos rfl] at H
              by_cases hz : j = 0
              · rw [if_pos hz] at H
                have dz : decide (0 < (j : Int)) = false := decide_eq_false (by omega)
                have dz2 : decide (0 < j) = false := decide_eq_false (by omega)
                clear hz
                go_wp2_with (first
                  | ((with_reducible refine gate_dst (N := 4) rfl ?_); refine box_event ?hg (N := 4) ?hd (cs := #[.string (⟨#[]⟩ : ByteArray), .int .i64 0]) (t := 76) ?hr ?_; (case hd => rfl); (case hg => rfl); (case hr => first | (go_simp; done) | (go_simp; rfl)); intro g hg w1 hc hbb; have B1 := Aside0.mk (below_step HB.out hbb); have HB1 := Aside0.mk hbb; have LG := Aside0.mk (Nat.le_of_eq hg.symm); have F1 := Aside0.mk hc; clear hc hbb hg; have e0 : w1.cell? ⟨g, 0, none⟩ = some (.string (⟨#[]⟩ : ByteArray)) := (blk_cell F1.out 0).trans rfl; have e1 : w1.cell? ⟨g, 1, none⟩ = some (.int .i64 0) := (blk_cell F1.out 1).trans rfl; have f0 := blk_frozen F1.out 0; have f1 := blk_frozen F1.out 1)
                  | ((with_reducible refine gate_store (t := 76) (p := 4) rfl ?_); refine store_event (t := 76) (p := 4) (v := ?vo_s) (w1 := ((w1.setCell ⟨g, 0, none⟩ (.string (rd_T76 l0 (j : Int)).f0)).setCell ⟨g, 1, none⟩ (.int .i64 (rd_T76 l0 (j : Int)).f1))) ?hg ?ho ?hn ?hr ?_; (case ho => rfl); (case hg => rfl); (case hn => rfl); (case hr => first | (go_simp; done) | (go_simp; rfl)); intro w2 hw; have F2 := Aside0.mk (show w2.heap[g]? = some (.cells #[.string (rd_T76 l0 (j : Int)).f0, .int .i64 (rd_T76 l0 (j : Int)).f1] 76 (0, 0)) from hw ▸ blk_put (blk_put F1.out 0 _ rfl) 1 _ rfl); have B2 := Aside0.mk (below_step HB.out (show Below wr.heap.size wr w2 from hw ▸ below_set (below_set HB1.out LG.out) LG.out)); clear hw; have c2_0 : w2.cell? ⟨g, 0, none⟩ = some (.string (rd_T76 l0 (j : Int)).f0) := (blk_cell F2.out 0).trans rfl; have c2_1 : w2.cell? ⟨g, 1, none⟩ = some (.int .i64 (rd_T76 l0 (j : Int)).f1) := (blk_cell F2.out 1).trans rfl)
                  | (go_at_call 39; (with_reducible refine (impl_KeyValid.calls k1 (rd_T76 l0 (j : Int)).f0 true w2 J1.out).mono ?_); rintro e w3 ⟨rfl, ⟨nd, hw⟩⟩; have hb := (show Below w2.heap.size w2 w3 from hw ▸ pw_below_drewN (Below.refl _ _) nd); clear hw; have F3 := Aside0.mk (blk_below F2.out hb); have B3 := Aside0.mk (below_step B2.out hb); clear hb; have c3_0 : w3.cell? ⟨g, 0, none⟩ = some (.string (rd_T76 l0 (j : Int)).f0) := (blk_cell F3.out 0).trans rfl; have c3_1 : w3.cell? ⟨g, 1, none⟩ = some (.int .i64 (rd_T76 l0 (j : Int)).f1) := (blk_cell F3.out 1).trans rfl)
                  | (go_at_call 40; (with_reducible refine (impl_valueValid.calls (rd_T76 l0 (j : Int)).f1 true w3 J2.out).mono ?_); rintro e w4 ⟨rfl, ⟨nd, hw⟩⟩; have hb := (show Below w3.heap.size w3 w4 from hw ▸ pw_below_drewN (Below.refl _ _) nd); clear hw; have F4 := Aside0.mk (blk_below F3.out hb); have B4 := Aside0.mk (below_step B3.out hb); clear hb; have c4_0 : w4.cell? ⟨g, 0, none⟩ = some (.string (rd_T76 l0 (j : Int)).f0) := (blk_cell F4.out 0).trans rfl; have c4_1 : w4.cell? ⟨g, 1, none⟩ = some (.int .i64 (rd_T76 l0 (j : Int)).f1) := (blk_cell F4.out 1).trans rfl))
                refine start_ (n := 13) (S := fun W => Kd.C k76 W (some ad) l0.length l0 ∧ W.heap[g]? = some (.cells #[.string (rd_T76 l0 (j : Int)).f0, .int .i64 (rd_T76 l0 (j : Int)).f1] 76 (0, 0))) (ds := []) #[false, false, false, false, false, false, false, false, false, false, false, false, false] (by kernel_rfl) rfl rfl (⟨Kd.C_below HR0.out (below_drew1 B4.out), blk_drew F4.out⟩) (fun hHeld => ?_); refine with_tabW impl_PairsValid.tab8 impl_PairsValid.bits8 (fun HT_ HW_ => ?_)
                have B5 := Aside0.mk (below_drew1 B4.out)
                generalize w4.drew = w5 at B5 hHeld ⊢
                refine pure_ (i := 0) (N := some 25) (v := ?_) (a' := ?_) (impl_PairsValid.bits 1) rfl rfl (any_of HT_.out (by kernel_rfl)) (fun _ _ _ h => h) (Or.inl ⟨by rfl, ?_⟩) ?_ ?_
                rotate_left
                · intro w'
                  go_simp
                  with_reducible rfl
                rotate_left
                · simp only [Act.put, List.setIfInBounds_toArray, List.set_cons_zero, List.set_cons_succ, i64_w, i32_w]
                  rfl
                refine pure_ (i := 1) (N := some 26) (v := ?_) (a' := ?_) (impl_PairsValid.bits 3) rfl rfl (any_of HT_.out (by kernel_rfl)) (fun _ _ _ h => h) (Or.inl ⟨by rfl, ?_⟩) ?_ ?_
                rotate_left
                · intro w'
                  go_simp
                  with_reducible rfl
                rotate_left
                · simp only [Act.put, List.setIfInBounds_toArray, List.set_cons_zero, List.set_cons_succ, i64_w, i32_w]
                  rfl
                refine pure_ (i := 2) (N := some 27) (v := ?_) (a' := ?_) (impl_PairsValid.bits 7) rfl rfl (any_of HT_.out (by kernel_rfl)) (fun _ _ _ h => h) (Or.inl ⟨by rfl, ?_⟩) ?_ ?_
                rotate_left
                · intro w'
                  go_simp
                  with_reducible rfl
                rotate_left
                · simp only [Act.put, List.setIfInBounds_toArray, List.set_cons_zero, List.set_cons_succ, i64_w, i32_w]
                  rfl
                refine pure_ (i := 3) (N := some 28) (v := undef) (a' := ?_) (impl_PairsValid.bits 15) rfl rfl (any_of HT_.out (by kernel_rfl)) (fun _ _ _ h => h) (Or.inr ⟨by rfl, rfl⟩) ?_ ?_
                rotate_left
                · simp only [Act.put, List.setIfInBounds_toArray, List.set_cons_zero, List.set_cons_succ, i64_w, i32_w]
                  rfl
                refine pure_ (i := 4) (N := some 29) (v := undef) (a' := ?_) (impl_PairsValid.bits 31) rfl rfl (any_of HT_.out (by kernel_rfl)) (fun _ _ _ h => h) (Or.inr ⟨by rfl, rfl⟩) ?_ ?_
                rotate_left
                · simp only [Act.put, List.setIfInBounds_toArray, List.set_cons_zero, List.set_cons_succ, i64_w, i32_w]
                  rfl
                refine pure_ (i := 5) (N := some 30) (v := undef) (a' := ?_) (impl_PairsValid.bits 63) rfl rfl (any_of HT_.out (by kernel_rfl)) (fun _ _ _ h => h) (Or.inr ⟨by rfl, rfl⟩) ?_ ?_
                rotate_left
                · simp only [Act.put, List.setIfInBounds_toArray, List.set_cons_zero, List.set_cons_succ, i64_w, i32_w]
                  rfl
                refine pure_ (i := 6) (N := some 31) (v := undef) (a' := ?_) (impl_PairsValid.bits 127) rfl rfl (any_of HT_.out (by kernel_rfl)) (fun _ _ _ h => h) (Or.inr ⟨by rfl, rfl⟩) ?_ ?_
                rotate_left
                · simp only [Act.put, List.setIfInBounds_toArray, List.set_cons_zero, List.set_cons_succ, i64_w, i32_w]
                  rfl
                refine pure_ (i := 7) (N := some 32) (v := undef) (a' := ?_) (impl_PairsValid.bits 255) rfl rfl (any_of HT_.out (by kernel_rfl)) (fun _ _ _ h => h) (Or.inr ⟨by rfl, rfl⟩) ?_ ?_
                rotate_left
                · simp only [Act.put, List.setIfInBounds_toArray, List.set_cons_zero, List.set_cons_succ, i64_w, i32_w]
                  rfl
                refine pure_ (i := 8) (N := some 33) (v := undef) (a' := ?_) (impl_PairsValid.bits 511) rfl rfl (any_of HT_.out (by kernel_rfl)) (fun _ _ _ h => h) (Or.inr ⟨by rfl, rfl⟩) ?_ ?_
                rotate_left
                · simp only [Act.put, List.setIfInBounds_toArray, List.set_cons_zero, List.set_cons_succ, i64_w, i32_w]
                  rfl
                refine pure_ (i := 9) (N := some 34) (v := undef) (a' := ?_) (impl_PairsValid.bits 1023) rfl rfl (any_of HT_.out (by kernel_rfl)) (fun _ _ _ h => h) (Or.inr ⟨by rfl, rfl⟩) ?_ ?_
                rotate_left
                · simp only [Act.put, List.setIfInBounds_toArray, List.set_cons_zero, List.set_cons_succ, i64_w, i32_w]
                  rfl
                refine pure_ (i := 10) (N := some 35) (v := undef) (a' := ?_) (impl_PairsValid.bits 2047) rfl rfl (any_of HT_.out (by kernel_rfl)) (fun _ _ _ h => h) (Or.inr ⟨by rfl, rfl⟩) ?_ ?_
                rotate_left
                · simp only [Act.put, List.setIfInBounds_toArray, List.set_cons_zero, List.set_cons_succ, i64_w, i32_w]
                  rfl
                refine pure_ (i := 11) (N := some 36) (v := undef) (a' := ?_) (impl_PairsValid.bits 4095) rfl rfl (any_of HT_.out (by kernel_rfl)) (fun _ _ _ h => h) (Or.inr ⟨by rfl, rfl⟩) ?_ ?_
                rotate_left
                · simp only [Act.put, List.setIfInBounds_toArray, List.set_cons_zero, List.set_cons_succ, i64_w, i32_w]
                  rfl
                refine pure_ (i := 12) (N := some 37) (v := ?_) (a' := ?_) (impl_PairsValid.bits 8191) rfl rfl (any_of HT_.out (by kernel_rfl)) (fun _ _ _ h => h) (Or.inl ⟨by rfl, ?_⟩) ?_ ?_
                rotate_left
                · intro w'
                  go_simp
                  with_reducible rfl
                rotate_left
                · simp only [Act.put, List.setIfInBounds_toArray, List.set_cons_zero, List.set_cons_succ, i64_w, i32_w]
                  rfl
                refine done_ (done_of HT_.out (by kernel_rfl)) ?_
                try go_wp2
                go_roundg k1
                case measure => omega
                case rel => exact ⟨j + 1, congrArg (Value.int .i64) (Int.natCast_succ _).symm, by omega, ⟨H⟩, B5⟩
              · rw [if_neg hz] at H
                have dz : decide (0 < (j : Int)) = true := decide_eq_true (by omega)
                have dz2 : decide (0 < j) = true := decide_eq_true (by omega)
                obtain ⟨i, hi⟩ : ∃ i, j - 1 = i := ⟨_, rfl⟩
                rw [hi] at H
                have WI := Aside0.mk (show (j : Int) - 1 = (i : Int) by omega)
                have hij : i < l0.length := by omega
                have IW := Aside0.mk (show wrap64 (i : Int) = (i : Int) by unfold wrap64; omega)
                have i1 := eq_true (show (i : Int) < (l0.length : Int) by omega)
                have i2 := eq_true (show i < l0.length by omega)
                clear hz hi
                by_cases hb : Op.bytesLess (rd_T76 l0 (i : Int)).f0.toList (rd_T76 l0 (j : Int)).f0.toList = true
                · rw [if_pos hb] at H
                  go_wp2_with (first
                    | ((with_reducible refine gate_dst (N := 4) rfl ?_); refine box_event ?hg (N := 4) ?hd (cs := #[.string (⟨#[]⟩ : ByteArray), .int .i64 0]) (t := 76) ?hr ?_; (case hd => rfl); (case hg => rfl); (case hr => first | (go_simp; done) | (go_simp; rfl)); intro g hg w1 hc hbb; have B1 := Aside0.mk (below_step HB.out hbb); have HB1 := Aside0.mk hbb; have LG := Aside0.mk (Nat.le_of_eq hg.symm); have F1 := Aside0.mk hc; clear hc hbb hg; have e0 : w1.cell? ⟨g, 0, none⟩ = some (.string (⟨#[]⟩ : ByteArray)) := (blk_cell F1.out 0).trans rfl; have e1 : w1.cell? ⟨g, 1, none⟩ = some (.int .i64 0) := (blk_cell F1.out 1).trans rfl; have f0 := blk_frozen F1.out 0; have f1 := blk_frozen F1.out 1)
                    | ((with_reducible refine gate_store (t := 76) (p := 4) rfl ?_); refine store_event (t := 76) (p := 4) (v := ?vo_s) (w1 := ((w1.setCell ⟨g, 0, none⟩ (.string (rd_T76 l0 (j : Int)).f0)).setCell ⟨g, 1, none⟩ (.int .i64 (rd_T76 l0 (j : Int)).f1))) ?hg ?ho ?hn ?hr ?_; (case ho => rfl); (case hg => rfl); (case hn => rfl); (case hr => first | (go_simp; done) | (go_simp; rfl)); intro w2 hw; have F2 := Aside0.mk (show w2.heap[g]? = some (.cells #[.string (rd_T76 l0 (j : Int)).f0, .int .i64 (rd_T76 l0 (j : Int)).f1] 76 (0, 0)) from hw ▸ blk_put (blk_put F1.out 0 _ rfl) 1 _ rfl); have B2 := Aside0.mk (below_step HB.out (show Below wr.heap.size wr w2 from hw ▸ below_set (below_set HB1.out LG.out) LG.out)); clear hw; have c2_0 : w2.cell? ⟨g, 0, none⟩ = some (.string (rd_T76 l0 (j : Int)).f0) := (blk_cell F2.out 0).trans rfl; have c2_1 : w2.cell? ⟨g, 1, none⟩ = some (.int .i64 (rd_T76 l0 (j : Int)).f1) := (blk_cell F2.out 1).trans rfl)
                    | (go_at_call 39; (with_reducible refine (impl_KeyValid.calls k1 (rd_T76 l0 (j : Int)).f0 true w2 J1.out).mono ?_); rintro e w3 ⟨rfl, ⟨nd, hw⟩⟩; have hb := (show Below w2.heap.size w2 w3 from hw ▸ pw_below_drewN (Below.refl _ _) nd); clear hw; have F3 := Aside0.mk (blk_below F2.out hb); have B3 := Aside0.mk (below_step B2.out hb); clear hb; have c3_0 : w3.cell? ⟨g, 0, none⟩ = some (.string (rd_T76 l0 (j : Int)).f0) := (blk_cell F3.out 0).trans rfl; have c3_1 : w3.cell? ⟨g, 1, none⟩ = some (.int .i64 (rd_T76 l0 (j : Int)).f1) := (blk_cell F3.out 1).trans rfl)
                    | (go_at_call 40; (with_reducible refine (impl_valueValid.calls (rd_T76 l0 (j : Int)).f1 true w3 J2.out).mono ?_); rintro e w4 ⟨rfl, ⟨nd, hw⟩⟩; have hb := (show Below w3.heap.size w3 w4 from hw ▸ pw_below_drewN (Below.refl _ _) nd); clear hw; have F4 := Aside0.mk (blk_below F3.out hb); have B4 := Aside0.mk (below_step B3.out hb); clear hb; have c4_0 : w4.cell? ⟨g, 0, none⟩ = some (.string (rd_T76 l0 (j : Int)).f0) := (blk_cell F4.out 0).trans rfl; have c4_1 : w4.cell? ⟨g, 1, none⟩ = some (.int .i64 (rd_T76 l0 (j : Int)).f1) := (blk_cell F4.out 1).trans rfl))
                  refine start_ (n := 13) (S := fun W => Kd.C k76 W (some ad) l0.length l0 ∧ W.heap[g]? = some (.cells #[.string (rd_T76 l0 (j : Int)).f0, .int .i64 (rd_T76 l0 (j : Int)).f1] 76 (0, 0))) (ds := []) #[false, false, false, false, false, false, false, false, false, false, false, false, false] (by kernel_rfl) rfl rfl (⟨Kd.C_below HR0.out (below_drew1 B4.out), blk_drew F4.out⟩) (fun hHeld => ?_); refine with_tabW impl_PairsValid.tab8 impl_PairsValid.bits8 (fun HT_ HW_ => ?_)
                  have B5 := Aside0.mk (below_drew1 B4.out)
                  generalize w4.drew = w5 at B5 hHeld ⊢
                  refine pure_ (i := 0) (N := some 25) (v := ?_) (a' := ?_) (impl_PairsValid.bits 1) rfl rfl (any_of HT_.out (by kernel_rfl)) (fun _ _ _ h => h) (Or.inl ⟨by rfl, ?_⟩) ?_ ?_
                  rotate_left
                  · intro w'
                    go_simp
                    with_reducible rfl
                  rotate_left
                  · simp only [Act.put, List.setIfInBounds_toArray, List.set_cons_zero, List.set_cons_succ, i64_w, i32_w]
                    rfl
                  refine pure_ (i := 1) (N := some 26) (v := ?_) (a' := ?_) (impl_PairsValid.bits 3) rfl rfl (any_of HT_.out (by kernel_rfl)) (fun _ _ _ h => h) (Or.inl ⟨by rfl, ?_⟩) ?_ ?_
                  rotate_left
                  · intro w'
                    go_simp
                    with_reducible rfl
                  rotate_left
                  · simp only [Act.put, List.setIfInBounds_toArray, List.set_cons_zero, List.set_cons_succ, i64_w, i32_w]
                    rfl
                  refine pure_ (i := 2) (N := some 27) (v := ?_) (a' := ?_) (impl_PairsValid.bits 7) rfl rfl (any_of HT_.out (by kernel_rfl)) (fun _ _ _ h => h) (Or.inl ⟨by rfl, ?_⟩) ?_ ?_
                  rotate_left
                  · intro w'
                    go_simp
                    with_reducible rfl
                  rotate_left
                  · simp only [Act.put, List.setIfInBounds_toArray, List.set_cons_zero, List.set_cons_succ, i64_w, i32_w]
                    rfl
                  refine pure_ (i := 3) (N := some 28) (v := ?_) (a' := ?_) (impl_PairsValid.bits 15) rfl rfl (any_of HT_.out (by kernel_rfl)) (fun _ _ _ h => h) (Or.inl ⟨by rfl, ?_⟩) ?_ ?_
                  rotate_left
                  · intro w'
                    go_simp
                    with_reducible rfl
                  rotate_left
                  · simp only [Act.put, List.setIfInBounds_toArray, List.set_cons_zero, List.set_cons_succ, i64_w, i32_w]
                    rfl
                  refine pure_ (i := 4) (N := some 29) (v := ?_) (a' := ?_) (impl_PairsValid.bits 31) rfl rfl (any_of HT_.out (by kernel_rfl)) (fun _ _ _ h => h) (Or.inl ⟨by rfl, ?_⟩) ?_ ?_
                  rotate_left
                  · intro w'
                    go_simp
                    with_reducible rfl
                  rotate_left
                  · simp only [Act.put, List.setIfInBounds_toArray, List.set_cons_zero, List.set_cons_succ, i64_w, i32_w]
                    rfl
                  refine pure_ (i := 5) (N := some 30) (v := .int .i64 (i : Int)) (a' := ?_) (impl_PairsValid.bits 63) rfl rfl (any_of HT_.out (by kernel_rfl)) (fun _ _ _ h => h) (Or.inl ⟨by rfl, ?_⟩) ?_ ?_
                  · intro w'
                    go_simp
                    rw [WI.out]
                    exact (i64_w _).trans IW.out
                  rotate_left
                  · simp only [Act.put, List.setIfInBounds_toArray, List.set_cons_zero, List.set_cons_succ, i64_w, i32_w]
                    rfl
                  refine pure_ (i := 6) (N := some 31) (v := ?_) (a' := ?_) (impl_PairsValid.bits 127) rfl rfl (any_of HT_.out (by kernel_rfl)) (fun _ _ _ h => h) (Or.inl ⟨by rfl, ?_⟩) ?_ ?_
                  rotate_left
                  · intro w'
                    go_simp
                    with_reducible rfl
                  rotate_left
                  · simp only [Act.put, List.setIfInBounds_toArray, List.set_cons_zero, List.set_cons_succ, i64_w, i32_w]
                    rfl
                  refine pure_ (i := 7) (N := some 32) (v := ?_) (a' := ?_) (impl_PairsValid.bits 255) rfl rfl (any_of HT_.out (by kernel_rfl)) (fun _ _ _ h => h) (Or.inl ⟨by rfl, ?_⟩) ?_ ?_
                  rotate_left
                  · intro w'
                    go_simp
                    with_reducible rfl
                  rotate_left
                  · simp only [Act.put, List.setIfInBounds_toArray, List.set_cons_zero, List.set_cons_succ, i64_w, i32_w]
                    rfl
                  refine take_ (i := 8) (N := some 33) (v := ?_) (a' := ?_) (impl_PairsValid.bits 511) rfl rfl (take_ofW HT_.out HW_.out (by kernel_rfl)) (fun _ _ _ h => h) (Or.inl ⟨by rfl, ?_⟩) hHeld ?_ ?_
                  rotate_left
                  · intro w' hS
                    obtain ⟨_, hA, y0, y1⟩ := at_T76 hS.1 (i : Int) (by omega) (by omega)
                    cases hA
                    rw [Int.toNat_natCast] at y0 y1
                    go_simp
                    with_reducible rfl
                  rotate_left
                  · simp only [Act.put, List.setIfInBounds_toArray, List.set_cons_zero, List.set_cons_succ, i64_w, i32_w]
                    rfl
                  refine pure_ (i := 9) (N := some 34) (v := ?_) (a' := ?_) (impl_PairsValid.bits 1023) rfl rfl (any_of HT_.out (by kernel_rfl)) (fun _ _ _ h => h) (Or.inl ⟨by rfl, ?_⟩) ?_ ?_
                  rotate_left
                  · intro w'
                    go_simp
                    with_reducible rfl
                  rotate_left
                  · simp only [Act.put, List.setIfInBounds_toArray, List.set_cons_zero, List.set_cons_succ, i64_w, i32_w]
                    rfl
                  refine take_ (i := 10) (N := some 35) (v := ?_) (a' := ?_) (impl_PairsValid.bits 2047) rfl rfl (take_ofW HT_.out HW_.out (by kernel_rfl)) (fun _ _ _ h => h) (Or.inl ⟨by rfl, ?_⟩) hHeld ?_ ?_
                  rotate_left
                  · intro w' hS
                    have y0 : w'.cell? ⟨g, 0, none⟩ = some (.string (rd_T76 l0 (j : Int)).f0) := (blk_cell hS.2 0).trans rfl
                    go_simp
                    with_reducible rfl
                  rotate_left
                  · simp only [Act.put, List.setIfInBounds_toArray, List.set_cons_zero, List.set_cons_succ, i64_w, i32_w]
                    rfl
                  refine pure_ (i := 11) (N := some 36) (v := .bool false) (a' := ?_) (impl_PairsValid.bits 4095) rfl rfl (any_of HT_.out (by kernel_rfl)) (fun _ _ _ h => h) (Or.inl ⟨by rfl, ?_⟩) ?_ ?_
                  · intro w'
                    go_simp
                    rw [impl_PairsValid.geq_str, hb]
                    rfl
                  rotate_left
                  · simp only [Act.put, List.setIfInBounds_toArray, List.set_cons_zero, List.set_cons_succ, i64_w, i32_w]
                    rfl
                  refine pure_ (i := 12) (N := some 37) (v := ?_) (a' := ?_) (impl_PairsValid.bits 8191) rfl rfl (any_of HT_.out (by kernel_rfl)) (fun _ _ _ h => h) (Or.inl ⟨by rfl, ?_⟩) ?_ ?_
                  rotate_left
                  · intro w'
                    go_simp
                    with_reducible rfl
                  rotate_left
                  · simp only [Act.put, List.setIfInBounds_toArray, List.set_cons_zero, List.set_cons_succ, i64_w, i32_w]
                    rfl
                  refine done_ (done_of HT_.out (by kernel_rfl)) ?_
                  try go_wp2
                  go_roundg k1
                  case measure => omega
                  case rel => exact ⟨j + 1, congrArg (Value.int .i64) (Int.natCast_succ _).symm, by omega, ⟨H⟩, B5⟩
                · rw [if_neg hb] at H
                  replace hb := Bool.eq_false_iff.mpr hb
                  obtain rfl := Option.some.inj H
                  clear H
                  go_wp2_with (first
                    | ((with_reducible refine gate_dst (N := 4) rfl ?_); refine box_event ?hg (N := 4) ?hd (cs := #[.string (⟨#[]⟩ : ByteArray), .int .i64 0]) (t := 76) ?hr ?_; (case hd => rfl); (case hg => rfl); (case hr => first | (go_simp; done) | (go_simp; rfl)); intro g hg w1 hc hbb; have B1 := Aside0.mk (below_step HB.out hbb); have HB1 := Aside0.mk hbb; have LG := Aside0.mk (Nat.le_of_eq hg.symm); have F1 := Aside0.mk hc; clear hc hbb hg; have e0 : w1.cell? ⟨g, 0, none⟩ = some (.string (⟨#[]⟩ : ByteArray)) := (blk_cell F1.out 0).trans rfl; have e1 : w1.cell? ⟨g, 1, none⟩ = some (.int .i64 0) := (blk_cell F1.out 1).trans rfl; have f0 := blk_frozen F1.out 0; have f1 := blk_frozen F1.out 1)
                    | ((with_reducible refine gate_store (t := 76) (p := 4) rfl ?_); refine store_event (t := 76) (p := 4) (v := ?vo_s) (w1 := ((w1.setCell ⟨g, 0, none⟩ (.string (rd_T76 l0 (j : Int)).f0)).setCell ⟨g, 1, none⟩ (.int .i64 (rd_T76 l0 (j : Int)).f1))) ?hg ?ho ?hn ?hr ?_; (case ho => rfl); (case hg => rfl); (case hn => rfl); (case hr => first | (go_simp; done) | (go_simp; rfl)); intro w2 hw; have F2 := Aside0.mk (show w2.heap[g]? = some (.cells #[.string (rd_T76 l0 (j : Int)).f0, .int .i64 (rd_T76 l0 (j : Int)).f1] 76 (0, 0)) from hw ▸ blk_put (blk_put F1.out 0 _ rfl) 1 _ rfl); have B2 := Aside0.mk (below_step HB.out (show Below wr.heap.size wr w2 from hw ▸ below_set (below_set HB1.out LG.out) LG.out)); clear hw; have c2_0 : w2.cell? ⟨g, 0, none⟩ = some (.string (rd_T76 l0 (j : Int)).f0) := (blk_cell F2.out 0).trans rfl; have c2_1 : w2.cell? ⟨g, 1, none⟩ = some (.int .i64 (rd_T76 l0 (j : Int)).f1) := (blk_cell F2.out 1).trans rfl)
                    | (go_at_call 39; (with_reducible refine (impl_KeyValid.calls k1 (rd_T76 l0 (j : Int)).f0 true w2 J1.out).mono ?_); rintro e w3 ⟨rfl, ⟨nd, hw⟩⟩; have hb := (show Below w2.heap.size w2 w3 from hw ▸ pw_below_drewN (Below.refl _ _) nd); clear hw; have F3 := Aside0.mk (blk_below F2.out hb); have B3 := Aside0.mk (below_step B2.out hb); clear hb; have c3_0 : w3.cell? ⟨g, 0, none⟩ = some (.string (rd_T76 l0 (j : Int)).f0) := (blk_cell F3.out 0).trans rfl; have c3_1 : w3.cell? ⟨g, 1, none⟩ = some (.int .i64 (rd_T76 l0 (j : Int)).f1) := (blk_cell F3.out 1).trans rfl)
                    | (go_at_call 40; (with_reducible refine (impl_valueValid.calls (rd_T76 l0 (j : Int)).f1 true w3 J2.out).mono ?_); rintro e w4 ⟨rfl, ⟨nd, hw⟩⟩; have hb := (show Below w3.heap.size w3 w4 from hw ▸ pw_below_drewN (Below.refl _ _) nd); clear hw; have F4 := Aside0.mk (blk_below F3.out hb); have B4 := Aside0.mk (below_step B3.out hb); clear hb; have c4_0 : w4.cell? ⟨g, 0, none⟩ = some (.string (rd_T76 l0 (j : Int)).f0) := (blk_cell F4.out 0).trans rfl; have c4_1 : w4.cell? ⟨g, 1, none⟩ = some (.int .i64 (rd_T76 l0 (j : Int)).f1) := (blk_cell F4.out 1).trans rfl))
                  refine start_ (n := 13) (S := fun W => Kd.C k76 W (some ad) l0.length l0 ∧ W.heap[g]? = some (.cells #[.string (rd_T76 l0 (j : Int)).f0, .int .i64 (rd_T76 l0 (j : Int)).f1] 76 (0, 0))) (ds := []) #[false, false, false, false, false, false, false, false, false, false, false, false, false] (by kernel_rfl) rfl rfl (⟨Kd.C_below HR0.out (below_drew1 B4.out), blk_drew F4.out⟩) (fun hHeld => ?_); refine with_tabW impl_PairsValid.tab8 impl_PairsValid.bits8 (fun HT_ HW_ => ?_)
                  have B5 := Aside0.mk (below_drew1 B4.out)
                  generalize w4.drew = w5 at B5 hHeld ⊢
                  refine pure_ (i := 0) (N := some 25) (v := ?_) (a' := ?_) (impl_PairsValid.bits 1) rfl rfl (any_of HT_.out (by kernel_rfl)) (fun _ _ _ h => h) (Or.inl ⟨by rfl, ?_⟩) ?_ ?_
                  rotate_left
                  · intro w'
                    go_simp
                    with_reducible rfl
                  rotate_left
                  · simp only [Act.put, List.setIfInBounds_toArray, List.set_cons_zero, List.set_cons_succ, i64_w, i32_w]
                    rfl
                  refine pure_ (i := 1) (N := some 26) (v := ?_) (a' := ?_) (impl_PairsValid.bits 3) rfl rfl (any_of HT_.out (by kernel_rfl)) (fun _ _ _ h => h) (Or.inl ⟨by rfl, ?_⟩) ?_ ?_
                  rotate_left
                  · intro w'
                    go_simp
                    with_reducible rfl
                  rotate_left
                  · simp only [Act.put, List.setIfInBounds_toArray, List.set_cons_zero, List.set_cons_succ, i64_w, i32_w]
                    rfl
                  refine pure_ (i := 2) (N := some 27) (v := ?_) (a' := ?_) (impl_PairsValid.bits 7) rfl rfl (any_of HT_.out (by kernel_rfl)) (fun _ _ _ h => h) (Or.inl ⟨by rfl, ?_⟩) ?_ ?_
                  rotate_left
                  · intro w'
                    go_simp
                    with_reducible rfl
                  rotate_left
                  · simp only [Act.put, List.setIfInBounds_toArray, List.set_cons_zero, List.set_cons_succ, i64_w, i32_w]
                    rfl
                  refine pure_ (i := 3) (N := some 28) (v := ?_) (a' := ?_) (impl_PairsValid.bits 15) rfl rfl (any_of HT_.out (by kernel_rfl)) (fun _ _ _ h => h) (Or.inl ⟨by rfl, ?_⟩) ?_ ?_
                  rotate_left
                  · intro w'
                    go_simp
                    with_reducible rfl
                  rotate_left
                  · simp only [Act.put, List.setIfInBounds_toArray, List.set_cons_zero, List.set_cons_succ, i64_w, i32_w]
                    rfl
                  refine pure_ (i := 4) (N := some 29) (v := ?_) (a' := ?_) (impl_PairsValid.bits 31) rfl rfl (any_of HT_.out (by kernel_rfl)) (fun _ _ _ h => h) (Or.inl ⟨by rfl, ?_⟩) ?_ ?_
                  rotate_left
                  · intro w'
                    go_simp
                    with_reducible rfl
                  rotate_left
                  · simp only [Act.put, List.setIfInBounds_toArray, List.set_cons_zero, List.set_cons_succ, i64_w, i32_w]
                    rfl
                  refine pure_ (i := 5) (N := some 30) (v := .int .i64 (i : Int)) (a' := ?_) (impl_PairsValid.bits 63) rfl rfl (any_of HT_.out (by kernel_rfl)) (fun _ _ _ h => h) (Or.inl ⟨by rfl, ?_⟩) ?_ ?_
                  · intro w'
                    go_simp
                    rw [WI.out]
                    exact (i64_w _).trans IW.out
                  rotate_left
                  · simp only [Act.put, List.setIfInBounds_toArray, List.set_cons_zero, List.set_cons_succ, i64_w, i32_w]
                    rfl
                  refine pure_ (i := 6) (N := some 31) (v := ?_) (a' := ?_) (impl_PairsValid.bits 127) rfl rfl (any_of HT_.out (by kernel_rfl)) (fun _ _ _ h => h) (Or.inl ⟨by rfl, ?_⟩) ?_ ?_
                  rotate_left
                  · intro w'
                    go_simp
                    with_reducible rfl
                  rotate_left
                  · simp only [Act.put, List.setIfInBounds_toArray, List.set_cons_zero, List.set_cons_succ, i64_w, i32_w]
                    rfl
                  refine pure_ (i := 7) (N := some 32) (v := ?_) (a' := ?_) (impl_PairsValid.bits 255) rfl rfl (any_of HT_.out (by kernel_rfl)) (fun _ _ _ h => h) (Or.inl ⟨by rfl, ?_⟩) ?_ ?_
                  rotate_left
                  · intro w'
                    go_simp
                    with_reducible rfl
                  rotate_left
                  · simp only [Act.put, List.setIfInBounds_toArray, List.set_cons_zero, List.set_cons_succ, i64_w, i32_w]
                    rfl
                  refine take_ (i := 8) (N := some 33) (v := ?_) (a' := ?_) (impl_PairsValid.bits 511) rfl rfl (take_ofW HT_.out HW_.out (by kernel_rfl)) (fun _ _ _ h => h) (Or.inl ⟨by rfl, ?_⟩) hHeld ?_ ?_
                  rotate_left
                  · intro w' hS
                    obtain ⟨_, hA, y0, y1⟩ := at_T76 hS.1 (i : Int) (by omega) (by omega)
                    cases hA
                    rw [Int.toNat_natCast] at y0 y1
                    go_simp
                    with_reducible rfl
                  rotate_left
                  · simp only [Act.put, List.setIfInBounds_toArray, List.set_cons_zero, List.set_cons_succ, i64_w, i32_w]
                    rfl
                  refine pure_ (i := 9) (N := some 34) (v := ?_) (a' := ?_) (impl_PairsValid.bits 1023) rfl rfl (any_of HT_.out (by kernel_rfl)) (fun _ _ _ h => h) (Or.inl ⟨by rfl, ?_⟩) ?_ ?_
                  rotate_left
                  · intro w'
                    go_simp
                    with_reducible rfl
                  rotate_left
                  · simp only [Act.put, List.setIfInBounds_toArray, List.set_cons_zero, List.set_cons_succ, i64_w, i32_w]
                    rfl
                  refine take_ (i := 10) (N := some 35) (v := ?_) (a' := ?_) (impl_PairsValid.bits 2047) rfl rfl (take_ofW HT_.out HW_.out (by kernel_rfl)) (fun _ _ _ h => h) (Or.inl ⟨by rfl, ?_⟩) hHeld ?_ ?_
                  rotate_left
                  · intro w' hS
                    have y0 : w'.cell? ⟨g, 0, none⟩ = some (.string (rd_T76 l0 (j : Int)).f0) := (blk_cell hS.2 0).trans rfl
                    go_simp
                    with_reducible rfl
                  rotate_left
                  · simp only [Act.put, List.setIfInBounds_toArray, List.set_cons_zero, List.set_cons_succ, i64_w, i32_w]
                    rfl
                  refine pure_ (i := 11) (N := some 36) (v := .bool true) (a' := ?_) (impl_PairsValid.bits 4095) rfl rfl (any_of HT_.out (by kernel_rfl)) (fun _ _ _ h => h) (Or.inl ⟨by rfl, ?_⟩) ?_ ?_
                  · intro w'
                    go_simp
                    rw [impl_PairsValid.geq_str, hb]
                    rfl
                  rotate_left
                  · simp only [Act.put, List.setIfInBounds_toArray, List.set_cons_zero, List.set_cons_succ, i64_w, i32_w]
                    rfl
                  refine pure_ (i := 12) (N := some 37) (v := ?_) (a' := ?_) (impl_PairsValid.bits 8191) rfl rfl (any_of HT_.out (by kernel_rfl)) (fun _ _ _ h => h) (Or.inl ⟨by rfl, ?_⟩) ?_ ?_
                  rotate_left
                  · intro w'
                    go_simp
                    with_reducible rfl
                  rotate_left
                  · simp only [Act.put, List.setIfInBounds_toArray, List.set_cons_zero, List.set_cons_succ, i64_w, i32_w]
                    rfl
                  refine done_ (done_of HT_.out (by kernel_rfl)) ?_
                  try go_wp2
                  go_ret
                  exact ⟨rfl, B5.out⟩
        · rw [if_neg hj] at H
          have cj : decide ((j : Int) < (l0.length : Int)) = false := decide_eq_false (by omega)
          obtain rfl := Option.some.inj H
          clear H
          go_wp2
          go_ret
          exact ⟨rfl, HB.out⟩
end Go.Proofs.Ytdamnfkpfhoahaa.PFnNewState
