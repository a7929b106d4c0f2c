/- laws_toIntSS by hand (the printed text of this function does not build): each row of a list of rows is made anew. -/
import Derived.Test.YtmljefpcjlelmaaPFnExactDiskValidx0
import Derived.Test.YtmljefpcjlelmaaPFnExactDiskValidx7
namespace Go.Proofs.Ytmljefpcjlelmaa.PFnExactDiskValid
open Go.RowKit Go.Proofs.YtmljefpcjlelmaaW.PrintWords Go.Proofs.YtmljefpcjlelmaaW.PrintLast Go.Proofs.YtmljefpcjlelmaaW.PrintMore
set_option linter.unusedVariables false
set_option linter.unusedSimpArgs false

def laws_toIntSS.l0 : Nat → List (List Int) → List (List Int) → Int → Option (List (List Int))
  | 0, _, _, _ => none
  | k + 1, xs, ys, i => if i < (xs.length : Int) then (if 0 ≤ i then ((laws_toIntS.f k (rd_L1 xs i)).bind fun t => if i < (ys.length : Int) then laws_toIntSS.l0 k xs (ys.set i.toNat t) (wrap64 (i + 1)) else none) else none) else some ys
def laws_toIntSS.f (k : Nat) (xs : List (List Int)) : Option (List (List Int)) :=
  if 0 ≤ (xs.length : Int) then (if (xs.length : Int).toNat ≤ 11728124029610 then laws_toIntSS.l0 k xs (List.replicate (xs.length : Int).toNat []) 0 else none) else none

theorem laws_toIntSS.mono_l : ∀ k xs ys i, LeO (laws_toIntSS.l0 k xs ys i) (laws_toIntSS.l0 (k + 1) xs ys i)
  | 0, _, _, _ => LeO.none _
  | k + 1, xs, ys, i => by
    unfold laws_toIntSS.l0
    exact LeO.ite (LeO.ite (LeO.bind (laws_toIntS.mono _ _) fun _ => LeO.ite (laws_toIntSS.mono_l k _ _ _) (LeO.refl _)) (LeO.refl _)) (LeO.refl _)
theorem laws_toIntSS.mono : ∀ a0 k, LeO (laws_toIntSS.f k a0) (laws_toIntSS.f (k + 1) a0) := by
  intro a0 k
  unfold laws_toIntSS.f
  exact LeO.ite (LeO.ite (laws_toIntSS.mono_l k _ _ _) (LeO.refl _)) (LeO.refl _)

/-- The rows made so far: a row of rows of the call's own. -/
structure laws_toIntSS.At (w W : World) (v : Value) (ys : List (List Int)) : Prop where
  own : Kd.S (Kd.slice 3 (Kd.int .i64)) 51 W w.heap.size (fun _ => True) v ys
  bel : Below w.heap.size w W

/-- One row is laid in the place of another. -/
theorem laws_toIntSS.At.put {w W : World} {g n cap : Nat} {ys : List (List Int)} {u : Value} {t : List Int} {i : Int}
    (h : Kd.S (Kd.slice 3 (Kd.int .i64)) 51 W w.heap.size (fun k => True ∧ some k ≠ u.ownBlock) (.slice (some ⟨g, 0, none⟩) n cap) ys) (ht : Kd.R (Kd.int .i64) 3 W w.heap.size (fun _ => True) u t) (h0 : 0 ≤ i) (h1 : i < n)
    (hb : Below w.heap.size w W) : laws_toIntSS.At w (W.setCell ⟨g, i.toNat, none⟩ u) (.slice (some ⟨g, 0, none⟩) n cap) (ys.set i.toNat t) := by
  have hx : Kd.S (Kd.slice 3 (Kd.int .i64)) 51 W w.heap.size (fun k => True ∧ ¬ (some k = u.ownBlock)) (.slice (some ⟨g, 0, none⟩) n cap) ys := h
  have hgb : w.heap.size ≤ g := Kd.S_base h g (by simp [Value.ownBlock])
  have hgu : some g ≠ u.ownBlock := (Kd.S_bound h |> fun hh => (Kd.S_R hh).1 g (by simp [Value.ownBlock])).1.2
  obtain ⟨oki, c, hcl, hM, hcc, hfr, hoki, hH⟩ := Kd.S_elem hx [] i h0 h1
  obtain ⟨uc, rfl, huc⟩ := hM
  have hne : ∀ k, some k = u.ownBlock → k ≠ g := fun k hk e => hgu (by rw [← e]; exact hk)
  have hP := Kd.S_seg hH h0 h1 (seg := [u]) (j := 0) (show 0 + 1 ≤ 1 by decide) (x' := t) (okp := fun k => some k = u.ownBlock)
    (Kd.M_row (Kd.R_tight rfl (ok := fun _ => True) ht)) (fun k hk => .inr hk) (fun k hk => ⟨trivial, hne k hk⟩)
  have e : W.setCells g (i.toNat * 1 + 0) [u] = W.setCell ⟨g, i.toNat, none⟩ u := by
    rw [Nat.mul_one, Nat.add_zero]
    rfl
  refine ⟨?_, below_set hb hgb⟩
  rw [← e]
  exact hP.1

set_option maxHeartbeats 2000000 in
set_option maxRecDepth 100000 in
theorem laws_toIntSS.calls (k : Nat) (A0 : Option Addr) (c0 : Nat) (l0 : List (List Int)) (r : List (List Int)) (w : World) (hr0 : Kd.C (Kd.slice 3 (Kd.int .i64)) w A0 l0.length l0) (hc0 : l0.length ≤ c0) (h : laws_toIntSS.f k l0 = some r) :
    Calls Try.prog 54 #[.slice A0 l0.length c0] w fun e w' => ∃ v0_ : Value, e = .returned (v0_) ∧ Kd.S (Kd.slice 3 (Kd.int .i64)) 51 w' w.heap.size (fun _ => True) v0_ r ∧ Below w.heap.size w w' := by
  have HR0 := Aside0.mk hr0
  have HC0 := Aside0.mk hc0
  clear hr0 hc0
  unfold laws_toIntSS.f at h
  rw [if_pos (by omega)] at h
  by_cases hsz : (l0.length : Int).toNat ≤ 11728124029610
  · rw [if_pos hsz] at h
    have SZ := Aside0.mk hsz
    have HL := Aside0.mk h
    clear hsz h
    go_enter Try.func54, Try.ntmps54
    go_wp2_with (first | ((with_reducible refine gate_dst (N := 7) rfl ?_); refine Kd.S_make (Kd.slice 3 (Kd.int .i64)) _ 51 rfl (N := 7) rfl 52 _ _ rfl (l0.length : Int) rfl rfl Try.underlying52 (.slice none 0 0) 24 info51 rfl (by decide) (by omega) [] (ok := fun _ => True) (okp := fun _ => True) ⟨_, rfl, Kd.R_nil _ _ _ _ _⟩ (fun _ hk => hk) trivial (Int.natCast_nonneg _) (Nat.le_trans (Nat.mul_le_mul_right _ SZ.out) (by omega)) (Below.refl _ _) (Nat.le_refl _) ?_; intro v w1 ho hb _ _; have S0 := Aside0.mk (show laws_toIntSS.At w w1 v (List.replicate (l0.length : Int).toNat []) from ⟨ho, hb⟩); clear ho hb))
    go_loopg [4] k (fun kq v4 w' => ∃ (ys : List (List Int)) (i : Int), v4 = .int .i64 i ∧ Aside0 (laws_toIntSS.l0 kq l0 ys i = some r) ∧ Aside0 (kq ≤ k) ∧ Aside0 (laws_toIntSS.At w w' v ys))
    case atStart => exact ⟨_, 0, rfl, HL, ⟨Nat.le_refl _⟩, S0⟩
    case round =>
      clear HL S0
      obtain ⟨ys, i, rfl, HA, HK1, S1⟩ := hrel
      cases gk with
      | zero => exact absurd HA.out (by simp [laws_toIntSS.l0])
      | succ k1 =>
        have H := HA.out
        clear HA
        simp only [laws_toIntSS.l0] at H
        by_cases hi : i < (l0.length : Int)
        · rw [if_pos hi] at H
          by_cases hi0 : 0 ≤ i
          · rw [if_pos hi0] at H
            obtain ⟨t, ht, H⟩ := Option.bind_eq_some_iff.mp H
            by_cases hiy : i < (ys.length : Int)
            · rw [if_pos hiy] at H
              have HL := Aside0.mk H
              have T := Aside0.mk ht
              have I0 := Aside0.mk hi0
              have IY := Aside0.mk hiy
              clear H ht
              obtain ⟨g, cap, rfl, hgb, hgl, hgc⟩ := Kd.S_form S1.out.own (by omega)
              clear hgb hgl hgc
              obtain ⟨ad, A1, c1, hA, hx, hl, hC⟩ := at_L1 HR0.out i hi0 hi
              subst hA
              have hx' := (S1.out.bel.cell (World.block_lt_of_cell? w _ hx)).trans hx
              clear hx
              have L1 := Aside0.mk hl
              have C1 := Aside0.mk hC
              clear hl hC
              have ci : decide (i < (l0.length : Int)) = true := decide_eq_true hi
              have pi0 := eq_true hi0
              have pi1 := eq_true hi
              have pi2 := eq_true hiy
              clear hi hi0 hiy
              go_wp2_with (first
                | (go_at_call 53; (with_reducible refine (laws_toIntS.calls k1 _ _ (rd_L1 l0 i) t _ ?side1 ?side2 T.out).mono ?_); (case side1 => exact Kd.C_below C1.out S1.out.bel); (case side2 => exact L1.out); rintro e w1 ⟨u, rfl, ho, hb⟩; obtain ⟨Au, cu, hu⟩ := Kd.R_slice ho; subst hu; have HO := Aside0.mk (Kd.S_elder' S1.out.own (Kd.R_base ho) hb); have HU := Aside0.mk (Kd.R_lower ho (below_size S1.out.bel)); have HB := Aside0.mk (below_step S1.out.bel hb); clear ho hb; obtain ⟨_, c, _, hM, hcc, hfr, _, _⟩ := Kd.S_elem HO.out [] i I0.out IY.out; obtain ⟨uc, rfl, _⟩ := hM; have hcu := hcc 0 _ rfl; have hfu := hfr 0; simp only [show (Kd.slice 3 (Kd.int .i64)).sz = 1 from rfl, Nat.mul_one, Nat.add_zero] at hcu hfu; clear hcc hfr))
              go_roundg k1
              case measure => have := HK1.out; omega
              case rel => exact ⟨_, _, rfl, HL, ⟨by have := HK1.out; omega⟩, ⟨laws_toIntSS.At.put HO.out HU.out I0.out IY.out HB.out⟩⟩
            · rw [if_neg hiy] at H
              cases H
          · rw [if_neg hi0] at H
            cases H
        · rw [if_neg hi] at H
          have ci : decide (i < (l0.length : Int)) = false := decide_eq_false hi
          clear hi
          obtain rfl := Option.some.inj H
          go_wp2
          go_ret
          exact ⟨_, rfl, S1.out.own, S1.out.bel⟩
  · rw [if_neg hsz] at h
    cases h
end Go.Proofs.Ytmljefpcjlelmaa.PFnExactDiskValid
