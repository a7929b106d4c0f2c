-- PRINTED BY print.sh 35421559b90ae4d0a3588c463048766b98c2df88dd9212a6774a882060cdf62d: not written by this session
import Derived.Test.YtdamnfkpfhoahaaPFnNewStatex0
import Derived.Test.YtdamnfkpfhoahaaPFnNewStatex17
import Derived.Test.YtdamnfkpfhoahaaPFnNewStatex18
import Derived.Test.YtdamnfkpfhoahaaPFnNewStatex19
import Derived.Test.YtdamnfkpfhoahaaPFnNewStatex20
namespace Go.Proofs.Ytdamnfkpfhoahaa.PFnNewState
open Go.RowKit Go.Proofs.YtdamnfkpfhoahaaW.PrintWords Go.Proofs.YtdamnfkpfhoahaaW.PrintLast Go.Proofs.YtdamnfkpfhoahaaW.PrintMore
attribute [local go_sem] max2_int min2_int max_two min_two max_three min_three max_four min_four   -- for this text's walks alone
set_option linter.unusedVariables false
set_option linter.unusedSimpArgs false

/-! ### spec_l20Span: function 54 -/
def spec_l20Span.j0 : Nat → ByteArray → ByteArray → List Int → Int → Option (ByteArray × ByteArray × Int)
  | 0, _, _, _, _ => none
  | k + 1, x5, x6, x1000, x1001 => if (Op.bytesLess x5.toList x6.toList) = true then (some (x5, x6, x1001)) else (if (Op.bytesLess x6.toList x5.toList) = true then (some (x6, x5, x1001)) else (some (x5, (⟨#[]⟩ : ByteArray), x1001)))
def spec_l20Span.f (k : Nat) (s0_0 : List Int) (s0_1 : Int) (a1 : Int) : Option (ByteArray × ByteArray × Int) := (spec_l20Rd_odd.f k s0_0 s0_1 a1).bind fun bt160 => (if bt160.1 = true then ((some (([(⟨(⟨#[98]⟩ : ByteArray), (⟨#[98]⟩ : ByteArray)⟩ : S45), (⟨(⟨#[99]⟩ : ByteArray), (⟨#[98]⟩ : ByteArray)⟩ : S45), (⟨(⟨#[]⟩ : ByteArray), (⟨#[97]⟩ : ByteArray)⟩ : S45), (⟨(⟨#[65]⟩ : ByteArray), (⟨#[]⟩ : ByteArray)⟩ : S45), (⟨(⟨#[]⟩ : ByteArray), (⟨#[97, 98, 99, 100, 101]⟩ : ByteArray)⟩ : S45)] : List (S45)) : List (S45))).bind fun y162 => ((spec_l20Rd_pick.f k s0_0 bt160.2 5).bind fun bt165 => (if 0 ≤ bt165.1 then (if bt165.1 < (y162.length : Int) then (some ((rd_T45 y162 bt165.1).f0, (rd_T45 y162 bt165.1).f1, bt165.2)) else (none)) else (none)))) else ((spec_l20Key.f k s0_0 bt160.2 0).bind fun bt168 => ((spec_l20Key.f k s0_0 bt168.2 0).bind fun bt170 => ((spec_l20Rd_pick.f k s0_0 bt170.2 6).bind fun bt172 => (if bt172.1 = 0 then (some ((⟨#[]⟩ : ByteArray), (⟨#[]⟩ : ByteArray), bt172.2)) else (if bt172.1 = 1 then (some (bt168.1, (⟨#[]⟩ : ByteArray), bt172.2)) else (if bt172.1 = 2 then (if bt170.1.toList = ([97] : List UInt8) then (spec_l20Span.j0 k bt168.1 bt170.1 s0_0 bt172.2) else (some ((⟨#[]⟩ : ByteArray), bt170.1, bt172.2))) else (spec_l20Span.j0 k bt168.1 bt170.1 s0_0 bt172.2))))))))
theorem spec_l20Span.mono_l : ∀ k, (∀ y0 y1 y2 y3, LeO (spec_l20Span.j0 k y0 y1 y2 y3) (spec_l20Span.j0 (k + 1) y0 y1 y2 y3))
  | 0 => fun _ _ _ _ r h => by simp [spec_l20Span.j0] at h
  | k + 1 => by
    have ih0 := spec_l20Span.mono_l k
    · intro y0 y1 y2 y3
      unfold spec_l20Span.j0
      repeat' first
      | (with_reducible exact ih0 _ _ _ _)
      | (with_reducible exact spec_l20Key.mono _ _ _ _)
      | (with_reducible exact spec_l20Rd_odd.mono _ _ _ _)
      | (with_reducible exact spec_l20Rd_pick.mono _ _ _ _)
      | (with_reducible exact LeO.refl _)
      | (with_reducible exact LeO.none _)
      | (with_reducible refine LeO.ite ?_ ?_)
      | (with_reducible refine LeO.bind ?_ (fun _ => ?_))
      | exact ih0 _ _ _ _
      | exact spec_l20Key.mono _ _ _ _
      | exact spec_l20Rd_odd.mono _ _ _ _
      | exact spec_l20Rd_pick.mono _ _ _ _
      | exact LeO.none _
      | refine LeO.ite ?_ ?_
      | refine LeO.bind ?_ (fun _ => ?_)
theorem spec_l20Span.mono : ∀ a0 a1 a2 k, LeO (spec_l20Span.f k a0 a1 a2) (spec_l20Span.f (k + 1) a0 a1 a2) := by
  intro a0 a1 a2 k
  have ih0 := spec_l20Span.mono_l k
  unfold spec_l20Span.f
  repeat' first
      | (with_reducible exact ih0 _ _ _ _)
      | (with_reducible exact spec_l20Key.mono _ _ _ _)
      | (with_reducible exact spec_l20Rd_odd.mono _ _ _ _)
      | (with_reducible exact spec_l20Rd_pick.mono _ _ _ _)
      | (with_reducible exact LeO.refl _)
      | (with_reducible exact LeO.none _)
      | (with_reducible refine LeO.ite ?_ ?_)
      | (with_reducible refine LeO.bind ?_ (fun _ => ?_))
      | exact ih0 _ _ _ _
      | exact spec_l20Key.mono _ _ _ _
      | exact spec_l20Rd_odd.mono _ _ _ _
      | exact spec_l20Rd_pick.mono _ _ _ _
      | exact LeO.none _
      | refine LeO.ite ?_ ?_
      | refine LeO.bind ?_ (fun _ => ?_)
set_option maxHeartbeats 8000000 in
set_option maxRecDepth 100000 in
theorem spec_l20Span.calls (k : Nat) (g : Nat) (s0_0 : List Int) (s0_1 : Int) (a1 : Int) (r1 : ByteArray) (r2 : ByteArray) (r3 : Int) (w0 w : World) (hI : IsS84 w0 w g s0_0 s0_1) (hB : Below w0.heap.size w0 w) (h : spec_l20Span.f k s0_0 s0_1 a1 = some (r1, r2, r3)) :
    Calls Try.prog 54 #[.pointer (some ⟨g, 0, none⟩), .int .i64 a1] w fun e w' => e = .returned (.agg #[.string r1, .string r2]) ∧ IsS84 w0 w' g s0_0 r3 ∧ Below w0.heap.size w0 w' ∧ KeepBut w w' g none := by
  have hu45 := Try.underlying45
  have HI0 := Aside0.mk hI
  have HK := Aside0.mk (KeepBut.refl w g none)
  have HL := Aside0.mk hB.size
  clear hI
  have HW0 := Aside0.mk hB.size
  have HB := Aside0.mk hB
  clear hB
  have H : ((spec_l20Rd_odd.f k s0_0 s0_1 a1).bind fun bt160 => (if bt160.1 = true then ((some (([(⟨(⟨#[98]⟩ : ByteArray), (⟨#[98]⟩ : ByteArray)⟩ : S45), (⟨(⟨#[99]⟩ : ByteArray), (⟨#[98]⟩ : ByteArray)⟩ : S45), (⟨(⟨#[]⟩ : ByteArray), (⟨#[97]⟩ : ByteArray)⟩ : S45), (⟨(⟨#[65]⟩ : ByteArray), (⟨#[]⟩ : ByteArray)⟩ : S45), (⟨(⟨#[]⟩ : ByteArray), (⟨#[97, 98, 99, 100, 101]⟩ : ByteArray)⟩ : S45)] : List (S45)) : List (S45))).bind fun y162 => ((spec_l20Rd_pick.f k s0_0 bt160.2 5).bind fun bt165 => (if 0 ≤ bt165.1 then (if bt165.1 < (y162.length : Int) then (some ((rd_T45 y162 bt165.1).f0, (rd_T45 y162 bt165.1).f1, bt165.2)) else (none)) else (none)))) else ((spec_l20Key.f k s0_0 bt160.2 0).bind fun bt168 => ((spec_l20Key.f k s0_0 bt168.2 0).bind fun bt170 => ((spec_l20Rd_pick.f k s0_0 bt170.2 6).bind fun bt172 => (if bt172.1 = 0 then (some ((⟨#[]⟩ : ByteArray), (⟨#[]⟩ : ByteArray), bt172.2)) else (if bt172.1 = 1 then (some (bt168.1, (⟨#[]⟩ : ByteArray), bt172.2)) else (if bt172.1 = 2 then (if bt170.1.toList = ([97] : List UInt8) then (spec_l20Span.j0 k bt168.1 bt170.1 s0_0 bt172.2) else (some ((⟨#[]⟩ : ByteArray), bt170.1, bt172.2))) else (spec_l20Span.j0 k bt168.1 bt170.1 s0_0 bt172.2))))))))) = some (r1, r2, r3) := h
  clear h
  replace H := Option.bind_eq_some_iff.mp H
  obtain ⟨⟨t160, t161⟩, A30, H⟩ := H
  replace H : (if t160 = true then ((some (([(⟨(⟨#[98]⟩ : ByteArray), (⟨#[98]⟩ : ByteArray)⟩ : S45), (⟨(⟨#[99]⟩ : ByteArray), (⟨#[98]⟩ : ByteArray)⟩ : S45), (⟨(⟨#[]⟩ : ByteArray), (⟨#[97]⟩ : ByteArray)⟩ : S45), (⟨(⟨#[65]⟩ : ByteArray), (⟨#[]⟩ : ByteArray)⟩ : S45), (⟨(⟨#[]⟩ : ByteArray), (⟨#[97, 98, 99, 100, 101]⟩ : ByteArray)⟩ : S45)] : List (S45)) : List (S45))).bind fun y162 => ((spec_l20Rd_pick.f k s0_0 t161 5).bind fun bt165 => (if 0 ≤ bt165.1 then (if bt165.1 < (y162.length : Int) then (some ((rd_T45 y162 bt165.1).f0, (rd_T45 y162 bt165.1).f1, bt165.2)) else (none)) else (none)))) else ((spec_l20Key.f k s0_0 t161 0).bind fun bt168 => ((spec_l20Key.f k s0_0 bt168.2 0).bind fun bt170 => ((spec_l20Rd_pick.f k s0_0 bt170.2 6).bind fun bt172 => (if bt172.1 = 0 then (some ((⟨#[]⟩ : ByteArray), (⟨#[]⟩ : ByteArray), bt172.2)) else (if bt172.1 = 1 then (some (bt168.1, (⟨#[]⟩ : ByteArray), bt172.2)) else (if bt172.1 = 2 then (if bt170.1.toList = ([97] : List UInt8) then (spec_l20Span.j0 k bt168.1 bt170.1 s0_0 bt172.2) else (some ((⟨#[]⟩ : ByteArray), bt170.1, bt172.2))) else (spec_l20Span.j0 k bt168.1 bt170.1 s0_0 bt172.2)))))))) = some (r1, r2, r3) := H
  have A3 := Aside0.mk A30
  clear A30
  by_cases c4 : t160 = true
  · subst c4
    have H1 : ((some (([(⟨(⟨#[98]⟩ : ByteArray), (⟨#[98]⟩ : ByteArray)⟩ : S45), (⟨(⟨#[99]⟩ : ByteArray), (⟨#[98]⟩ : ByteArray)⟩ : S45), (⟨(⟨#[]⟩ : ByteArray), (⟨#[97]⟩ : ByteArray)⟩ : S45), (⟨(⟨#[65]⟩ : ByteArray), (⟨#[]⟩ : ByteArray)⟩ : S45), (⟨(⟨#[]⟩ : ByteArray), (⟨#[97, 98, 99, 100, 101]⟩ : ByteArray)⟩ : S45)] : List (S45)) : List (S45))).bind fun y162 => ((spec_l20Rd_pick.f k s0_0 t161 5).bind fun bt165 => (if 0 ≤ bt165.1 then (if bt165.1 < (y162.length : Int) then (some ((rd_T45 y162 bt165.1).f0, (rd_T45 y162 bt165.1).f1, bt165.2)) else (none)) else (none)))) = some (r1, r2, r3) := by rw [if_pos rfl] at H; exact H
    clear H
    have H := H1
    clear H1
    obtain ⟨y162, hy162⟩ : ∃ y_ : List (S45), y_ = (([(⟨(⟨#[98]⟩ : ByteArray), (⟨#[98]⟩ : ByteArray)⟩ : S45), (⟨(⟨#[99]⟩ : ByteArray), (⟨#[98]⟩ : ByteArray)⟩ : S45), (⟨(⟨#[]⟩ : ByteArray), (⟨#[97]⟩ : ByteArray)⟩ : S45), (⟨(⟨#[65]⟩ : ByteArray), (⟨#[]⟩ : ByteArray)⟩ : S45), (⟨(⟨#[]⟩ : ByteArray), (⟨#[97, 98, 99, 100, 101]⟩ : ByteArray)⟩ : S45)] : List (S45))) := ⟨_, rfl⟩
    replace H : ((spec_l20Rd_pick.f k s0_0 t161 5).bind fun bt165 => (if 0 ≤ bt165.1 then (if bt165.1 < (y162.length : Int) then (some ((rd_T45 y162 bt165.1).f0, (rd_T45 y162 bt165.1).f1, bt165.2)) else (none)) else (none))) = some (r1, r2, r3) := by first | (rw [hy162]; with_reducible exact H) | (have H2_ := (Option.bind_some _ _).symm.trans H; rw [hy162]; with_reducible exact H2_) | (have H2_ := (Option.bind_some _ _).symm.trans H; with_reducible exact H2_) | with_reducible exact H | (rw [hy162]; exact H) | exact H
    have Ny162 := Aside0.mk hy162
    clear hy162
    replace H := Option.bind_eq_some_iff.mp H
    obtain ⟨⟨t165, t166⟩, A50, H⟩ := H
    replace H : (if 0 ≤ t165 then (if t165 < (y162.length : Int) then (some ((rd_T45 y162 t165).f0, (rd_T45 y162 t165).f1, t166)) else (none)) else (none)) = some (r1, r2, r3) := H
    have A5 := Aside0.mk A50
    clear A50
    by_cases c6 : 0 ≤ t165
    · rw [if_pos c6] at H
      have c6b0 : decide (0 ≤ t165) = true := decide_eq_true c6
      clear c6
      by_cases c7 : t165 < (y162.length : Int)
      · rw [if_pos c7] at H
        have c7b0 : decide (t165 < (y162.length : Int)) = true := decide_eq_true c7
        clear c7
        simp only [Option.some.injEq, Prod.mk.injEq] at H
        obtain ⟨rfl, rfl, rfl⟩ := H
        go_enter Try.func54, Try.ntmps54
        go_wp2_with (first | ((with_reducible refine gate_dst (N := 4) rfl ?_); refine box_event ?hg (N := 4) ?hd (cs := #[.string (⟨#[]⟩ : ByteArray), .string (⟨#[]⟩ : ByteArray)]) (t := 45) ?hr ?_; (case hd => rfl); (case hg => rfl); (case hr => first | (go_simp; done) | (go_simp; rfl)); intro gb159 hg w8 hbox hb; have n0_ := Aside0.mk (IsS84.below (by repeat (first | (with_reducible first | exact HI0.out | apply IsS84.alloc | apply IsS84.drewN | apply IsS84.drew | apply IsS84.set_1) | exact HI0.out)) hb); have n1_ := Aside0.mk (KeepBut.trans (by repeat (first | (with_reducible first | exact HK.out | apply KeepBut.set_ | apply keep_drewN | apply keep_drew | apply keep_alloc) | exact HK.out)) (KeepBut.of_below hb g none) (.inl rfl)); have n2_ := Aside0.mk (below_step (by repeat (first | (with_reducible first | exact HB.out | apply below_alloc | apply pw_below_drewN | apply below_drew1 | refine below_set ?_ (IsS84.ge HI0.out)) | exact HB.out)) hb); have n3_ := Aside0.mk (hbox); have n4_ := Aside0.mk ((by rw [hg]; exact (keep_size (w := w) (g := g) (row := none) (by repeat (first | (with_reducible first | exact HK.out | apply KeepBut.set_ | apply keep_drewN | apply keep_drew | apply keep_alloc) | exact HK.out))) : w.heap.size ≤ gb159)); have n5_ := Aside0.mk ((Nat.le_trans HW0.out (by rw [hg]; exact (keep_size (w := w) (g := g) (row := none) (by repeat (first | (with_reducible first | exact HK.out | apply KeepBut.set_ | apply keep_drewN | apply keep_drew | apply keep_alloc) | exact HK.out))) : w.heap.size ≤ gb159) : w0.heap.size ≤ gb159)); have n6_ := Aside0.mk ((by rw [hg]; exact Nat.ne_of_lt (IsS84.lt (show IsS84 w0 _ g s0_0 s0_1 from by repeat (first | (with_reducible first | exact HI0.out | apply IsS84.alloc | apply IsS84.drewN | apply IsS84.drew | apply IsS84.set_1) | exact HI0.out))) : g ≠ gb159)); have n7_ := Aside0.mk ((by rw [hg]; exact Nat.ne_of_gt (IsS84.lt (show IsS84 w0 _ g s0_0 s0_1 from by repeat (first | (with_reducible first | exact HI0.out | apply IsS84.alloc | apply IsS84.drewN | apply IsS84.drew | apply IsS84.set_1) | exact HI0.out))) : gb159 ≠ g)); clear HI0; clear HK; clear HB; have HI0 := n0_; have HK := n1_; have HB := n2_; have BK159 := n3_; have GW159 := n4_; have GE159 := n5_; have NB0_159 := n6_; have NB159_0 := n7_; clear n0_ n1_ n2_ n3_ n4_ n5_ n6_ n7_; clear hb hbox hg) | ((with_reducible refine gate_callee (f := 67) rfl ?_); refine goesL_ (some 9) rfl rfl Try.func67 (by kernel_rfl) rfl #[.pointer (some ⟨g, 0, none⟩), .int .i64 a1] rfl (by (try simp only [List.map_toArray, List.map_cons, List.map_nil]); first | done | rfl | (simp only [List.length_drop, List.length_take]; rfl)) ?_; (with_reducible refine (spec_l20Rd_odd.calls k g s0_0 s0_1 a1 true t161 w0 _ ?side1 ?side2 A3.out).mono ?_); (case side1 => repeat (first | (with_reducible first | exact HI0.out | apply IsS84.alloc | apply IsS84.drewN | apply IsS84.drew | apply IsS84.set_1 | refine IsS84.far ?_ NB0_159.out _) | exact HI0.out)); (case side2 => repeat (first | (with_reducible first | exact HB.out | apply below_alloc | apply pw_below_drewN | apply below_drew1 | refine below_set ?_ (IsS84.ge HI0.out) | refine below_set ?_ GE159.out) | exact HB.out)); rintro e w9 ⟨rfl, hi, hb, hk⟩; refine ⟨_, rfl, ?_⟩; have n0_ := Aside0.mk (KeepBut.blk hk (g' := gb159) (o := .cells #[.string (⟨#[]⟩ : ByteArray), .string (⟨#[]⟩ : ByteArray)] 45 (0, 0)) (by (with_reducible repeat (first | refine blk_drewN ?_ _ | refine blk_drew ?_ | refine blk_alloc ?_ _)); exact BK159.out) NB159_0.out (by simp)); have n1_ := Aside0.mk (KeepBut.trans (by repeat (first | (with_reducible first | exact HK.out | apply KeepBut.set_ | apply keep_drewN | apply keep_drew | apply keep_alloc | refine keep_far ?_ GW159.out _) | exact HK.out)) hk (.inl rfl)); have n2_ := Aside0.mk (hb); have n3_ := Aside0.mk (hi); clear BK159; clear HK; clear HB; clear HI0; have BK159 := n0_; have HK := n1_; have HB := n2_; have HI0 := n3_; clear n0_ n1_ n2_ n3_; (try clear hb); (try clear hb2); (try clear hk); (try clear hi)) | ((with_reducible refine gate_dst (N := 15) rfl ?_); refine Kd.R_lit k45 _ 45 ?hg (N := 15) ?hd (xs := ([(⟨(⟨#[98]⟩ : ByteArray), (⟨#[98]⟩ : ByteArray)⟩ : S45), (⟨(⟨#[99]⟩ : ByteArray), (⟨#[98]⟩ : ByteArray)⟩ : S45), (⟨(⟨#[]⟩ : ByteArray), (⟨#[97]⟩ : ByteArray)⟩ : S45), (⟨(⟨#[65]⟩ : ByteArray), (⟨#[]⟩ : ByteArray)⟩ : S45), (⟨(⟨#[]⟩ : ByteArray), (⟨#[97, 98, 99, 100, 101]⟩ : ByteArray)⟩ : S45)] : List (S45))) (inner := [.string (⟨#[98]⟩ : ByteArray), .string (⟨#[98]⟩ : ByteArray), .string (⟨#[99]⟩ : ByteArray), .string (⟨#[98]⟩ : ByteArray), .string (⟨#[]⟩ : ByteArray), .string (⟨#[97]⟩ : ByteArray), .string (⟨#[65]⟩ : ByteArray), .string (⟨#[]⟩ : ByteArray), .string (⟨#[]⟩ : ByteArray), .string (⟨#[97, 98, 99, 100, 101]⟩ : ByteArray)]) (ok := fun _ => True) (okp := fun _ => True) ?hr ?hp (fun _ hk => hk) trivial (Below.refl _ _) (Nat.le_refl _) (by simp) ?_; (case hd => rfl); (case hg => rfl); (case hr => first | (go_simp; done) | (go_simp; rfl)); (case hp => exact (Reps.c2 (show Kd.M k45 _ _ _ (⟨(⟨#[98]⟩ : ByteArray), (⟨#[98]⟩ : ByteArray)⟩ : S45) [.string (⟨#[98]⟩ : ByteArray), .string (⟨#[98]⟩ : ByteArray)] from (k45_mkM _ _ _ (⟨(⟨#[98]⟩ : ByteArray), (⟨#[98]⟩ : ByteArray)⟩ : S45) )) (Reps.c2 (show Kd.M k45 _ _ _ (⟨(⟨#[99]⟩ : ByteArray), (⟨#[98]⟩ : ByteArray)⟩ : S45) [.string (⟨#[99]⟩ : ByteArray), .string (⟨#[98]⟩ : ByteArray)] from (k45_mkM _ _ _ (⟨(⟨#[99]⟩ : ByteArray), (⟨#[98]⟩ : ByteArray)⟩ : S45) )) (Reps.c2 (show Kd.M k45 _ _ _ (⟨(⟨#[]⟩ : ByteArray), (⟨#[97]⟩ : ByteArray)⟩ : S45) [.string (⟨#[]⟩ : ByteArray), .string (⟨#[97]⟩ : ByteArray)] from (k45_mkM _ _ _ (⟨(⟨#[]⟩ : ByteArray), (⟨#[97]⟩ : ByteArray)⟩ : S45) )) (Reps.c2 (show Kd.M k45 _ _ _ (⟨(⟨#[65]⟩ : ByteArray), (⟨#[]⟩ : ByteArray)⟩ : S45) [.string (⟨#[65]⟩ : ByteArray), .string (⟨#[]⟩ : ByteArray)] from (k45_mkM _ _ _ (⟨(⟨#[65]⟩ : ByteArray), (⟨#[]⟩ : ByteArray)⟩ : S45) )) (Reps.c2 (show Kd.M k45 _ _ _ (⟨(⟨#[]⟩ : ByteArray), (⟨#[97, 98, 99, 100, 101]⟩ : ByteArray)⟩ : S45) [.string (⟨#[]⟩ : ByteArray), .string (⟨#[97, 98, 99, 100, 101]⟩ : ByteArray)] from (k45_mkM _ _ _ (⟨(⟨#[]⟩ : ByteArray), (⟨#[97, 98, 99, 100, 101]⟩ : ByteArray)⟩ : S45) )) (Reps.none _ _))))))); intro v163 w10 ho11 hb hg_ hnew_; clear hg_ hnew_; (first | rw [← Ny162.out] at ho11 | (simp only [Int.reduceToNat] at ho11; rw [← Ny162.out] at ho11)); have n0_ := Aside0.mk (Kd.R_lower (Kd.R_newB ho11 (g := gb159) (o := .cells #[.string (⟨#[]⟩ : ByteArray), .string (⟨#[]⟩ : ByteArray)] 45 (0, 0)) (by (with_reducible repeat (first | refine blk_drewN ?_ _ | refine blk_drew ?_ | refine blk_alloc ?_ _)); exact BK159.out)) (keep_size (w := w) (g := g) (row := none) (by repeat (first | (with_reducible first | exact HK.out | apply KeepBut.set_ | apply keep_drewN | apply keep_drew | apply keep_alloc | refine keep_far ?_ GW159.out _) | exact HK.out)))); have n1_ := Aside0.mk (IsS84.below (by repeat (first | (with_reducible first | exact HI0.out | apply IsS84.alloc | apply IsS84.drewN | apply IsS84.drew | apply IsS84.set_1 | refine IsS84.far ?_ NB0_159.out _) | exact HI0.out)) hb); have n2_ := Aside0.mk (blk_below (g := gb159) (o := .cells #[.string (⟨#[]⟩ : ByteArray), .string (⟨#[]⟩ : ByteArray)] 45 (0, 0)) (by (with_reducible repeat (first | refine blk_drewN ?_ _ | refine blk_drew ?_ | refine blk_alloc ?_ _)); exact BK159.out) hb); have n3_ := Aside0.mk (KeepBut.trans (by repeat (first | (with_reducible first | exact HK.out | apply KeepBut.set_ | apply keep_drewN | apply keep_drew | apply keep_alloc | refine keep_far ?_ GW159.out _) | exact HK.out)) (KeepBut.of_below hb g none) (.inl rfl)); have n4_ := Aside0.mk (below_step (by repeat (first | (with_reducible first | exact HB.out | apply below_alloc | apply pw_below_drewN | apply below_drew1 | refine below_set ?_ (IsS84.ge HI0.out) | refine below_set ?_ GE159.out) | exact HB.out)) hb); clear HI0; clear BK159; clear HK; clear HB; have HO164 := n0_; have HI0 := n1_; have BK159 := n2_; have HK := n3_; have HB := n4_; clear n0_ n1_ n2_ n3_ n4_; clear hb ho11) | ((with_reducible refine gate_callee (f := 64) rfl ?_); refine goesL_ (some 17) rfl rfl Try.func64 (by kernel_rfl) rfl #[.pointer (some ⟨g, 0, none⟩), .int .i64 5] rfl (by (try simp only [List.map_toArray, List.map_cons, List.map_nil]); first | done | rfl | (simp only [List.length_drop, List.length_take]; rfl)) ?_; (with_reducible refine (spec_l20Rd_pick.calls k g s0_0 t161 5 t165 t166 w0 _ ?side1 ?side2 A5.out).mono ?_); (case side1 => repeat (first | (with_reducible first | exact HI0.out | apply IsS84.alloc | apply IsS84.drewN | apply IsS84.drew | apply IsS84.set_1 | refine IsS84.far ?_ NB0_159.out _) | exact HI0.out)); (case side2 => repeat (first | (with_reducible first | exact HB.out | apply below_alloc | apply pw_below_drewN | apply below_drew1 | refine below_set ?_ (IsS84.ge HI0.out) | refine below_set ?_ GE159.out) | exact HB.out)); rintro e w12 ⟨rfl, hi, hb, hk⟩; refine ⟨_, rfl, ?_⟩; have n0_ := Aside0.mk (KeepBut.blk hk (g' := gb159) (o := .cells #[.string (⟨#[]⟩ : ByteArray), .string (⟨#[]⟩ : ByteArray)] 45 (0, 0)) (by (with_reducible repeat (first | refine blk_drewN ?_ _ | refine blk_drew ?_ | refine blk_alloc ?_ _)); exact BK159.out) NB159_0.out (by simp)); have n1_ := Aside0.mk (Kd.R_mono (Kd.R_keep (IsS84.apart (show IsS84 w0 _ g s0_0 t161 from by repeat (first | (with_reducible first | exact HI0.out | apply IsS84.alloc | apply IsS84.drewN | apply IsS84.drew | apply IsS84.set_1 | refine IsS84.far ?_ NB0_159.out _) | exact HI0.out)) (by (with_reducible repeat (first | apply Kd.R_alloc | apply Kd.R_drewN | apply Kd.R_drew)); exact HO164.out) (by decide)) hk (fun _ h => h.2)) (fun _ h => h.1)); have n2_ := Aside0.mk (KeepBut.trans (by repeat (first | (with_reducible first | exact HK.out | apply KeepBut.set_ | apply keep_drewN | apply keep_drew | apply keep_alloc | refine keep_far ?_ GW159.out _) | exact HK.out)) hk (.inl rfl)); have n3_ := Aside0.mk (hb); have n4_ := Aside0.mk (hi); clear BK159; clear HO164; clear HK; clear HB; clear HI0; have BK159 := n0_; have HO164 := n1_; have HK := n2_; have HB := n3_; have HI0 := n4_; clear n0_ n1_ n2_ n3_ n4_; (try clear hb); (try clear hb2); (try clear hk); (try clear hi); obtain ⟨Ao13, co13, eo13⟩ := Kd.R_slice HO164.out; subst eo13; have p167 : 0 ≤ (t165 : Int) := of_decide_eq_true (by first | (with_reducible assumption) | assumption); have q167 : t165 < (y162.length : Int) := of_decide_eq_true (by first | (with_reducible assumption) | assumption); obtain ⟨ad167, e167, hx167_0, hx167_1⟩ := at_T45 (Kd.R_reads' HO164.out).2.2 t165 p167 q167; cases e167; replace p167 := eq_true p167; replace q167 := eq_true q167; have hnb14 := NB159_0.out; have hnc14 := NB0_159.out; have hcz15_0 : w12.cell? ⟨gb159, 0, none⟩ = some (.string (⟨#[]⟩ : ByteArray)) := (blk_cell BK159.out 0).trans rfl; have hcz15_1 : w12.cell? ⟨gb159, 1, none⟩ = some (.string (⟨#[]⟩ : ByteArray)) := (blk_cell BK159.out 1).trans rfl; have hfz15_0 := blk_frozen BK159.out 0; have hfz15_1 := blk_frozen BK159.out 1))
        refine bodyPost_ret (results_cell_row rfl _ _ gb159 45 #[.string ((rd_T45 y162 t165).f0), .string ((rd_T45 y162 t165).f1)] (0, 0) _ rfl (by (with_reducible repeat (first | refine blk_drewN ?_ _ | refine blk_drew ?_ | refine blk_alloc ?_ _)); refine blk_put (cs := #[.string ((rd_T45 y162 t165).f0), .string (⟨#[]⟩ : ByteArray)]) ?_ 1 _ rfl; (with_reducible repeat (first | refine blk_drewN ?_ _ | refine blk_drew ?_ | refine blk_alloc ?_ _)); refine blk_put (cs := #[.string (⟨#[]⟩ : ByteArray), .string (⟨#[]⟩ : ByteArray)]) ?_ 0 _ rfl; (with_reducible repeat (first | refine blk_drewN ?_ _ | refine blk_drew ?_ | refine blk_alloc ?_ _)); exact BK159.out) Try.underlying45 rfl (by kernel_rfl)) rfl ?_
        exact ⟨by first | rfl | (simp [errW_none, errW_some] <;> rfl) | (simp [*, errW_none, errW_some] <;> rfl), by repeat (first | (with_reducible first | exact HI0.out | apply IsS84.alloc | apply IsS84.drewN | apply IsS84.drew | apply IsS84.set_1 | refine IsS84.far ?_ NB0_159.out _) | exact HI0.out), by repeat (first | (with_reducible first | exact HB.out | apply below_alloc | apply pw_below_drewN | apply below_drew1 | refine below_set ?_ (IsS84.ge HI0.out) | refine below_set ?_ GE159.out) | exact HB.out), by repeat (first | (with_reducible first | exact HK.out | apply KeepBut.set_ | apply keep_drewN | apply keep_drew | apply keep_alloc | refine keep_far ?_ GW159.out _) | exact HK.out)⟩
      · rw [if_neg c7] at H
        exact absurd H (by simp)
    · rw [if_neg c6] at H
      exact absurd H (by simp)
  · replace c4 := Bool.eq_false_iff.mpr c4
    subst c4
    have H1 : ((spec_l20Key.f k s0_0 t161 0).bind fun bt168 => ((spec_l20Key.f k s0_0 bt168.2 0).bind fun bt170 => ((spec_l20Rd_pick.f k s0_0 bt170.2 6).bind fun bt172 => (if bt172.1 = 0 then (some ((⟨#[]⟩ : ByteArray), (⟨#[]⟩ : ByteArray), bt172.2)) else (if bt172.1 = 1 then (some (bt168.1, (⟨#[]⟩ : ByteArray), bt172.2)) else (if bt172.1 = 2 then (if bt170.1.toList = ([97] : List UInt8) then (spec_l20Span.j0 k bt168.1 bt170.1 s0_0 bt172.2) else (some ((⟨#[]⟩ : ByteArray), bt170.1, bt172.2))) else (spec_l20Span.j0 k bt168.1 bt170.1 s0_0 bt172.2))))))) = some (r1, r2, r3) := by rw [if_neg (show ¬ (false = true) by decide)] at H; exact H
    clear H
    have H := H1
    clear H1
    replace H := Option.bind_eq_some_iff.mp H
    obtain ⟨⟨t168, t169⟩, A160, H⟩ := H
    replace H : ((spec_l20Key.f k s0_0 t169 0).bind fun bt170 => ((spec_l20Rd_pick.f k s0_0 bt170.2 6).bind fun bt172 => (if bt172.1 = 0 then (some ((⟨#[]⟩ : ByteArray), (⟨#[]⟩ : ByteArray), bt172.2)) else (if bt172.1 = 1 then (some (t168, (⟨#[]⟩ : ByteArray), bt172.2)) else (if bt172.1 = 2 then (if bt170.1.toList = ([97] : List UInt8) then (spec_l20Span.j0 k t168 bt170.1 s0_0 bt172.2) else (some ((⟨#[]⟩ : ByteArray), bt170.1, bt172.2))) else (spec_l20Span.j0 k t168 bt170.1 s0_0 bt172.2)))))) = some (r1, r2, r3) := H
    have A16 := Aside0.mk A160
    clear A160
    replace H := Option.bind_eq_some_iff.mp H
    obtain ⟨⟨t170, t171⟩, A170, H⟩ := H
    replace H : ((spec_l20Rd_pick.f k s0_0 t171 6).bind fun bt172 => (if bt172.1 = 0 then (some ((⟨#[]⟩ : ByteArray), (⟨#[]⟩ : ByteArray), bt172.2)) else (if bt172.1 = 1 then (some (t168, (⟨#[]⟩ : ByteArray), bt172.2)) else (if bt172.1 = 2 then (if t170.toList = ([97] : List UInt8) then (spec_l20Span.j0 k t168 t170 s0_0 bt172.2) else (some ((⟨#[]⟩ : ByteArray), t170, bt172.2))) else (spec_l20Span.j0 k t168 t170 s0_0 bt172.2))))) = some (r1, r2, r3) := H
    have A17 := Aside0.mk A170
    clear A170
    replace H := Option.bind_eq_some_iff.mp H
    obtain ⟨⟨t172, t173⟩, A180, H⟩ := H
    replace H : (if t172 = 0 then (some ((⟨#[]⟩ : ByteArray), (⟨#[]⟩ : ByteArray), t173)) else (if t172 = 1 then (some (t168, (⟨#[]⟩ : ByteArray), t173)) else (if t172 = 2 then (if t170.toList = ([97] : List UInt8) then (spec_l20Span.j0 k t168 t170 s0_0 t173) else (some ((⟨#[]⟩ : ByteArray), t170, t173))) else (spec_l20Span.j0 k t168 t170 s0_0 t173)))) = some (r1, r2, r3) := H
    have A18 := Aside0.mk A180
    clear A180
    have HC19 := Aside0.mk H
    clear H
    go_enter Try.func54, Try.ntmps54
    go_upto_block 0 with (first | ((with_reducible refine gate_dst (N := 4) rfl ?_); refine box_event ?hg (N := 4) ?hd (cs := #[.string (⟨#[]⟩ : ByteArray), .string (⟨#[]⟩ : ByteArray)]) (t := 45) ?hr ?_; (case hd => rfl); (case hg => rfl); (case hr => first | (go_simp; done) | (go_simp; rfl)); intro gb159 hg w20 hbox hb; have n0_ := Aside0.mk (IsS84.below (by repeat (first | (with_reducible first | exact HI0.out | apply IsS84.alloc | apply IsS84.drewN | apply IsS84.drew | apply IsS84.set_1) | exact HI0.out)) hb); have n1_ := Aside0.mk (KeepBut.trans (by repeat (first | (with_reducible first | exact HK.out | apply KeepBut.set_ | apply keep_drewN | apply keep_drew | apply keep_alloc) | exact HK.out)) (KeepBut.of_below hb g none) (.inl rfl)); have n2_ := Aside0.mk (below_step (by repeat (first | (with_reducible first | exact HB.out | apply below_alloc | apply pw_below_drewN | apply below_drew1 | refine below_set ?_ (IsS84.ge HI0.out)) | exact HB.out)) hb); have n3_ := Aside0.mk (hbox); have n4_ := Aside0.mk ((by rw [hg]; exact (keep_size (w := w) (g := g) (row := none) (by repeat (first | (with_reducible first | exact HK.out | apply KeepBut.set_ | apply keep_drewN | apply keep_drew | apply keep_alloc) | exact HK.out))) : w.heap.size ≤ gb159)); have n5_ := Aside0.mk ((Nat.le_trans HW0.out (by rw [hg]; exact (keep_size (w := w) (g := g) (row := none) (by repeat (first | (with_reducible first | exact HK.out | apply KeepBut.set_ | apply keep_drewN | apply keep_drew | apply keep_alloc) | exact HK.out))) : w.heap.size ≤ gb159) : w0.heap.size ≤ gb159)); have n6_ := Aside0.mk ((by rw [hg]; exact Nat.ne_of_lt (IsS84.lt (show IsS84 w0 _ g s0_0 s0_1 from by repeat (first | (with_reducible first | exact HI0.out | apply IsS84.alloc | apply IsS84.drewN | apply IsS84.drew | apply IsS84.set_1) | exact HI0.out))) : g ≠ gb159)); have n7_ := Aside0.mk ((by rw [hg]; exact Nat.ne_of_gt (IsS84.lt (show IsS84 w0 _ g s0_0 s0_1 from by repeat (first | (with_reducible first | exact HI0.out | apply IsS84.alloc | apply IsS84.drewN | apply IsS84.drew | apply IsS84.set_1) | exact HI0.out))) : gb159 ≠ g)); clear HI0; clear HK; clear HB; have HI0 := n0_; have HK := n1_; have HB := n2_; have BK159 := n3_; have GW159 := n4_; have GE159 := n5_; have NB0_159 := n6_; have NB159_0 := n7_; clear n0_ n1_ n2_ n3_ n4_ n5_ n6_ n7_; clear hb hbox hg) | ((with_reducible refine gate_callee (f := 67) rfl ?_); refine goesL_ (some 9) rfl rfl Try.func67 (by kernel_rfl) rfl #[.pointer (some ⟨g, 0, none⟩), .int .i64 a1] rfl (by (try simp only [List.map_toArray, List.map_cons, List.map_nil]); first | done | rfl | (simp only [List.length_drop, List.length_take]; rfl)) ?_; (with_reducible refine (spec_l20Rd_odd.calls k g s0_0 s0_1 a1 false t161 w0 _ ?side1 ?side2 A3.out).mono ?_); (case side1 => repeat (first | (with_reducible first | exact HI0.out | apply IsS84.alloc | apply IsS84.drewN | apply IsS84.drew | apply IsS84.set_1 | refine IsS84.far ?_ NB0_159.out _) | exact HI0.out)); (case side2 => repeat (first | (with_reducible first | exact HB.out | apply below_alloc | apply pw_below_drewN | apply below_drew1 | refine below_set ?_ (IsS84.ge HI0.out) | refine below_set ?_ GE159.out) | exact HB.out)); rintro e w21 ⟨rfl, hi, hb, hk⟩; refine ⟨_, rfl, ?_⟩; have n0_ := Aside0.mk (KeepBut.blk hk (g' := gb159) (o := .cells #[.string (⟨#[]⟩ : ByteArray), .string (⟨#[]⟩ : ByteArray)] 45 (0, 0)) (by (with_reducible repeat (first | refine blk_drewN ?_ _ | refine blk_drew ?_ | refine blk_alloc ?_ _)); exact BK159.out) NB159_0.out (by simp)); have n1_ := Aside0.mk (KeepBut.trans (by repeat (first | (with_reducible first | exact HK.out | apply KeepBut.set_ | apply keep_drewN | apply keep_drew | apply keep_alloc | refine keep_far ?_ GW159.out _) | exact HK.out)) hk (.inl rfl)); have n2_ := Aside0.mk (hb); have n3_ := Aside0.mk (hi); clear BK159; clear HK; clear HB; clear HI0; have BK159 := n0_; have HK := n1_; have HB := n2_; have HI0 := n3_; clear n0_ n1_ n2_ n3_; (try clear hb); (try clear hb2); (try clear hk); (try clear hi)) | ((with_reducible refine gate_callee (f := 65) rfl ?_); refine goesL_ (some 21) rfl rfl Try.func65 (by kernel_rfl) rfl #[.pointer (some ⟨g, 0, none⟩), .int .i64 0] rfl (by (try simp only [List.map_toArray, List.map_cons, List.map_nil]); first | done | rfl | (simp only [List.length_drop, List.length_take]; rfl)) ?_; (with_reducible refine (spec_l20Key.calls k g s0_0 t161 0 t168 t169 w0 _ ?side1 ?side2 A16.out).mono ?_); (case side1 => repeat (first | (with_reducible first | exact HI0.out | apply IsS84.alloc | apply IsS84.drewN | apply IsS84.drew | apply IsS84.set_1 | refine IsS84.far ?_ NB0_159.out _) | exact HI0.out)); (case side2 => repeat (first | (with_reducible first | exact HB.out | apply below_alloc | apply pw_below_drewN | apply below_drew1 | refine below_set ?_ (IsS84.ge HI0.out) | refine below_set ?_ GE159.out) | exact HB.out)); rintro e w22 ⟨rfl, hi, hb, hk⟩; refine ⟨_, rfl, ?_⟩; have n0_ := Aside0.mk (KeepBut.blk hk (g' := gb159) (o := .cells #[.string (⟨#[]⟩ : ByteArray), .string (⟨#[]⟩ : ByteArray)] 45 (0, 0)) (by (with_reducible repeat (first | refine blk_drewN ?_ _ | refine blk_drew ?_ | refine blk_alloc ?_ _)); exact BK159.out) NB159_0.out (by simp)); have n1_ := Aside0.mk (KeepBut.trans (by repeat (first | (with_reducible first | exact HK.out | apply KeepBut.set_ | apply keep_drewN | apply keep_drew | apply keep_alloc | refine keep_far ?_ GW159.out _) | exact HK.out)) hk (.inl rfl)); have n2_ := Aside0.mk (hb); have n3_ := Aside0.mk (hi); clear BK159; clear HK; clear HB; clear HI0; have BK159 := n0_; have HK := n1_; have HB := n2_; have HI0 := n3_; clear n0_ n1_ n2_ n3_; (try clear hb); (try clear hb2); (try clear hk); (try clear hi)) | ((with_reducible refine gate_callee (f := 65) rfl ?_); refine goesL_ (some 23) rfl rfl Try.func65 (by kernel_rfl) rfl #[.pointer (some ⟨g, 0, none⟩), .int .i64 0] rfl (by (try simp only [List.map_toArray, List.map_cons, List.map_nil]); first | done | rfl | (simp only [List.length_drop, List.length_take]; rfl)) ?_; (with_reducible refine (spec_l20Key.calls k g s0_0 t169 0 t170 t171 w0 _ ?side1 ?side2 A17.out).mono ?_); (case side1 => repeat (first | (with_reducible first | exact HI0.out | apply IsS84.alloc | apply IsS84.drewN | apply IsS84.drew | apply IsS84.set_1 | refine IsS84.far ?_ NB0_159.out _) | exact HI0.out)); (case side2 => repeat (first | (with_reducible first | exact HB.out | apply below_alloc | apply pw_below_drewN | apply below_drew1 | refine below_set ?_ (IsS84.ge HI0.out) | refine below_set ?_ GE159.out) | exact HB.out)); rintro e w23 ⟨rfl, hi, hb, hk⟩; refine ⟨_, rfl, ?_⟩; have n0_ := Aside0.mk (KeepBut.blk hk (g' := gb159) (o := .cells #[.string (⟨#[]⟩ : ByteArray), .string (⟨#[]⟩ : ByteArray)] 45 (0, 0)) (by (with_reducible repeat (first | refine blk_drewN ?_ _ | refine blk_drew ?_ | refine blk_alloc ?_ _)); exact BK159.out) NB159_0.out (by simp)); have n1_ := Aside0.mk (KeepBut.trans (by repeat (first | (with_reducible first | exact HK.out | apply KeepBut.set_ | apply keep_drewN | apply keep_drew | apply keep_alloc | refine keep_far ?_ GW159.out _) | exact HK.out)) hk (.inl rfl)); have n2_ := Aside0.mk (hb); have n3_ := Aside0.mk (hi); clear BK159; clear HK; clear HB; clear HI0; have BK159 := n0_; have HK := n1_; have HB := n2_; have HI0 := n3_; clear n0_ n1_ n2_ n3_; (try clear hb); (try clear hb2); (try clear hk); (try clear hi)) | ((with_reducible refine gate_callee (f := 64) rfl ?_); refine goesL_ (some 25) rfl rfl Try.func64 (by kernel_rfl) rfl #[.pointer (some ⟨g, 0, none⟩), .int .i64 6] rfl (by (try simp only [List.map_toArray, List.map_cons, List.map_nil]); first | done | rfl | (simp only [List.length_drop, List.length_take]; rfl)) ?_; (with_reducible refine (spec_l20Rd_pick.calls k g s0_0 t171 6 t172 t173 w0 _ ?side1 ?side2 A18.out).mono ?_); (case side1 => repeat (first | (with_reducible first | exact HI0.out | apply IsS84.alloc | apply IsS84.drewN | apply IsS84.drew | apply IsS84.set_1 | refine IsS84.far ?_ NB0_159.out _) | exact HI0.out)); (case side2 => repeat (first | (with_reducible first | exact HB.out | apply below_alloc | apply pw_below_drewN | apply below_drew1 | refine below_set ?_ (IsS84.ge HI0.out) | refine below_set ?_ GE159.out) | exact HB.out)); rintro e w24 ⟨rfl, hi, hb, hk⟩; refine ⟨_, rfl, ?_⟩; have n0_ := Aside0.mk (KeepBut.blk hk (g' := gb159) (o := .cells #[.string (⟨#[]⟩ : ByteArray), .string (⟨#[]⟩ : ByteArray)] 45 (0, 0)) (by (with_reducible repeat (first | refine blk_drewN ?_ _ | refine blk_drew ?_ | refine blk_alloc ?_ _)); exact BK159.out) NB159_0.out (by simp)); have n1_ := Aside0.mk (KeepBut.trans (by repeat (first | (with_reducible first | exact HK.out | apply KeepBut.set_ | apply keep_drewN | apply keep_drew | apply keep_alloc | refine keep_far ?_ GW159.out _) | exact HK.out)) hk (.inl rfl)); have n2_ := Aside0.mk (hb); have n3_ := Aside0.mk (hi); clear BK159; clear HK; clear HB; clear HI0; have BK159 := n0_; have HK := n1_; have HB := n2_; have HI0 := n3_; clear n0_ n1_ n2_ n3_; (try clear hb); (try clear hb2); (try clear hk); (try clear hi)))
    (try simp only [Act.put, List.setIfInBounds_toArray, List.set_cons_zero, List.set_cons_succ])
    go_cut [] (fun wc => ∃ (kq : Nat) (x160000_18 : ByteArray) (x160001_18 : ByteArray), Aside0 (spec_l20Span.j0 kq t168 t170 s0_0 t173 = some (r1, r2, r3)) ∧ Aside0 (kq ≤ k) ∧ Aside0 (wc.heap[gb159]? = some (.cells #[.string x160000_18, .string x160001_18] 45 (0, 0))) ∧ Aside0 (IsS84 w0 wc g s0_0 t173) ∧ Aside0 (KeepBut w wc g none) ∧ Aside0 (Below w0.heap.size w0 wc))
    case first =>
      have H := HC19.out
      clear HC19
      by_cases c25 : t172 = 0
      · rw [if_pos c25] at H
        have c25b0 : (t172 == 0) = true := beq_iff_eq.mpr c25
        have c25b1 : (t172 != 0) = false := bne_eq_false_iff_eq.mpr c25
        clear c25
        (first | rw [c25b0] | (simp only [i64_w, i32_w]; rw [c25b0]) | skip)
        simp only [Option.some.injEq, Prod.mk.injEq] at H
        obtain ⟨rfl, rfl, rfl⟩ := H
        have hnb26 := NB159_0.out
        have hnc26 := NB0_159.out
        have hcz27_0 : w24.cell? ⟨gb159, 0, none⟩ = some (.string (⟨#[]⟩ : ByteArray)) := (blk_cell BK159.out 0).trans rfl
        have hcz27_1 : w24.cell? ⟨gb159, 1, none⟩ = some (.string (⟨#[]⟩ : ByteArray)) := (blk_cell BK159.out 1).trans rfl
        have hfz27_0 := blk_frozen BK159.out 0
        have hfz27_1 := blk_frozen BK159.out 1
        go_wp2
        refine bodyPost_ret (results_cell_row rfl _ _ gb159 45 #[.string (⟨#[]⟩ : ByteArray), .string (⟨#[]⟩ : ByteArray)] (0, 0) _ rfl (by (with_reducible repeat (first | refine blk_drewN ?_ _ | refine blk_drew ?_ | refine blk_alloc ?_ _)); refine blk_put (cs := #[.string (⟨#[]⟩ : ByteArray), .string (⟨#[]⟩ : ByteArray)]) ?_ 1 _ rfl; (with_reducible repeat (first | refine blk_drewN ?_ _ | refine blk_drew ?_ | refine blk_alloc ?_ _)); refine blk_put (cs := #[.string (⟨#[]⟩ : ByteArray), .string (⟨#[]⟩ : ByteArray)]) ?_ 0 _ rfl; (with_reducible repeat (first | refine blk_drewN ?_ _ | refine blk_drew ?_ | refine blk_alloc ?_ _)); exact BK159.out) Try.underlying45 rfl (by kernel_rfl)) rfl ?_
        exact ⟨by first | rfl | (simp [errW_none, errW_some] <;> rfl) | (simp [*, errW_none, errW_some] <;> rfl), by repeat (first | (with_reducible first | exact HI0.out | apply IsS84.alloc | apply IsS84.drewN | apply IsS84.drew | apply IsS84.set_1 | refine IsS84.far ?_ NB0_159.out _) | exact HI0.out), by repeat (first | (with_reducible first | exact HB.out | apply below_alloc | apply pw_below_drewN | apply below_drew1 | refine below_set ?_ (IsS84.ge HI0.out) | refine below_set ?_ GE159.out) | exact HB.out), by repeat (first | (with_reducible first | exact HK.out | apply KeepBut.set_ | apply keep_drewN | apply keep_drew | apply keep_alloc | refine keep_far ?_ GW159.out _) | exact HK.out)⟩
      · rw [if_neg c25] at H
        have c25b0 : (t172 == 0) = false := beq_eq_false_iff_ne.mpr c25
        have c25b1 : (t172 != 0) = true := bne_iff_ne.mpr c25
        (first | rw [c25b0] | (simp only [i64_w, i32_w]; rw [c25b0]) | skip)
        by_cases c28 : t172 = 1
        · rw [if_pos c28] at H
          have c28b0 : (t172 == 1) = true := beq_iff_eq.mpr c28
          have c28b1 : (t172 != 1) = false := bne_eq_false_iff_eq.mpr c28
          clear c28
          simp only [Option.some.injEq, Prod.mk.injEq] at H
          obtain ⟨rfl, rfl, rfl⟩ := H
          have hnb29 := NB159_0.out
          have hnc29 := NB0_159.out
          have hcz30_0 : w24.cell? ⟨gb159, 0, none⟩ = some (.string (⟨#[]⟩ : ByteArray)) := (blk_cell BK159.out 0).trans rfl
          have hcz30_1 : w24.cell? ⟨gb159, 1, none⟩ = some (.string (⟨#[]⟩ : ByteArray)) := (blk_cell BK159.out 1).trans rfl
          have hfz30_0 := blk_frozen BK159.out 0
          have hfz30_1 := blk_frozen BK159.out 1
          go_wp2
          refine bodyPost_ret (results_cell_row rfl _ _ gb159 45 #[.string t168, .string (⟨#[]⟩ : ByteArray)] (0, 0) _ rfl (by (with_reducible repeat (first | refine blk_drewN ?_ _ | refine blk_drew ?_ | refine blk_alloc ?_ _)); refine blk_put (cs := #[.string t168, .string (⟨#[]⟩ : ByteArray)]) ?_ 1 _ rfl; (with_reducible repeat (first | refine blk_drewN ?_ _ | refine blk_drew ?_ | refine blk_alloc ?_ _)); refine blk_put (cs := #[.string (⟨#[]⟩ : ByteArray), .string (⟨#[]⟩ : ByteArray)]) ?_ 0 _ rfl; (with_reducible repeat (first | refine blk_drewN ?_ _ | refine blk_drew ?_ | refine blk_alloc ?_ _)); exact BK159.out) Try.underlying45 rfl (by kernel_rfl)) rfl ?_
          exact ⟨by first | rfl | (simp [errW_none, errW_some] <;> rfl) | (simp [*, errW_none, errW_some] <;> rfl), by repeat (first | (with_reducible first | exact HI0.out | apply IsS84.alloc | apply IsS84.drewN | apply IsS84.drew | apply IsS84.set_1 | refine IsS84.far ?_ NB0_159.out _) | exact HI0.out), by repeat (first | (with_reducible first | exact HB.out | apply below_alloc | apply pw_below_drewN | apply below_drew1 | refine below_set ?_ (IsS84.ge HI0.out) | refine below_set ?_ GE159.out) | exact HB.out), by repeat (first | (with_reducible first | exact HK.out | apply KeepBut.set_ | apply keep_drewN | apply keep_drew | apply keep_alloc | refine keep_far ?_ GW159.out _) | exact HK.out)⟩
        · rw [if_neg c28] at H
          have c28b0 : (t172 == 1) = false := beq_eq_false_iff_ne.mpr c28
          have c28b1 : (t172 != 1) = true := bne_iff_ne.mpr c28
          by_cases c31 : t172 = 2
          · rw [if_pos c31] at H
            have c31b0 : (t172 == 2) = true := beq_iff_eq.mpr c31
            have c31b1 : (t172 != 2) = false := bne_eq_false_iff_eq.mpr c31
            clear c31
            by_cases c32 : t170.toList = ([97] : List UInt8)
            · rw [if_pos c32] at H
              have c32b0 : (t170.toList == ([97] : List UInt8)) = true := beq_iff_eq.mpr c32
              have c32b1 : (t170.toList != ([97] : List UInt8)) = false := bne_eq_false_iff_eq.mpr c32
              clear c32
              have H' := Aside0.mk H
              clear H
              go_wp2
              go_meet
              case rel => exact ⟨_, ((⟨#[]⟩ : ByteArray)), ((⟨#[]⟩ : ByteArray)), H', ⟨by first | omega | exact Nat.le_refl _⟩, ⟨by (with_reducible repeat (first | refine blk_drewN ?_ _ | refine blk_drew ?_ | refine blk_alloc ?_ _)); exact BK159.out⟩, ⟨by repeat (first | (with_reducible first | exact HI0.out | apply IsS84.alloc | apply IsS84.drewN | apply IsS84.drew | apply IsS84.set_1 | refine IsS84.far ?_ NB0_159.out _) | exact HI0.out)⟩, ⟨by repeat (first | (with_reducible first | exact HK.out | apply KeepBut.set_ | apply keep_drewN | apply keep_drew | apply keep_alloc | refine keep_far ?_ GW159.out _) | exact HK.out)⟩, ⟨by repeat (first | (with_reducible first | exact HB.out | apply below_alloc | apply pw_below_drewN | apply below_drew1 | refine below_set ?_ (IsS84.ge HI0.out) | refine below_set ?_ GE159.out) | exact HB.out)⟩⟩
            · rw [if_neg c32] at H
              have c32b0 : (t170.toList == ([97] : List UInt8)) = false := beq_eq_false_iff_ne.mpr c32
              have c32b1 : (t170.toList != ([97] : List UInt8)) = true := bne_iff_ne.mpr c32
              simp only [Option.some.injEq, Prod.mk.injEq] at H
              obtain ⟨rfl, rfl, rfl⟩ := H
              have hnb33 := NB159_0.out
              have hnc33 := NB0_159.out
              have hcz34_0 : w24.cell? ⟨gb159, 0, none⟩ = some (.string (⟨#[]⟩ : ByteArray)) := (blk_cell BK159.out 0).trans rfl
              have hcz34_1 : w24.cell? ⟨gb159, 1, none⟩ = some (.string (⟨#[]⟩ : ByteArray)) := (blk_cell BK159.out 1).trans rfl
              have hfz34_0 := blk_frozen BK159.out 0
              have hfz34_1 := blk_frozen BK159.out 1
              go_wp2
              refine bodyPost_ret (results_cell_row rfl _ _ gb159 45 #[.string (⟨#[]⟩ : ByteArray), .string t170] (0, 0) _ rfl (by (with_reducible repeat (first | refine blk_drewN ?_ _ | refine blk_drew ?_ | refine blk_alloc ?_ _)); refine blk_put (cs := #[.string (⟨#[]⟩ : ByteArray), .string (⟨#[]⟩ : ByteArray)]) ?_ 1 _ rfl; (with_reducible repeat (first | refine blk_drewN ?_ _ | refine blk_drew ?_ | refine blk_alloc ?_ _)); refine blk_put (cs := #[.string (⟨#[]⟩ : ByteArray), .string (⟨#[]⟩ : ByteArray)]) ?_ 0 _ rfl; (with_reducible repeat (first | refine blk_drewN ?_ _ | refine blk_drew ?_ | refine blk_alloc ?_ _)); exact BK159.out) Try.underlying45 rfl (by kernel_rfl)) rfl ?_
              exact ⟨by first | rfl | (simp [errW_none, errW_some] <;> rfl) | (simp [*, errW_none, errW_some] <;> rfl), by repeat (first | (with_reducible first | exact HI0.out | apply IsS84.alloc | apply IsS84.drewN | apply IsS84.drew | apply IsS84.set_1 | refine IsS84.far ?_ NB0_159.out _) | exact HI0.out), by repeat (first | (with_reducible first | exact HB.out | apply below_alloc | apply pw_below_drewN | apply below_drew1 | refine below_set ?_ (IsS84.ge HI0.out) | refine below_set ?_ GE159.out) | exact HB.out), by repeat (first | (with_reducible first | exact HK.out | apply KeepBut.set_ | apply keep_drewN | apply keep_drew | apply keep_alloc | refine keep_far ?_ GW159.out _) | exact HK.out)⟩
          · rw [if_neg c31] at H
            have c31b0 : (t172 == 2) = false := beq_eq_false_iff_ne.mpr c31
            have c31b1 : (t172 != 2) = true := bne_iff_ne.mpr c31
            have H' := Aside0.mk H
            clear H
            go_wp2
            go_meet
            case rel => exact ⟨_, ((⟨#[]⟩ : ByteArray)), ((⟨#[]⟩ : ByteArray)), H', ⟨by first | omega | exact Nat.le_refl _⟩, ⟨by (with_reducible repeat (first | refine blk_drewN ?_ _ | refine blk_drew ?_ | refine blk_alloc ?_ _)); exact BK159.out⟩, ⟨by repeat (first | (with_reducible first | exact HI0.out | apply IsS84.alloc | apply IsS84.drewN | apply IsS84.drew | apply IsS84.set_1 | refine IsS84.far ?_ NB0_159.out _) | exact HI0.out)⟩, ⟨by repeat (first | (with_reducible first | exact HK.out | apply KeepBut.set_ | apply keep_drewN | apply keep_drew | apply keep_alloc | refine keep_far ?_ GW159.out _) | exact HK.out)⟩, ⟨by repeat (first | (with_reducible first | exact HB.out | apply below_alloc | apply pw_below_drewN | apply below_drew1 | refine below_set ?_ (IsS84.ge HI0.out) | refine below_set ?_ GE159.out) | exact HB.out)⟩⟩
    case rest =>
      clear HC19
      try clear c1
      try clear p1
      try clear q1
      try clear hx1
      try clear c2
      try clear p2
      try clear c3
      try clear c4
      try clear c5
      try clear c6
      try clear c6b0
      try clear c7
      try clear c7b0
      try clear c14
      try clear p16
      try clear q16
      try clear hx16
      try clear c25
      try clear c25b0
      try clear c25b1
      try clear c26
      try clear c28
      try clear c28b0
      try clear c28b1
      try clear c29
      try clear c31
      try clear c31b0
      try clear c31b1
      try clear c32
      try clear c32b0
      try clear c32b1
      try clear c33
      try clear hcz15_0
      try clear hcz15_1
      try clear hcz27_0
      try clear hcz27_1
      try clear hcz30_0
      try clear hcz30_1
      try clear hcz34_0
      try clear hcz34_1
      try clear hfz15_0
      try clear hfz15_1
      try clear hfz27_0
      try clear hfz27_1
      try clear hfz30_0
      try clear hfz30_1
      try clear hfz34_0
      try clear hfz34_1
      try clear hx167_0
      try clear hx167_1
      try clear p167
      try clear q167
      obtain ⟨kq, x160000_18, x160001_18, HA, HJ18, BK159, HI0, HK, HB⟩ := hcut
      cases kq with
      | zero => exact absurd HA.out (by simp [spec_l20Span.j0])
      | succ kj18 =>
        have H := HA.out
        clear HA
        simp only [spec_l20Span.j0] at H
        by_cases c35 : (Op.bytesLess t168.toList t170.toList) = true
        · rw [if_pos c35] at H
          have c35b0 : (Op.bytesLess t168.toList t170.toList) = true := c35
          clear c35
          simp only [Option.some.injEq, Prod.mk.injEq] at H
          obtain ⟨rfl, rfl, rfl⟩ := H
          have hnb36 := NB159_0.out
          have hnc36 := NB0_159.out
          have hcz37_0 : wc.cell? ⟨gb159, 0, none⟩ = some (.string x160000_18) := (blk_cell BK159.out 0).trans rfl
          have hcz37_1 : wc.cell? ⟨gb159, 1, none⟩ = some (.string x160001_18) := (blk_cell BK159.out 1).trans rfl
          have hfz37_0 := blk_frozen BK159.out 0
          have hfz37_1 := blk_frozen BK159.out 1
          go_wp2
          refine bodyPost_ret (results_cell_row rfl _ _ gb159 45 #[.string t168, .string t170] (0, 0) _ rfl (by (with_reducible repeat (first | refine blk_drewN ?_ _ | refine blk_drew ?_ | refine blk_alloc ?_ _)); refine blk_put (cs := #[.string t168, .string x160001_18]) ?_ 1 _ rfl; (with_reducible repeat (first | refine blk_drewN ?_ _ | refine blk_drew ?_ | refine blk_alloc ?_ _)); refine blk_put (cs := #[.string x160000_18, .string x160001_18]) ?_ 0 _ rfl; (with_reducible repeat (first | refine blk_drewN ?_ _ | refine blk_drew ?_ | refine blk_alloc ?_ _)); exact BK159.out) Try.underlying45 rfl (by kernel_rfl)) rfl ?_
          exact ⟨by first | rfl | (simp [errW_none, errW_some] <;> rfl) | (simp [*, errW_none, errW_some] <;> rfl), by repeat (first | (with_reducible first | exact HI0.out | apply IsS84.alloc | apply IsS84.drewN | apply IsS84.drew | apply IsS84.set_1 | refine IsS84.far ?_ NB0_159.out _) | exact HI0.out), by repeat (first | (with_reducible first | exact HB.out | apply below_alloc | apply pw_below_drewN | apply below_drew1 | refine below_set ?_ (IsS84.ge HI0.out) | refine below_set ?_ GE159.out) | exact HB.out), by repeat (first | (with_reducible first | exact HK.out | apply KeepBut.set_ | apply keep_drewN | apply keep_drew | apply keep_alloc | refine keep_far ?_ GW159.out _) | exact HK.out)⟩
        · rw [if_neg c35] at H
          have c35b0 : (Op.bytesLess t168.toList t170.toList) = false := by simpa using c35
          clear c35
          by_cases c38 : (Op.bytesLess t170.toList t168.toList) = true
          · rw [if_pos c38] at H
            have c38b0 : (Op.bytesLess t170.toList t168.toList) = true := c38
            clear c38
            simp only [Option.some.injEq, Prod.mk.injEq] at H
            obtain ⟨rfl, rfl, rfl⟩ := H
            have hnb39 := NB159_0.out
            have hnc39 := NB0_159.out
            have hcz40_0 : wc.cell? ⟨gb159, 0, none⟩ = some (.string x160000_18) := (blk_cell BK159.out 0).trans rfl
            have hcz40_1 : wc.cell? ⟨gb159, 1, none⟩ = some (.string x160001_18) := (blk_cell BK159.out 1).trans rfl
            have hfz40_0 := blk_frozen BK159.out 0
            have hfz40_1 := blk_frozen BK159.out 1
            go_wp2
            refine bodyPost_ret (results_cell_row rfl _ _ gb159 45 #[.string t170, .string t168] (0, 0) _ rfl (by (with_reducible repeat (first | refine blk_drewN ?_ _ | refine blk_drew ?_ | refine blk_alloc ?_ _)); refine blk_put (cs := #[.string t170, .string x160001_18]) ?_ 1 _ rfl; (with_reducible repeat (first | refine blk_drewN ?_ _ | refine blk_drew ?_ | refine blk_alloc ?_ _)); refine blk_put (cs := #[.string x160000_18, .string x160001_18]) ?_ 0 _ rfl; (with_reducible repeat (first | refine blk_drewN ?_ _ | refine blk_drew ?_ | refine blk_alloc ?_ _)); exact BK159.out) Try.underlying45 rfl (by kernel_rfl)) rfl ?_
            exact ⟨by first | rfl | (simp [errW_none, errW_some] <;> rfl) | (simp [*, errW_none, errW_some] <;> rfl), by repeat (first | (with_reducible first | exact HI0.out | apply IsS84.alloc | apply IsS84.drewN | apply IsS84.drew | apply IsS84.set_1 | refine IsS84.far ?_ NB0_159.out _) | exact HI0.out), by repeat (first | (with_reducible first | exact HB.out | apply below_alloc | apply pw_below_drewN | apply below_drew1 | refine below_set ?_ (IsS84.ge HI0.out) | refine below_set ?_ GE159.out) | exact HB.out), by repeat (first | (with_reducible first | exact HK.out | apply KeepBut.set_ | apply keep_drewN | apply keep_drew | apply keep_alloc | refine keep_far ?_ GW159.out _) | exact HK.out)⟩
          · rw [if_neg c38] at H
            have c38b0 : (Op.bytesLess t170.toList t168.toList) = false := by simpa using c38
            clear c38
            simp only [Option.some.injEq, Prod.mk.injEq] at H
            obtain ⟨rfl, rfl, rfl⟩ := H
            have hnb41 := NB159_0.out
            have hnc41 := NB0_159.out
            have hcz42_0 : wc.cell? ⟨gb159, 0, none⟩ = some (.string x160000_18) := (blk_cell BK159.out 0).trans rfl
            have hcz42_1 : wc.cell? ⟨gb159, 1, none⟩ = some (.string x160001_18) := (blk_cell BK159.out 1).trans rfl
            have hfz42_0 := blk_frozen BK159.out 0
            have hfz42_1 := blk_frozen BK159.out 1
            go_wp2
            refine bodyPost_ret (results_cell_row rfl _ _ gb159 45 #[.string t168, .string (⟨#[]⟩ : ByteArray)] (0, 0) _ rfl (by (with_reducible repeat (first | refine blk_drewN ?_ _ | refine blk_drew ?_ | refine blk_alloc ?_ _)); refine blk_put (cs := #[.string t168, .string x160001_18]) ?_ 1 _ rfl; (with_reducible repeat (first | refine blk_drewN ?_ _ | refine blk_drew ?_ | refine blk_alloc ?_ _)); refine blk_put (cs := #[.string x160000_18, .string x160001_18]) ?_ 0 _ rfl; (with_reducible repeat (first | refine blk_drewN ?_ _ | refine blk_drew ?_ | refine blk_alloc ?_ _)); exact BK159.out) Try.underlying45 rfl (by kernel_rfl)) rfl ?_
            exact ⟨by first | rfl | (simp [errW_none, errW_some] <;> rfl) | (simp [*, errW_none, errW_some] <;> rfl), by repeat (first | (with_reducible first | exact HI0.out | apply IsS84.alloc | apply IsS84.drewN | apply IsS84.drew | apply IsS84.set_1 | refine IsS84.far ?_ NB0_159.out _) | exact HI0.out), by repeat (first | (with_reducible first | exact HB.out | apply below_alloc | apply pw_below_drewN | apply below_drew1 | refine below_set ?_ (IsS84.ge HI0.out) | refine below_set ?_ GE159.out) | exact HB.out), by repeat (first | (with_reducible first | exact HK.out | apply KeepBut.set_ | apply keep_drewN | apply keep_drew | apply keep_alloc | refine keep_far ?_ GW159.out _) | exact HK.out)⟩

end Go.Proofs.Ytdamnfkpfhoahaa.PFnNewState
