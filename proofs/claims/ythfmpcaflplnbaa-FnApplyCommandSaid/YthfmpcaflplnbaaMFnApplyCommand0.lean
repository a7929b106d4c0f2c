/- Walks over models, part 0: have cmdm apm sdrop scmd sapply ipplace keyval ipairs iget mkcap copyP replP idrop iput icmd iapply runm ord prok runv getm apget drapply lawFnApplyCommand. -/
import Derived.Test.YthfmpcaflplnbaaPFnApplyCommandx0
import Derived.Deep.RegionHeld3
import Derived.Test.YthfmpcaflplnbaaPFnApplyCommandx25
import Derived.Test.YthfmpcaflplnbaaPFnApplyCommandx26
import Derived.Test.YthfmpcaflplnbaaPFnApplyCommandx24
import Derived.Test.YthfmpcaflplnbaaPFnApplyCommandx27
import Derived.Test.YthfmpcaflplnbaaPFnApplyCommandx28
import Derived.Test.YthfmpcaflplnbaaPFnApplyCommandx32
import Derived.Test.YthfmpcaflplnbaaPFnApplyCommandx33
import Derived.Test.YthfmpcaflplnbaaPFnApplyCommandx31
import Derived.Test.YthfmpcaflplnbaaPFnApplyCommandx34
import Derived.Test.YthfmpcaflplnbaaPFnApplyCommandx30
import Derived.Test.YthfmpcaflplnbaaPFnApplyCommandx29
import Derived.Test.YthfmpcaflplnbaaPFnApplyCommandx35
import Derived.Test.YthfmpcaflplnbaaPFnApplyCommandx40
import Derived.Test.YthfmpcaflplnbaaPFnApplyCommandx36
import Derived.Test.YthfmpcaflplnbaaAFnApplyCommand0
namespace Go.Proofs.Ythfmpcaflplnbaa.PFnApplyCommand
open Go.RowKit Go.Proofs.YthfmpcaflplnbaaW.PrintWords Go.Proofs.YthfmpcaflplnbaaW.PrintLast Go.Proofs.YthfmpcaflplnbaaW.PrintMore
set_option linter.unusedVariables false
set_option linter.unusedSimpArgs false
set_option maxHeartbeats 4000000
set_option maxRecDepth 100000
attribute [local go_sem] leq_str geq_str gtr_str

/-! The model of commands. -/
def cmdB (k : Int) (key : ByteArray) (v o : Int) : Bool :=
  (keyB key || (decide (k = 5) && decide (key.toList = ([] : List UInt8)))) &&
  (if k = 2 then l1B v 0 999 && decide (o = 0) else if k = 4 then l1B v 0 999 && l1B o (-1) 999 else decide (1 ≤ k ∧ k ≤ 5) && (decide (v = 0) && decide (o = 0)))

/-! The model of a command carried out. -/
def apM (l : List S42) (k : Int) (x : ByteArray) (v o : Int) : List S42 × Int :=
  if prB l = true ∧ cmdB k x v o = true ∧ k ≠ 5 then
    (if k = 3 then ((dropM l x).1, getM l x)
     else if k = 1 ∨ (k = 4 ∧ o ≠ getM l x) then (l, getM l x)
     else if getM l x = -1 ∧ 8 ≤ l.length then (l, -2)
     else ((putM l x v).1, getM l x))
  else ([], -3)
theorem prG_val (l : List S42) : ∀ p : Option ByteArray, prG p l = true → ∀ x ∈ l, 0 ≤ x.f1 ∧ x.f1 ≤ 999 := by
  induction l with
  | nil => intro p _ x hx; cases hx
  | cons s r ih =>
    intro p h x hx
    simp only [prG, Bool.and_eq_true] at h
    rcases List.mem_cons.mp hx with rfl | hx
    · have h1 := h.1
      unfold okP at h1
      rw [Bool.and_eq_true] at h1
      have h2 := h1.2
      simp only [l1B, Bool.and_eq_true, decide_eq_true_eq] at h2
      omega
    · exact ih _ h.2.2 x hx
theorem getM_bound (l : List S42) (c : ByteArray) : -1 ≤ getM l c ∧ getM l c ≤ 999 := by
  unfold getM
  split
  · rename_i h
    rw [Bool.and_eq_true] at h
    obtain ⟨hv, hh⟩ := h
    obtain ⟨hlt, -, -⟩ := hit_true hh
    have hp := hv
    unfold prB at hp
    rw [Bool.and_eq_true] at hp
    have := prG_val l none hp.2 (rd_T42 l ((atP l c : Nat) : Int)) (by rw [pr_nat hlt]; exact List.getElem_mem _)
    omega
  · omega
theorem dropM_len (l : List S42) (c : ByteArray) : (dropM l c).1.length ≤ l.length := by
  unfold dropM
  split
  · split
    · simp only [List.length_append, List.length_take, List.length_drop]; omega
    · exact Nat.le_refl _
  · simp
theorem putM_len (l : List S42) (c : ByteArray) (v : Int) : (putM l c v).1.length ≤ l.length + 1 := by
  unfold putM
  have hat := atP_le l c
  split
  · split
    · simp only [List.length_append, List.length_take, List.length_drop, List.length_cons, List.length_nil]; omega
    · split
      · simp only; omega
      · simp only [List.length_append, List.length_take, List.length_drop, List.length_cons, List.length_nil]; omega
  · simp
theorem apM_len (l : List S42) (k : Int) (x : ByteArray) (v o : Int) : (apM l k x v o).1.length ≤ l.length + 1 := by
  unfold apM
  have h1 := dropM_len l x
  have h2 := putM_len l x v
  split
  · split
    · simp only; omega
    · split
      · simp only; omega
      · split
        · simp only; omega
        · simp only; omega
  · simp

theorem spec_PairDrop.M (A0 : Option Addr) (c0 : Nat) (l : List S42) (c : ByteArray) (w : World) (hr0 : Kd.C k42 w A0 l.length l) (hc0 : l.length ≤ c0) : Calls Try.prog 44 #[.slice A0 l.length c0, .string c] w fun e w' => ∃ v0, e = .returned (.tuple #[v0, .bool (dropM l c).2]) ∧ Kd.R k42 42 w' w.heap.size (fun _ => True) v0 (dropM l c).1 ∧ Below w.heap.size w w' := by
  have B := Aside0.mk (Below.refl w.heap.size w)
  have hu := Try.underlying42
  have HR0 := Aside0.mk hr0
  have HC0 := Aside0.mk hc0
  have L63 := Aside0.mk hr0.2.1
  clear hr0
  obtain ⟨i0, hif, _, hsz0, _⟩ := info_parts info42
  by_cases hv : prB l = true
  · have h48 := prB_len hv
    cases hh : hitM l c with
    | true =>
      obtain ⟨hlt, hf0, hf⟩ := hit_true hh
      have j1 := eq_true (show ((atP l c : Nat) : Int) < (l.length : Int) by omega)
      have j2 := eq_true hlt
      have hne : (((atP l c : Nat) : Int) == (l.length : Int)) = false := by simp; omega
      have hcut1 := cut_to (P := Try.prog) 27 42 .i64 Try.underlying27 hif A0 l.length c0 ((atP l c : Nat) : Int) (by omega) (by omega) hc0
      rw [Int.toNat_natCast] at hcut1
      have C1 := Aside0.mk (fun {W : World} (h : Kd.C k42 W A0 l.length l) => show Kd.C k42 W A0 (atP l c) (l.take (atP l c)) from by
        have := Kd.C_take h (m := atP l c) (by omega)
        rwa [List.length_take, Nat.min_eq_left (by omega)] at this)
      have hcut2 := cut_from (P := Try.prog) 27 42 .i64 Try.underlying27 hif 2 hsz0 A0 l.length c0 (((atP l c : Nat) : Int) + 1) (by omega) (by omega)
      rw [show (((atP l c : Nat) : Int) + 1).toNat = atP l c + 1 by omega] at hcut2
      obtain ⟨A2, hA2⟩ : ∃ A2, A2 = (if c0 = atP l c + 1 then A0 else A0.map (·.add ((atP l c + 1) * 2))) := ⟨_, rfl⟩
      rw [← hA2] at hcut2
      have C2 := Aside0.mk (fun {W : World} (h : Kd.C k42 W A0 l.length l) => show Kd.C k42 W A2 (l.length - (atP l c + 1)) (l.drop (atP l c + 1)) from by
        have := Kd.C_drop h (m := atP l c + 1) (c := c0) (by omega) hc0
        rw [List.length_drop] at this
        rw [hA2]
        exact this)
      clear hA2
      clear hif hsz0 hc0
      have hM : dropM l c = (l.take (atP l c) ++ l.drop (atP l c + 1), true) := by unfold dropM; rw [if_pos hv, if_pos hh]
      go_enter Try.func44, Try.ntmps44
      go_wp2_with (first
        | ((with_reducible refine gate_dst (N := 8) rfl ?_); refine lt k42 42 ?hg (N := 8) ?hd ([] : List S42) [] ?hr (Reps.none _ _) (by simp) B ?_; (case hd => rfl); (case hg => rfl); (case hr => first | (go_simp; done) | (go_simp; rfl)); intro z8 hz8 AL8 kL8 w1 hb B RL8 QL8; clear hb QL8)
        | (go_at_call 41; with_reducible refine cl (spec_PairsValid.M _ _ l _ (cb HR0 B)) B fun w2 hb B => ?_; replace RL8 := rn RL8 hb; clear hb)
        | (go_at_call 75; with_reducible refine cl (spec_l4Place.M _ _ l c _ (cb HR0 B)) B fun w3 hb B => ?_; replace RL8 := rn RL8 hb; clear hb; (obtain ⟨ad, hA, y0, y1⟩ := at_T42 (cb HR0 B) ((atP l c : Nat) : Int) (Int.natCast_nonneg _) (Int.ofNat_lt.mpr hlt); cases hA; rw [Int.toNat_natCast] at y0 y1))
        | ((with_reducible refine gate_builtin (b := .append) (xs := #[.tmp 32, .tmp 35]) rfl ?_); at_builtin; refine apx k42 42 rfl (.tmp 32) (.tmp 35) 27 (.agg #[.string (⟨#[]⟩ : ByteArray), .int .i64 (0)]) 24 rfl Try.underlying27 info42 rfl (by decide) (by omega) rfl rfl RL8 (C1.out (cb HR0 B)) (fun x cs h => by rw [k42_open h]; exact k42_mkM _ _ _ x) (by rw [← hz8]; simp only [List.length_append, List.length_nil, List.length_cons, List.length_take, List.length_drop]; omega) B ?_; intro z36 hz36 AL36 kL36 w4 hg B RL36 hat; clear hg hat)
        | ((with_reducible refine gate_builtin (b := .append) (xs := #[.tmp 37, .tmp 41]) rfl ?_); at_builtin; refine apx k42 42 rfl (.tmp 37) (.tmp 41) 27 (.agg #[.string (⟨#[]⟩ : ByteArray), .int .i64 (0)]) 24 rfl Try.underlying27 info42 rfl (by decide) (by omega) rfl rfl RL36 (C2.out (cb HR0 B)) (fun x cs h => by rw [k42_open h]; exact k42_mkM _ _ _ x) (by rw [← hz36, ← hz8]; simp only [List.length_append, List.length_nil, List.length_cons, List.length_take, List.length_drop]; omega) B ?_; intro z42 hz42 AL42 kL42 w5 hg B RL42 hat; clear hg hat))
      go_ret2; have hZ : z42 = l.take (atP l c) ++ l.drop (atP l c + 1) := (by rw [← hz42, ← hz36, ← hz8]; try simp); exact ⟨_, by rw [hM]; rfl, by rw [hM, ← hZ]; exact RL42.out, B.out⟩
    | false =>
      clear hif hsz0 hc0
      have hM : dropM l c = (l, false) := by unfold dropM; rw [if_pos hv, if_neg (by rw [hh]; simp)]
      by_cases hlt : atP l c < l.length
      · have hf := hit_false hh hlt
        have j1 := eq_true (show ((atP l c : Nat) : Int) < (l.length : Int) by omega)
        have j2 := eq_true hlt
        have hne : (((atP l c : Nat) : Int) == (l.length : Int)) = false := by simp; omega
        go_enter Try.func44, Try.ntmps44
        go_wp2_with (first
          | ((with_reducible refine gate_dst (N := 8) rfl ?_); refine lt k42 42 ?hg (N := 8) ?hd ([] : List S42) [] ?hr (Reps.none _ _) (by simp) B ?_; (case hd => rfl); (case hg => rfl); (case hr => first | (go_simp; done) | (go_simp; rfl)); intro z8 hz8 AL8 kL8 w1 hb B RL8 QL8; clear hb QL8)
          | (go_at_call 41; with_reducible refine cl (spec_PairsValid.M _ _ l _ (cb HR0 B)) B fun w2 hb B => ?_; replace RL8 := rn RL8 hb; clear hb)
          | (go_at_call 75; with_reducible refine cl (spec_l4Place.M _ _ l c _ (cb HR0 B)) B fun w3 hb B => ?_; replace RL8 := rn RL8 hb; clear hb; (obtain ⟨ad, hA, y0, y1⟩ := at_T42 (cb HR0 B) ((atP l c : Nat) : Int) (Int.natCast_nonneg _) (Int.ofNat_lt.mpr hlt); cases hA; rw [Int.toNat_natCast] at y0 y1))
          | ((with_reducible refine gate_builtin (b := .append) (xs := #[.tmp 29, .tmp 30]) rfl ?_); at_builtin; refine apx k42 42 rfl (.tmp 29) (.tmp 30) 27 (.agg #[.string (⟨#[]⟩ : ByteArray), .int .i64 (0)]) 24 rfl Try.underlying27 info42 rfl (by decide) (by omega) rfl rfl RL8 (cb HR0 B) (fun x cs h => by rw [k42_open h]; exact k42_mkM _ _ _ x) (by rw [← hz8]; simp only [List.length_append, List.length_nil, List.length_cons, List.length_take, List.length_drop]; omega) B ?_; intro z31 hz31 AL31 kL31 w4 hg B RL31 hat; clear hg hat))
        go_ret2; have hZ : z31 = l := (by rw [← hz31, ← hz8]; try simp); exact ⟨_, by rw [hM]; rfl, by rw [hM, ← hZ]; exact RL31.out, B.out⟩
      · have hne : atP l c = l.length := by have := atP_le l c; omega
        go_enter Try.func44, Try.ntmps44
        go_wp2_with (first
          | ((with_reducible refine gate_dst (N := 8) rfl ?_); refine lt k42 42 ?hg (N := 8) ?hd ([] : List S42) [] ?hr (Reps.none _ _) (by simp) B ?_; (case hd => rfl); (case hg => rfl); (case hr => first | (go_simp; done) | (go_simp; rfl)); intro z8 hz8 AL8 kL8 w1 hb B RL8 QL8; clear hb QL8)
          | (go_at_call 41; with_reducible refine cl (spec_PairsValid.M _ _ l _ (cb HR0 B)) B fun w2 hb B => ?_; replace RL8 := rn RL8 hb; clear hb)
          | (go_at_call 75; with_reducible refine cl (spec_l4Place.M _ _ l c _ (cb HR0 B)) B fun w3 hb B => ?_; replace RL8 := rn RL8 hb; clear hb)
          | ((with_reducible refine gate_builtin (b := .append) (xs := #[.tmp 29, .tmp 30]) rfl ?_); at_builtin; refine apx k42 42 rfl (.tmp 29) (.tmp 30) 27 (.agg #[.string (⟨#[]⟩ : ByteArray), .int .i64 (0)]) 24 rfl Try.underlying27 info42 rfl (by decide) (by omega) rfl rfl RL8 (cb HR0 B) (fun x cs h => by rw [k42_open h]; exact k42_mkM _ _ _ x) (by rw [← hz8]; simp only [List.length_append, List.length_nil, List.length_cons, List.length_take, List.length_drop]; omega) B ?_; intro z31 hz31 AL31 kL31 w4 hg B RL31 hat; clear hg hat))
        go_ret2; have hZ : z31 = l := (by rw [← hz31, ← hz8]; try simp); exact ⟨_, by rw [hM]; rfl, by rw [hM, ← hZ]; exact RL31.out, B.out⟩
  · replace hv := Bool.eq_false_iff.mpr hv
    clear hif hsz0 hc0
    have hM : dropM l c = ([], false) := by unfold dropM; rw [if_neg (by rw [hv]; simp)]
    go_enter Try.func44, Try.ntmps44
    go_wp2_with (first
      | ((with_reducible refine gate_dst (N := 8) rfl ?_); refine lt k42 42 ?hg (N := 8) ?hd ([] : List S42) [] ?hr (Reps.none _ _) (by simp) B ?_; (case hd => rfl); (case hg => rfl); (case hr => first | (go_simp; done) | (go_simp; rfl)); intro z8 hz8 AL8 kL8 w1 hb B RL8 QL8; clear hb QL8)
      | (go_at_call 41; with_reducible refine cl (spec_PairsValid.M _ _ l _ (cb HR0 B)) B fun w2 hb B => ?_; replace RL8 := rn RL8 hb; clear hb))
    go_ret2; have hZ : z8 = [] := (by rw [← hz8]; try simp); exact ⟨_, by rw [hM]; rfl, by rw [hM, ← hZ]; exact RL8.out, B.out⟩

theorem spec_CommandValid.M (k : Int) (x : ByteArray) (v o : Int) (w : World) : Calls Try.prog 42 #[.agg #[.int .i64 k, .string x, .int .i64 v, .int .i64 o]] w fun e w' => e = .returned (.bool (cmdB k x v o)) ∧ Below w.heap.size w w' := by
  have B := Aside0.mk (Below.refl w.heap.size w)
  have hu := Try.underlying31
  go_enter Try.func42, Try.ntmps42
  go_wp2_with (first
    | ((with_reducible refine gate_dst (N := 1) rfl ?_); refine bx ?hg (N := 1) ?hd (cs := #[.int .i64 (k), .string x, .int .i64 (v), .int .i64 (o)]) (t := 31) ?hr B ?_; (case hd => rfl); (case hg => rfl); (case hr => first | (go_simp; done) | (go_simp; rfl)); intro g1 w1 hb B F1 L1 E1; obtain ⟨c1_0, c1_1, c1_2, c1_3⟩ := cs4 F1; clear hb E1)
    | (go_at_call 68; with_reducible refine cl (spec_KeyValid.M x _) B fun w2 hb B => ?_; replace F1 := bn F1 hb; clear c1_0 c1_1 c1_2 c1_3; obtain ⟨c1_0, c1_1, c1_2, c1_3⟩ := cs4 F1; clear hb)
    | (go_at_call 74; with_reducible refine cl (spec_l1In.M v 0 999 _) B fun w3 hb B => ?_; replace F1 := bn F1 hb; clear c1_0 c1_1 c1_2 c1_3; obtain ⟨c1_0, c1_1, c1_2, c1_3⟩ := cs4 F1; clear hb)
    | (go_at_call 74; with_reducible refine cl (spec_l1In.M v 0 999 _) B fun w4 hb B => ?_; replace F1 := bn F1 hb; clear c1_0 c1_1 c1_2 c1_3; obtain ⟨c1_0, c1_1, c1_2, c1_3⟩ := cs4 F1; clear hb)
    | (go_at_call 74; with_reducible refine cl (spec_l1In.M o (-1) 999 _) B fun w5 hb B => ?_; replace F1 := bn F1 hb; clear hb))
  all_goals (go_ret; exact ⟨congrArg (fun b => Ending.returned (Value.bool b)) (by unfold cmdB; grind [l1B]), B.out⟩)

theorem spec_ApplyCommand.M (A0 : Option Addr) (c0 : Nat) (l : List S42) (k : Int) (x : ByteArray) (v o : Int) (w : World) (hr0 : Kd.C k42 w A0 l.length l) (hc0 : l.length ≤ c0) : Calls Try.prog 10 #[.slice A0 l.length c0, .agg #[.int .i64 k, .string x, .int .i64 v, .int .i64 o]] w fun e w' => ∃ v0, e = .returned (.tuple #[v0, .int .i64 (apM l k x v o).2]) ∧ Kd.R k42 42 w' w.heap.size (fun _ => True) v0 (apM l k x v o).1 ∧ Below w.heap.size w w' := by
  have B := Aside0.mk (Below.refl w.heap.size w)
  have hu := Try.underlying31
  have HR0 := Aside0.mk hr0
  have HC0 := Aside0.mk hc0
  have L63 := Aside0.mk hr0.2.1
  clear hr0 hc0
  obtain ⟨r, hr⟩ : ∃ r, apM l k x v o = r := ⟨_, rfl⟩
  rw [hr]
  go_enter Try.func10, Try.ntmps10
  go_wp2_with (first
    | ((with_reducible refine gate_dst (N := 3) rfl ?_); refine bx ?hg (N := 3) ?hd (cs := #[.int .i64 (k), .string x, .int .i64 (v), .int .i64 (o)]) (t := 31) ?hr B ?_; (case hd => rfl); (case hg => rfl); (case hr => first | (go_simp; done) | (go_simp; rfl)); intro g3 w1 hb B F3 L3 E3; obtain ⟨c3_0, c3_1, c3_2, c3_3⟩ := cs4 F3; clear hb E3)
    | (go_at_call 41; with_reducible refine cl (spec_PairsValid.M _ _ l _ (cb HR0 B)) B fun w2 hb B => ?_; replace F3 := bn F3 hb; clear c3_0 c3_1 c3_2 c3_3; obtain ⟨c3_0, c3_1, c3_2, c3_3⟩ := cs4 F3; clear hb)
    | (go_at_call 42; with_reducible refine cl (spec_CommandValid.M k x v o _) B fun w3 hb B => ?_; replace F3 := bn F3 hb; clear c3_0 c3_1 c3_2 c3_3; obtain ⟨c3_0, c3_1, c3_2, c3_3⟩ := cs4 F3; clear hb)
    | ((with_reducible refine gate_dst (N := 26) rfl ?_); refine lt k42 42 ?hg (N := 26) ?hd ([] : List S42) [] ?hr (Reps.none _ _) (by simp) B ?_; (case hd => rfl); (case hg => rfl); (case hr => first | (go_simp; done) | (go_simp; rfl)); intro z26 hz26 AL26 kL26 w4 hb B RL26 QL26; replace F3 := bn F3 hb; clear c3_0 c3_1 c3_2 c3_3; obtain ⟨c3_0, c3_1, c3_2, c3_3⟩ := cs4 F3; clear hb QL26)
    | ((with_reducible refine gate_builtin (b := .append) (xs := #[.tmp 26, .tmp 27]) rfl ?_); at_builtin; refine apx k42 42 rfl (.tmp 26) (.tmp 27) 27 (.agg #[.string (⟨#[]⟩ : ByteArray), .int .i64 (0)]) 24 rfl Try.underlying27 info42 rfl (by decide) (by omega) rfl rfl RL26 (cb HR0 B) (fun x cs h => by rw [k42_open h]; exact k42_mkM _ _ _ x) (by have := prB_len (by assumption); rw [← hz26]; simp only [List.length_append, List.length_nil]; omega) B ?_; intro z28 hz28 AL28 kL28 w5 hg B RL28 hat; replace F3 := bga F3 hg RL26 (by decide); clear c3_0 c3_1 c3_2 c3_3; obtain ⟨c3_0, c3_1, c3_2, c3_3⟩ := cs4 F3; clear hg hat)
    | (go_at_call 43; with_reducible refine cl (spec_PairGet.M _ _ l x _ (cb HR0 B) HC0.out) B fun w6 hb B => ?_; replace F3 := bn F3 hb; replace RL28 := rn RL28 hb; clear c3_0 c3_1 c3_2 c3_3; obtain ⟨c3_0, c3_1, c3_2, c3_3⟩ := cs4 F3; clear hb)
    | ((with_reducible refine gate_dst (N := 25) rfl ?_); refine lt k42 42 ?hg (N := 25) ?hd ([] : List S42) [] ?hr (Reps.none _ _) (by simp) B ?_; (case hd => rfl); (case hg => rfl); (case hr => first | (go_simp; done) | (go_simp; rfl)); intro z25 hz25 AL25 kL25 w4 hb B RL25 QL25; replace F3 := bn F3 hb; clear hb QL25)
    | (go_at_call 44; with_reducible refine crz (spec_PairDrop.M _ _ l x _ (cb HR0 B) HC0.out) B fun zC7 hzC7 AC7 kC7 w7 hb B RC7 QC7 => ?_; replace F3 := bn F3 hb; replace RL28 := rn RL28 hb; clear QC7; clear hb)
    | (go_at_call 45; with_reducible refine crz (spec_PairPut.M _ _ l x v _ (cb HR0 B) HC0.out) B fun zC7 hzC7 AC7 kC7 w7 hb B RC7 QC7 => ?_; replace F3 := bn F3 hb; replace RL28 := rn RL28 hb; clear QC7; clear hb))
  all_goals first
    | (refine useEq (a := r) (b := ([], -3)) ?_ (fun hM => ?_); (rw [← hr]; unfold apM; grind); subst hM; subst hz25; go_ret2; exact ⟨_, rfl, RL25.out, B.out⟩)
    | (refine useEq (a := r) (b := ((dropM l x).1, getM l x)) ?_ (fun hM => ?_); (rw [← hr]; unfold apM; (try have hgb := getM_bound l x); grind); subst hM; subst hzC7; go_ret2; exact ⟨_, rfl, RC7.out, B.out⟩)
    | (refine useEq (a := r) (b := ((dropM l x).1, -1)) ?_ (fun hM => ?_); (rw [← hr]; unfold apM; (try have hgb := getM_bound l x); grind); subst hM; subst hzC7; go_ret2; exact ⟨_, rfl, RC7.out, B.out⟩)
    | (refine useEq (a := r) (b := ((putM l x v).1, getM l x)) ?_ (fun hM => ?_); (rw [← hr]; unfold apM; (try have hgb := getM_bound l x); grind); subst hM; subst hzC7; go_ret2; exact ⟨_, rfl, RC7.out, B.out⟩)
    | (refine useEq (a := r) (b := ((putM l x v).1, -1)) ?_ (fun hM => ?_); (rw [← hr]; unfold apM; (try have hgb := getM_bound l x); grind); subst hM; subst hzC7; go_ret2; exact ⟨_, rfl, RC7.out, B.out⟩)
    | (refine useEq (a := z28) (b := l) (by rw [← hz28, ← hz26, List.nil_append]) (fun hZ => ?_); refine useEq (a := r) (b := (l, getM l x)) ?_ (fun hM => ?_); (rw [← hr]; unfold apM; (try have hgb := getM_bound l x); grind); subst hM; subst hZ; go_ret2; exact ⟨_, rfl, RL28.out, B.out⟩)
    | (refine useEq (a := z28) (b := l) (by rw [← hz28, ← hz26, List.nil_append]) (fun hZ => ?_); refine useEq (a := r) (b := (l, -1)) ?_ (fun hM => ?_); (rw [← hr]; unfold apM; (try have hgb := getM_bound l x); grind); subst hM; subst hZ; go_ret2; exact ⟨_, rfl, RL28.out, B.out⟩)
    | (refine useEq (a := z28) (b := l) (by rw [← hz28, ← hz26, List.nil_append]) (fun hZ => ?_); refine useEq (a := r) (b := (l, -2)) ?_ (fun hM => ?_); (rw [← hr]; unfold apM; (try have hgb := getM_bound l x); grind); subst hM; subst hZ; go_ret2; exact ⟨_, rfl, RL28.out, B.out⟩)

def cmpS (x y : ByteArray) : Int := if ltB x y = true then -1 else if ltB y x = true then 1 else 0
theorem cmp_isNaNs.calls (x : ByteArray) (w : World) : Calls Try.prog 91 #[.string x] w fun e w' => e = .returned (.bool false) ∧ Below w.heap.size w w' := by
  go_enter Try.func91, Try.ntmps91
  go_wp2
  go_ret
  exact ⟨by simp, Below.refl _ _⟩
theorem cmp_Compares.calls (x y : ByteArray) (w : World) : Calls Try.prog 84 #[.string x, .string y] w fun e w' => e = .returned (.int .i64 (cmpS x y)) ∧ Below w.heap.size w w' := by
  unfold cmpS ltB
  cases h1 : Op.bytesLess x.toList y.toList with
  | true =>
    rw [if_pos rfl]
    go_enter Try.func84, Try.ntmps84
    go_wp2_with (first
      | (go_at_call 91; (with_reducible refine (cmp_isNaNs.calls x w).mono ?_); rintro e w1 ⟨rfl, hb⟩; have B1 := Aside0.mk hb; clear hb)
      | (go_at_call 91; (with_reducible refine (cmp_isNaNs.calls y w1).mono ?_); rintro e w2 ⟨rfl, hb⟩; have B2 := Aside0.mk (below_step B1.out hb); clear hb))
    go_ret
    exact ⟨rfl, B2.out⟩
  | false =>
    rw [if_neg (by simp)]
    cases h2 : Op.bytesLess y.toList x.toList with
    | true =>
      rw [if_pos rfl]
      go_enter Try.func84, Try.ntmps84
      go_wp2_with (first
        | (go_at_call 91; (with_reducible refine (cmp_isNaNs.calls x w).mono ?_); rintro e w1 ⟨rfl, hb⟩; have B1 := Aside0.mk hb; clear hb)
        | (go_at_call 91; (with_reducible refine (cmp_isNaNs.calls y w1).mono ?_); rintro e w2 ⟨rfl, hb⟩; have B2 := Aside0.mk (below_step B1.out hb); clear hb))
      go_ret
      exact ⟨rfl, B2.out⟩
    | false =>
      rw [if_neg (by simp)]
      go_enter Try.func84, Try.ntmps84
      go_wp2_with (first
        | (go_at_call 91; (with_reducible refine (cmp_isNaNs.calls x w).mono ?_); rintro e w1 ⟨rfl, hb⟩; have B1 := Aside0.mk hb; clear hb)
        | (go_at_call 91; (with_reducible refine (cmp_isNaNs.calls y w1).mono ?_); rintro e w2 ⟨rfl, hb⟩; have B2 := Aside0.mk (below_step B1.out hb); clear hb))
      go_ret
      exact ⟨rfl, B2.out⟩

theorem impl_pairPlace1.calls (s : S42) (c : ByteArray) (w : World) : Calls Try.prog 83 #[.agg #[.string s.f0, .int .i64 s.f1], .string c] w fun e w' => e = .returned (.int .i64 (cmpS s.f0 c)) ∧ Below w.heap.size w w' := by
  have hu := Try.underlying42
  go_enter Try.func83, Try.ntmps83
  go_wp2_with (first
    | ((with_reducible refine gate_dst (N := 2) rfl ?_); refine box_event ?hg (N := 2) ?hd (cs := #[.string s.f0, .int .i64 s.f1]) (t := 42) ?hr ?_; (case hd => rfl); (case hg => rfl); (case hr => first | (go_simp; done) | (go_simp; rfl)); intro g hg w1 hc hb; have B1 := Aside0.mk hb; have c0 : w1.cell? ⟨g, 0, none⟩ = some (.string s.f0) := (blk_cell hc 0).trans rfl; clear hc hb hg)
    | (go_at_call 84; (with_reducible refine (cmp_Compares.calls s.f0 c w1).mono ?_); rintro e w2 ⟨rfl, hb⟩; have B2 := Aside0.mk (below_step B1.out hb); clear hb))
  go_ret
  exact ⟨rfl, B2.out⟩

theorem cmpS_neg (x c : ByteArray) : decide (cmpS x c < 0) = ltB x c := by
  unfold cmpS
  cases h : ltB x c with
  | true => rfl
  | false => cases ltB c x <;> rfl
theorem cmpS_zero (x c : ByteArray) : (cmpS x c == 0) = decide (x = c) := by
  have ht := less_total x.toList c.toList
  unfold cmpS ltB
  by_cases e : x = c
  · subst e
    have hs : Op.bytesLess x.toList x.toList = false := by simpa using ht
    rw [hs, decide_eq_true rfl]
    rfl
  · rw [decide_eq_false e]
    have hne : (x.toList == c.toList) = false := beq_eq_false_iff_ne.mpr fun q => e (ByteArray.ext (Array.toList_inj.mp (by rw [← Lib.toList_data, ← Lib.toList_data]; exact q)))
    rw [hne, Bool.or_false] at ht
    rw [ht]
    cases Op.bytesLess c.toList x.toList <;> rfl
def hitP (l : List S42) (c : ByteArray) : Bool := decide (placeP l c l.length 0 l.length < l.length) && decide ((rd_T42 l ((placeP l c l.length 0 l.length : Nat) : Int)).f0 = c)

theorem slices_BinarySearchP.calls (A0 : Option Addr) (c0 : Nat) (l : List S42) (c : ByteArray) (w : World) (hr0 : Kd.C k42 w A0 l.length l) (hc0 : l.length ≤ c0) (hsz : l.length < 4611686018427387904) :
    Calls Try.prog 82 #[.slice A0 l.length c0, .string c, .func (.func 83) #[] #[]] w fun e w' =>
      e = .returned (.tuple #[.int .i64 ((placeP l c l.length 0 l.length : Nat) : Int), .bool (hitP l c)]) ∧ Below w.heap.size w w' := by
  have HR0 := Aside0.mk hr0
  clear hr0
  have hu := Try.underlying42
  generalize hR : placeP l c l.length 0 l.length = R
  have HT := Aside0.mk (show hitP l c = (decide (R < l.length) && decide ((rd_T42 l ((R : Nat) : Int)).f0 = c)) by unfold hitP; rw [hR])
  have PR := Aside0.mk hR
  clear hR
  go_enter Try.func82, Try.ntmps82
  go_wp2
  go_loopg [9, 10] l.length (fun kx s9 s10 wr => ∃ lo hi : Nat, s9 = .int .i64 lo ∧ s10 = .int .i64 hi ∧ lo ≤ hi ∧ hi ≤ l.length ∧ hi - lo ≤ kx ∧ Aside0 (Below w.heap.size w wr) ∧ Aside0 (placeP l c kx lo hi = R))
  case atStart => exact ⟨0, l.length, rfl, rfl, Nat.zero_le _, Nat.le_refl _, by omega, ⟨Below.refl _ _⟩, PR⟩
  case round =>
    clear PR
    obtain ⟨lo, hi, rfl, rfl, hlh, hin, hg, BW, PW⟩ := hrel
    by_cases hlt : lo < hi
    · obtain ⟨d, rfl⟩ : ∃ d, gk = d + 1 := ⟨gk - 1, by omega⟩
      have hp := PW.out
      simp only [placeP] at hp
      rw [if_pos hlt] at hp
      obtain ⟨ad, hA, x0, x1⟩ := at_T42 (Kd.C_below HR0.out BW.out) (((lo + hi) / 2 : Nat) : Int) (by omega) (by omega)
      subst hA
      generalize hy : rd_T42 l (((lo + hi) / 2 : Nat) : Int) = y at x0 x1 hp
      rw [Int.toNat_natCast] at x0 x1
      clear hy
      by_cases hyx : ltB y.f0 c = true
      · rw [if_pos hyx] at hp
        have P2 := Aside0.mk hp
        have dc : decide (cmpS y.f0 c < 0) = true := (cmpS_neg _ _).trans hyx
        clear PW hp hyx
        go_wp2_with (go_at_call 83; (with_reducible refine (impl_pairPlace1.calls y c wr).mono ?_); rintro e w1 ⟨rfl, hb⟩; have B1 := Aside0.mk (below_step BW.out hb); clear hb)
        go_roundg d
        case measure => omega
        case rel => exact ⟨(lo + hi) / 2 + 1, hi, by rw [show ((lo : Int) + (hi : Int)) / 2 + 1 = (((lo + hi) / 2 + 1 : Nat) : Int) by omega], rfl, by omega, hin, by omega, B1, P2⟩
      · rw [if_neg hyx] at hp
        have P2 := Aside0.mk hp
        have dc : decide (cmpS y.f0 c < 0) = false := (cmpS_neg _ _).trans (Bool.eq_false_iff.mpr hyx)
        clear PW hp hyx
        go_wp2_with (go_at_call 83; (with_reducible refine (impl_pairPlace1.calls y c wr).mono ?_); rintro e w1 ⟨rfl, hb⟩; have B1 := Aside0.mk (below_step BW.out hb); clear hb)
        go_roundg d
        case measure => omega
        case rel => exact ⟨lo, (lo + hi) / 2, rfl, by rw [show ((lo : Int) + (hi : Int)) / 2 = (((lo + hi) / 2 : Nat) : Int) by omega], by omega, by omega, by omega, B1, P2⟩
    · obtain rfl : R = lo := by
        rw [← PW.out]
        cases gk with
        | zero => rfl
        | succ d => simp only [placeP]; rw [if_neg hlt]
      by_cases hn : R < l.length
      · obtain ⟨ad, hA, x0, x1⟩ := at_T42 (Kd.C_below HR0.out BW.out) (R : Int) (by omega) (by omega)
        subst hA
        generalize hy : rd_T42 l (R : Int) = y at x0 x1 HT
        rw [Int.toNat_natCast] at x0 x1
        clear hy PW
        go_wp2_with (go_at_call 83; (with_reducible refine (impl_pairPlace1.calls y c wr).mono ?_); rintro e w1 ⟨rfl, hb⟩; have B1 := Aside0.mk (below_step BW.out hb); clear hb)
        go_ret2
        refine ⟨?_, B1.out⟩
        rw [HT.out, decide_eq_true hn, ← cmpS_zero]
        rfl
      · clear PW
        go_wp2
        go_ret2
        refine ⟨?_, BW.out⟩
        rw [HT.out, decide_eq_false hn]
        rfl

theorem impl_pairPlace.calls0 (A0 : Option Addr) (c0 : Nat) (l : List S42) (c : ByteArray) (w : World) (hr0 : Kd.C k42 w A0 l.length l) (hc0 : l.length ≤ c0) (hsz : l.length < 4611686018427387904) :
    Calls Try.prog 58 #[.slice A0 l.length c0, .string c] w fun e w' => e = .returned (.tuple #[.int .i64 ((placeP l c l.length 0 l.length : Nat) : Int), .bool (hitP l c)]) ∧ Below w.heap.size w w' := by
  have h := slices_BinarySearchP.calls A0 c0 l c w hr0 hc0 hsz
  go_enter Try.func58, Try.ntmps58
  go_wp2_with (go_at_call 82; (with_reducible refine h.mono ?_); rintro e w1 ⟨rfl, hb⟩; have B1 := Aside0.mk hb; clear hb)
  go_ret2
  exact ⟨rfl, B1.out⟩
theorem impl_pairPlace.M (A0 : Option Addr) (c0 : Nat) (l : List S42) (c : ByteArray) (w : World) (hr0 : Kd.C k42 w A0 l.length l) (hc0 : l.length ≤ c0) (hv : prB l = true) :
    Calls Try.prog 58 #[.slice A0 l.length c0, .string c] w fun e w' => e = .returned (.tuple #[.int .i64 ((atP l c : Nat) : Int), .bool (hitM l c)]) ∧ Below w.heap.size w w' := by
  have h := impl_pairPlace.calls0 A0 c0 l c w hr0 hc0 (by have := prB_len hv; omega)
  unfold hitP at h
  rw [placeP_at hv] at h
  exact h

theorem impl_valueValid.M (n : Int) (w : World) : Calls Try.prog 62 #[.int .i64 n] w fun e w' => e = .returned (.bool (l1B n 0 999)) ∧ Below w.heap.size w w' := by
  go_enter Try.func62, Try.ntmps62
  go_wp2
  all_goals go_ret
  all_goals (refine ⟨?_, Below.refl _ _⟩; unfold l1B; simp_all; try omega)

def impl_PairsValid.T8 : Bool × List (List Nat × List Nat) := (true, [([], []), ([0], [0]), ([1], [1]), ([2], [2]), ([2], [2]), ([4, 2], [2, 4]), ([3, 5, 2], [2, 3, 5]), ([6, 2], [2, 6]), ([7, 2], [2, 7]), ([2], [2]), ([9, 2], [2, 9]), ([8, 10, 2], [2, 8, 10]), ([2, 11], [2, 11])])
def impl_PairsValid.B8 : List Nat := [0, 1, 3, 7, 7, 23, 63, 127, 255, 7, 519, 2047, 4095]
theorem impl_PairsValid.tab8 : rtab .any (opsOf Try.f32 8) = impl_PairsValid.T8 := by kernel_rfl
theorem impl_PairsValid.bits8 : waitsOk impl_PairsValid.T8.2 impl_PairsValid.B8 = true := by kernel_rfl
theorem impl_PairsValid.M (A0 : Option Addr) (c0 : Nat) (l : List S42) (w : World) (hr0 : Kd.C k42 w A0 l.length l) : Calls Try.prog 32 #[.slice A0 l.length c0] w fun e w' => e = .returned (.bool (prB l)) ∧ Below w.heap.size w w' := by
  have hu := Try.underlying42
  have B := Aside0.mk (Below.refl w.heap.size w)
  have HR0 := Aside0.mk hr0
  clear hr0
  obtain ⟨r, hr⟩ : ∃ r, prB l = r := ⟨_, rfl⟩
  rw [hr]
  unfold prB at hr
  by_cases hl : l.length ≤ 48
  · have H := Aside0.mk (show prJ l 0 = r by unfold prJ prP; simpa [hl] using hr)
    have cl0 : decide (48 < (l.length : Int)) = false := decide_eq_false (by omega)
    have L48 := Aside0.mk (show l.length ≤ 4611686018427387904 by omega)
    clear hl hr
    go_enter Try.func32, Try.ntmps32
    go_wp2
    go_loopg [10] (l.length + 1) (fun kx v10 wr => ∃ j : Nat, v10 = .int .i64 (j : Int) ∧ j ≤ l.length ∧ l.length < j + kx ∧ Aside0 (Below w.heap.size w wr) ∧ Aside0 (prJ l j = r))
    case atStart => exact ⟨0, rfl, by omega, by omega, B, H⟩
    case round =>
      clear H B
      obtain ⟨j, rfl, hj, hk, B, H⟩ := hrel
      by_cases hlt : j < l.length
      · have HS := Aside0.mk ((prJ_step hlt).symm.trans H.out)
        clear H
        obtain ⟨d, rfl⟩ : ∃ d, gk = d + 1 := ⟨gk - 1, by omega⟩
        have h48 := L48.out
        have cj : decide ((j : Int) < (l.length : Int)) = true := decide_eq_true (by omega)
        obtain ⟨ad, hA, y0, y1⟩ := at_T42 (cb HR0 B) (j : Int) (by omega) (by omega)
        cases hA
        rw [Int.toNat_natCast] at y0 y1
        have j1 := eq_true (show (j : Int) < (l.length : Int) by omega)
        have j2 := eq_true hlt
        generalize hy : rd_T42 l (j : Int) = y at *
        go_wp2_with (first
          | ((with_reducible refine gate_dst (N := 4) rfl ?_); refine bx ?hg (N := 4) ?hd (cs := #[.string (⟨#[]⟩ : ByteArray), .int .i64 (0)]) (t := 42) ?hr B ?_; (case hd => rfl); (case hg => rfl); (case hr => first | (go_simp; done) | (go_simp; rfl)); intro g4 w1 hb B F4 L4 E4; obtain ⟨c4_0, c4_1⟩ := cs2 F4; clear hb E4)
          | ((with_reducible refine gate_store (t := 42) (p := 4) rfl ?_); obtain ⟨y0, y1⟩ := cs2 F4; have z0 := fz F4 0; have z1 := fz F4 1; refine sx (t := 42) (t' := 42) (p := 4) (v := ?vo2) ?hg ?ho ?hn 0 [.string y.f0, .int .i64 (y.f1)] [.string y.f0, .int .i64 (y.f1)] ?hr B F4 L4 rfl (Nat.le_of_ble_eq_true rfl) ?_; (case ho => rfl); (case hg => rfl); (case hn => rfl); (case hr => first | (go_simp; done) | (go_simp; rfl)); intro w2 hk B G; replace F4 := G; clear c4_0 c4_1; obtain ⟨c4_0, c4_1⟩ := cs2 F4; clear hk y0 z0 y1 z1)
          | (go_at_call 61; with_reducible refine cl (impl_KeyValid.M y.f0 _) B fun w3 hb B => ?_; replace F4 := bn F4 hb; clear c4_0 c4_1; obtain ⟨c4_0, c4_1⟩ := cs2 F4; clear hb)
          | (go_at_call 62; with_reducible refine cl (impl_valueValid.M y.f1 _) B fun w4 hb B => ?_; replace F4 := bn F4 hb; clear c4_0 c4_1; obtain ⟨c4_0, c4_1⟩ := cs2 F4; clear hb))
        all_goals try (go_ret; exact ⟨andF HS.out (by grind [l1B, ltB]), B.out⟩)
        all_goals (
          refine rg (n := 13) (S := fun W => Kd.C k42 W (some ad) l.length l ∧ W.heap[g4]? = some (.cells #[.string y.f0, .int .i64 (y.f1)] 42 (0, 0))) (ds := []) #[false, false, false, false, false, false, false, false, false, false, false, false, false] (by kernel_rfl) rfl rfl ⟨(cb HR0 B), F4.out⟩ id B (fun w5 hb B hHeld => ?_)
          refine with_tabW impl_PairsValid.tab8 impl_PairsValid.bits8 (fun HT_ HW_ => ?_)
          replace F4 := bn F4 hb
          clear hb
          refine pu (i := 0) (N := some 25) (v := ?_) (bits 13 1) rfl rfl (any_of HT_.out (by kernel_rfl)) (fun _ _ _ h => h) (by kernel_rfl) ?_ ?_; rotate_left; (intro w'; go_simp; with_reducible rfl)
          by_cases hz : j = 0
          · rw [if_pos hz] at HS
            have dz : decide (0 < (j : Int)) = false := decide_eq_false (by omega)
            have dz2 : decide (0 < j) = false := decide_eq_false (by omega)
            clear hz
            refine pu (i := 1) (N := some 26) (v := ?_) (bits 13 3) rfl rfl (any_of HT_.out (by kernel_rfl)) (fun _ _ _ h => h) (by kernel_rfl) ?_ ?_; rotate_left; (intro w'; go_simp; with_reducible rfl)
            refine pu (i := 2) (N := some 27) (v := ?_) (bits 13 7) rfl rfl (any_of HT_.out (by kernel_rfl)) (fun _ _ _ h => h) (by kernel_rfl) ?_ ?_; rotate_left; (intro w'; go_simp; with_reducible rfl)
            refine sk (i := 3) (N := some 28) (bits 13 15) rfl rfl (any_of HT_.out (by kernel_rfl)) (fun _ _ _ h => h) (by kernel_rfl) ?_
            refine sk (i := 4) (N := some 29) (bits 13 31) rfl rfl (any_of HT_.out (by kernel_rfl)) (fun _ _ _ h => h) (by kernel_rfl) ?_
            refine sk (i := 5) (N := some 30) (bits 13 63) rfl rfl (any_of HT_.out (by kernel_rfl)) (fun _ _ _ h => h) (by kernel_rfl) ?_
            refine sk (i := 6) (N := some 31) (bits 13 127) rfl rfl (any_of HT_.out (by kernel_rfl)) (fun _ _ _ h => h) (by kernel_rfl) ?_
            refine sk (i := 7) (N := some 32) (bits 13 255) rfl rfl (any_of HT_.out (by kernel_rfl)) (fun _ _ _ h => h) (by kernel_rfl) ?_
            refine sk (i := 8) (N := some 33) (bits 13 511) rfl rfl (any_of HT_.out (by kernel_rfl)) (fun _ _ _ h => h) (by kernel_rfl) ?_
            refine sk (i := 9) (N := some 34) (bits 13 1023) rfl rfl (any_of HT_.out (by kernel_rfl)) (fun _ _ _ h => h) (by kernel_rfl) ?_
            refine sk (i := 10) (N := some 35) (bits 13 2047) rfl rfl (any_of HT_.out (by kernel_rfl)) (fun _ _ _ h => h) (by kernel_rfl) ?_
            refine sk (i := 11) (N := some 36) (bits 13 4095) rfl rfl (any_of HT_.out (by kernel_rfl)) (fun _ _ _ h => h) (by kernel_rfl) ?_
            refine pu (i := 12) (N := some 37) (v := ?_) (bits 13 8191) rfl rfl (any_of HT_.out (by kernel_rfl)) (fun _ _ _ h => h) (by kernel_rfl) ?_ ?_; rotate_left; (intro w'; go_simp; with_reducible rfl)
            refine norm_ (a' := ?_) ?_ ?_
            rotate_left
            · simp only [Act.put, List.setIfInBounds_toArray, List.set_cons_zero, List.set_cons_succ, i64_w, i32_w]
              rfl
            refine done_ (done_of HT_.out (by kernel_rfl)) ?_
            try go_wp2
            all_goals first
              | (go_roundg d; (case measure => omega); (case rel => exact ⟨j + 1, congrArg (Value.int .i64) (Int.natCast_succ _).symm, by omega, by omega, B, ⟨andT HS.out (by grind [l1B, ltB])⟩⟩))
              | (go_ret; exact ⟨andF HS.out (by grind [l1B, ltB]), B.out⟩)
          · rw [if_neg hz] at HS
            have dz : decide (0 < (j : Int)) = true := decide_eq_true (by omega)
            have dz2 : decide (0 < j) = true := decide_eq_true (by omega)
            obtain ⟨i, hi⟩ : ∃ i, j - 1 = i := ⟨_, rfl⟩
            rw [hi] at HS
            have WI := Aside0.mk (show (j : Int) - 1 = (i : Int) by omega)
            have hij : i < l.length := by omega
            have IW := Aside0.mk (show wrap64 (i : Int) = (i : Int) by unfold wrap64; omega)
            have i1 := eq_true (show (i : Int) < (l.length : Int) by omega)
            have i2 := eq_true hij
            generalize hx : rd_T42 l (i : Int) = x at HS
            clear hz hi
            refine pu (i := 1) (N := some 26) (v := ?_) (bits 13 3) rfl rfl (any_of HT_.out (by kernel_rfl)) (fun _ _ _ h => h) (by kernel_rfl) ?_ ?_; rotate_left; (intro w'; go_simp; with_reducible rfl)
            refine pu (i := 2) (N := some 27) (v := ?_) (bits 13 7) rfl rfl (any_of HT_.out (by kernel_rfl)) (fun _ _ _ h => h) (by kernel_rfl) ?_ ?_; rotate_left; (intro w'; go_simp; with_reducible rfl)
            refine pu (i := 3) (N := some 28) (v := ?_) (bits 13 15) rfl rfl (any_of HT_.out (by kernel_rfl)) (fun _ _ _ h => h) (by kernel_rfl) ?_ ?_; rotate_left; (intro w'; go_simp; with_reducible rfl)
            refine pu (i := 4) (N := some 29) (v := ?_) (bits 13 31) rfl rfl (any_of HT_.out (by kernel_rfl)) (fun _ _ _ h => h) (by kernel_rfl) ?_ ?_; rotate_left; (intro w'; go_simp; with_reducible rfl)
            refine pu (i := 5) (N := some 30) (v := .int .i64 ((i : Int))) (bits 13 63) rfl rfl (any_of HT_.out (by kernel_rfl)) (fun _ _ _ h => h) (by kernel_rfl) ?_ ?_; (intro w'; go_simp; rw [WI.out]; exact (i64_w _).trans IW.out)
            refine pu (i := 6) (N := some 31) (v := ?_) (bits 13 127) rfl rfl (any_of HT_.out (by kernel_rfl)) (fun _ _ _ h => h) (by kernel_rfl) ?_ ?_; rotate_left; (intro w'; go_simp; with_reducible rfl)
            refine pu (i := 7) (N := some 32) (v := ?_) (bits 13 255) rfl rfl (any_of HT_.out (by kernel_rfl)) (fun _ _ _ h => h) (by kernel_rfl) ?_ ?_; rotate_left; (intro w'; go_simp; with_reducible rfl)
            refine ta (i := 8) (N := some 33) (v := ?_) (bits 13 511) rfl rfl (take_ofW HT_.out HW_.out (by kernel_rfl)) (fun _ _ _ h => h) (by kernel_rfl) hHeld ?_ ?_; rotate_left; (intro w' hS; obtain ⟨s0, s1⟩ := hS; obtain ⟨_, hA, q0, q1⟩ := at_T42 s0 (i : Int) (by omega) (by omega); cases hA; rw [Int.toNat_natCast] at q0 q1; rw [hx] at q0 q1; go_simp; with_reducible rfl)
            refine pu (i := 9) (N := some 34) (v := ?_) (bits 13 1023) rfl rfl (any_of HT_.out (by kernel_rfl)) (fun _ _ _ h => h) (by kernel_rfl) ?_ ?_; rotate_left; (intro w'; go_simp; with_reducible rfl)
            refine ta (i := 10) (N := some 35) (v := ?_) (bits 13 2047) rfl rfl (take_ofW HT_.out HW_.out (by kernel_rfl)) (fun _ _ _ h => h) (by kernel_rfl) hHeld ?_ ?_; rotate_left; (intro w' hS; obtain ⟨s0, s1⟩ := hS; obtain ⟨q0, q1⟩ := cs2 (Aside0.mk s1); go_simp; with_reducible rfl)
            refine pu (i := 11) (N := some 36) (v := ?_) (bits 13 4095) rfl rfl (any_of HT_.out (by kernel_rfl)) (fun _ _ _ h => h) (by kernel_rfl) ?_ ?_; rotate_left; (intro w'; go_simp; with_reducible rfl)
            refine pu (i := 12) (N := some 37) (v := ?_) (bits 13 8191) rfl rfl (any_of HT_.out (by kernel_rfl)) (fun _ _ _ h => h) (by kernel_rfl) ?_ ?_; rotate_left; (intro w'; go_simp; with_reducible rfl)
            refine norm_ (a' := ?_) ?_ ?_
            rotate_left
            · simp only [Act.put, List.setIfInBounds_toArray, List.set_cons_zero, List.set_cons_succ, i64_w, i32_w]
              rfl
            refine done_ (done_of HT_.out (by kernel_rfl)) ?_
            try go_wp2
            all_goals first
              | (go_roundg d; (case measure => omega); (case rel => exact ⟨j + 1, congrArg (Value.int .i64) (Int.natCast_succ _).symm, by omega, by omega, B, ⟨andT HS.out (by grind [l1B, ltB])⟩⟩))
              | (go_ret; exact ⟨andF HS.out (by grind [l1B, ltB]), B.out⟩))
        all_goals try go_wp2
        all_goals try (go_ret; exact ⟨andF HS.out (by grind [l1B, ltB]), B.out⟩)
      · have cj : decide ((j : Int) < (l.length : Int)) = false := decide_eq_false (by omega)
        have hr : r = true := by rw [← H.out]; exact prJ_end hlt
        subst hr
        go_wp2
        go_ret
        exact ⟨rfl, B.out⟩
  · have cl0 : decide (48 < (l.length : Int)) = true := decide_eq_true (by omega)
    have hr : r = false := by rw [← hr, decide_eq_false hl]; rfl
    subst hr
    go_enter Try.func32, Try.ntmps32
    go_wp2
    go_ret
    exact ⟨rfl, B.out⟩

theorem impl_PairGet.M (A0 : Option Addr) (c0 : Nat) (l : List S42) (c : ByteArray) (w : World) (hr0 : Kd.C k42 w A0 l.length l) (hc0 : l.length ≤ c0) : Calls Try.prog 20 #[.slice A0 l.length c0, .string c] w fun e w' => e = .returned (.int .i64 (getM l c)) ∧ Below w.heap.size w w' := by
  have B := Aside0.mk (Below.refl w.heap.size w)
  have hu := Try.underlying42
  have HR0 := Aside0.mk hr0
  have HC0 := Aside0.mk hc0
  have L63 := Aside0.mk hr0.2.1
  clear hr0 hc0
  by_cases hv : prB l = true
  · have h48 := prB_len hv
    cases hh : hitM l c with
    | true =>
      obtain ⟨hlt, hf0, hf⟩ := hit_true hh
      have j1 := eq_true (show ((atP l c : Nat) : Int) < (l.length : Int) by omega)
      have j2 := eq_true hlt
      go_enter Try.func20, Try.ntmps20
      go_wp2_with (first
        | (go_at_call 32; with_reducible refine cl (impl_PairsValid.M _ _ l _ (cb HR0 B)) B fun w1 hb B => ?_; clear hb)
        | (go_at_call 58; with_reducible refine cl (impl_pairPlace.M _ _ l c _ (cb HR0 B) HC0.out hv) B fun w2 hb B => ?_; clear hb; (obtain ⟨ad, hA, y0, y1⟩ := at_T42 (cb HR0 B) ((atP l c : Nat) : Int) (Int.natCast_nonneg _) (Int.ofNat_lt.mpr hlt); cases hA; rw [Int.toNat_natCast] at y0 y1)))
      all_goals (go_ret; exact ⟨by simp [getM, *], B.out⟩)
    | false =>
      go_enter Try.func20, Try.ntmps20
      go_wp2_with (first
        | (go_at_call 32; with_reducible refine cl (impl_PairsValid.M _ _ l _ (cb HR0 B)) B fun w1 hb B => ?_; clear hb)
        | (go_at_call 58; with_reducible refine cl (impl_pairPlace.M _ _ l c _ (cb HR0 B) HC0.out hv) B fun w2 hb B => ?_; clear hb))
      all_goals (go_ret; exact ⟨by simp [getM, *], B.out⟩)
  · replace hv := Bool.eq_false_iff.mpr hv
    go_enter Try.func20, Try.ntmps20
    go_wp2_with (first
      | (go_at_call 32; with_reducible refine cl (impl_PairsValid.M _ _ l _ (cb HR0 B)) B fun w1 hb B => ?_; clear hb)
      | (go_at_call 58; with_reducible refine cl (impl_pairPlace.M _ _ l c _ (cb HR0 B) HC0.out hv) B fun w2 hb B => ?_; clear hb))
    all_goals (go_ret; exact ⟨by simp [getM, *], B.out⟩)

/-- make([]T, 0, n) -/
theorem make_cap {α : Type} {P : Program} {ops : Array Oper} {Q : Exit → Act → World → Prop} {rest : List Oper} {o : Oper} {a : Act} (d : Kd α) {w0 W : World} (base e : Nat) (hgd : o.guard = none) {N : Tmp} (hd : o.dst = some N) (t : TypeId) (x y : Operand) (ho : o.op = .makeSlice t x y) (n : Nat)
    (hx : a.eval x = .int .i64 0) (hy : a.eval y = .int .i64 (n : Int)) (ht : P.underlying t = some (.slice e)) (z : Value) (bytes : Nat) (hinfo : (P.info? e).map (fun i => (i.zero, i.size, i.bytes)) = some (some z, d.sz, bytes)) (hb0 : 0 < bytes)
    (hl : n * bytes ≤ 281474976710656) (HB : Below base w0 W) (hbase : base ≤ W.heap.size)
    (h : ∀ v1 w1, d.R e w1 base (fun _ => True) v1 [] → Below base w0 w1 → wpList P ops Q rest (a.put o.dst v1) w1) : wpList P ops Q (o :: rest) a W := by
  obtain ⟨i0, hi, hzz⟩ := Option.map_eq_some_iff.1 hinfo
  simp only [Prod.mk.injEq] at hzz
  obtain ⟨hz0, hz1, hz2⟩ := hzz
  have hm : n ≤ 281474976710656 := Nat.le_trans (Nat.le_mul_of_pos_right _ hb0) hl
  have hr := run_make (P := P) W t e i0 z ht hi hz0 .i64 .i64 0 (n : Int) (Int.le_refl _) (by omega)
    (by
      have h3 : ((i0.bytes * n : Nat) : Int) ≤ 281474976710656 := by rw [hz2, Nat.mul_comm]; omega
      rwa [Int.natCast_mul] at h3) (by omega)
  simp only [Int.toNat_zero, Int.toNat_natCast] at hr
  have hown := World.ownsRow_made (base := base) (e := e) (size := i0.size) W (madeCells z.cells (n * i0.size)) n hbase (by unfold maxLen; omega) (size_madeCells _ _)
  rw [hz1] at hown hr
  refine Kd.event_run hgd ?_ (h _ _ ⟨fun _ _ => trivial, [], hown, Reps.none _ _⟩ (HB.alloc hbase _))
  simp [execOp, ho, hx, hy, hr]


/-- sessions as cells of a row that is read are sessions as cells of a row of one's own -/
theorem own_Pair (W : World) (base : Nat) (x : S42) (cs : List Value) (h : k42.K W x cs) : k42.M W base (fun _ => False) x cs := by
  obtain rfl := k42_open h
  exact k42_mkM _ _ _ x

theorem impl_copyOfPair.M (A0 : Option Addr) (c0 : Nat) (l : List S42) (w : World) (hr0 : Kd.C k42 w A0 l.length l) (hc0 : l.length ≤ c0) (hs : l.length ≤ 1000000) :
    Calls Try.prog 48 #[.slice A0 l.length c0] w fun e w' => ∃ v0_ : Value, e = .returned v0_ ∧ Kd.R k42 42 w' w.heap.size (fun _ => True) v0_ l ∧ Below w.heap.size w w' := by
  have HR0 := Aside0.mk hr0
  clear hr0
  go_enter Try.func48, Try.ntmps48
  go_wp2_with ((with_reducible refine gate_builtin (b := .append) (xs := #[.const (.slice none 0 0), .tmp 3]) rfl ?_); at_builtin; refine Kd.R_append_rows k42 (w0 := w) w.heap.size rfl (.const (.slice none 0 0)) (.tmp 3) 27 42 (.agg #[.string (⟨#[]⟩ : ByteArray), .int .i64 0]) 24 rfl Try.underlying27 info42 rfl (by decide) (by omega) (.slice none 0 0) [] l _ _ _ (fun _ => True) (fun _ => False) rfl rfl (Kd.R_nil _ _ _ _ _) HR0.out (fun x cs h => own_Pair _ _ x cs h) (fun _ h => h.elim) (fun _ _ => trivial) (Below.refl _ _) (Nat.le_refl _) (by simp only [List.length_nil]; omega) ?_; intro v1 w1 ho hb hg hat; rw [List.nil_append] at ho; have O := Aside0.mk ho; have B := Aside0.mk hb; clear ho hb hg hat)
  go_ret
  exact ⟨_, rfl, O.out, B.out⟩


theorem impl_replacedPair.M (A0 : Option Addr) (c0 : Nat) (l : List S42) (at_ many : Nat) (A1 : Option Addr) (c1 : Nat) (by_ : List S42) (w : World) (hr0 : Kd.C k42 w A0 l.length l) (hc0 : l.length ≤ c0) (hr1 : Kd.C k42 w A1 by_.length by_) (hc1 : by_.length ≤ c1)
    (hs : l.length ≤ 1000000) (hs1 : by_.length ≤ 1000000) (ham : at_ + many ≤ l.length) :
    Calls Try.prog 72 #[.slice A0 l.length c0, .int .i64 (at_ : Int), .int .i64 (many : Int), .slice A1 by_.length c1] w fun e w' => ∃ v0_ : Value, e = .returned v0_ ∧ Kd.R k42 42 w' w.heap.size (fun _ => True) v0_ ((l.take at_ ++ by_) ++ l.drop (at_ + many)) ∧ Below w.heap.size w w' := by
  have HR0 := Aside0.mk hr0
  have HR1 := Aside0.mk hr1
  clear hr0 hr1
  have hsum : (l.length : Int) - (many : Int) + (by_.length : Int) = ((l.length - many + by_.length : Nat) : Int) := by omega
  obtain ⟨i0, hif, _, hsz, _⟩ := info_parts info42
  have hcut1 := cut_to (P := Try.prog) 27 42 .i64 Try.underlying27 hif A0 l.length c0 (at_ : Int) (by omega) (by omega) hc0
  have hcut2 := cut_from (P := Try.prog) 27 42 .i64 Try.underlying27 hif 2 hsz A0 l.length c0 ((at_ : Int) + (many : Int)) (by omega) (by omega)
  rw [Int.toNat_natCast] at hcut1
  rw [show ((at_ : Int) + (many : Int)).toNat = at_ + many by omega] at hcut2
  have C1 := Aside0.mk (fun {W : World} (h : Kd.C k42 W A0 l.length l) => show Kd.C k42 W A0 at_ (l.take at_) from by
    have := Kd.C_take h (m := at_) (by omega)
    rwa [List.length_take, Nat.min_eq_left (by omega)] at this)
  obtain ⟨A2, hA2⟩ : ∃ A2, A2 = (if c0 = at_ + many then A0 else A0.map (·.add ((at_ + many) * 2))) := ⟨_, rfl⟩
  rw [← hA2] at hcut2
  have C2 := Aside0.mk (fun {W : World} (h : Kd.C k42 W A0 l.length l) => show Kd.C k42 W A2 (l.length - (at_ + many)) (l.drop (at_ + many)) from by
    have := Kd.C_drop h (m := at_ + many) (c := c0) (by omega) hc0
    rw [List.length_drop] at this
    rw [hA2]
    exact this)
  have SUM := Aside0.mk hsum
  clear hsum hif hsz hA2
  go_enter Try.func72, Try.ntmps72
  go_wp2_with (first
    | ((with_reducible refine gate_dst (N := 17) rfl ?_); refine make_cap k42 (w0 := w) w.heap.size 42 rfl (N := 17) rfl 27 _ _ rfl (l.length - many + by_.length) rfl (congrArg (Value.int .i64) SUM.out) Try.underlying27 (.agg #[.string (⟨#[]⟩ : ByteArray), .int .i64 0]) 24 info42 (by omega) (by omega) (Below.refl _ _) (Nat.le_refl _) ?_; intro v1 w1 ho hb; have O1 := Aside0.mk ho; have B1 := Aside0.mk hb; clear ho hb)
    | ((with_reducible refine gate_builtin (b := .append) (xs := #[.tmp 18, .tmp 21]) rfl ?_); at_builtin; refine Kd.R_append_rows k42 (w0 := w) w.heap.size rfl (.tmp 18) (.tmp 21) 27 42 (.agg #[.string (⟨#[]⟩ : ByteArray), .int .i64 0]) 24 rfl Try.underlying27 info42 rfl (by decide) (by omega) v1 [] (l.take at_) _ _ _ (fun _ => True) (fun _ => False) rfl rfl O1.out (C1.out (Kd.C_below HR0.out B1.out)) (fun x cs h => own_Pair _ _ x cs h) (fun _ h => h.elim) (fun _ _ => trivial) B1.out (below_size B1.out) (by simp only [List.length_nil]; omega) ?_; intro v2 w2 ho hb hg hat; rw [List.nil_append] at ho; have O2 := Aside0.mk ho; have B2 := Aside0.mk hb; clear ho hb hg hat)
    | ((with_reducible refine gate_builtin (b := .append) (xs := #[.tmp 23, .tmp 24]) rfl ?_); at_builtin; refine Kd.R_append_rows k42 (w0 := w) w.heap.size rfl (.tmp 23) (.tmp 24) 27 42 (.agg #[.string (⟨#[]⟩ : ByteArray), .int .i64 0]) 24 rfl Try.underlying27 info42 rfl (by decide) (by omega) v2 (l.take at_) by_ _ _ _ (fun _ => True) (fun _ => False) rfl rfl O2.out (Kd.C_below HR1.out B2.out) (fun x cs h => own_Pair _ _ x cs h) (fun _ h => h.elim) (fun _ _ => trivial) B2.out (below_size B2.out) (by simp only [List.length_take]; omega) ?_; intro v3 w3 ho hb hg hat; have O3 := Aside0.mk ho; have B3 := Aside0.mk hb; clear ho hb hg hat)
    | ((with_reducible refine gate_builtin (b := .append) (xs := #[.tmp 26, .tmp 31]) rfl ?_); at_builtin; refine Kd.R_append_rows k42 (w0 := w) w.heap.size rfl (.tmp 26) (.tmp 31) 27 42 (.agg #[.string (⟨#[]⟩ : ByteArray), .int .i64 0]) 24 rfl Try.underlying27 info42 rfl (by decide) (by omega) v3 (l.take at_ ++ by_) (l.drop (at_ + many)) _ _ _ (fun _ => True) (fun _ => False) rfl rfl O3.out (C2.out (Kd.C_below HR0.out B3.out)) (fun x cs h => own_Pair _ _ x cs h) (fun _ h => h.elim) (fun _ _ => trivial) B3.out (below_size B3.out) (by simp only [List.length_append, List.length_take]; omega) ?_; intro v4 w4 ho hb hg hat; have O4 := Aside0.mk ho; have B4 := Aside0.mk hb; clear ho hb hg hat))
  go_ret
  exact ⟨_, rfl, O4.out, B4.out⟩
theorem impl_replacedPair.M0 (A0 : Option Addr) (c0 : Nat) (l : List S42) (at_ : Nat) (A1 : Option Addr) (c1 : Nat) (by_ : List S42) (w : World) (hr0 : Kd.C k42 w A0 l.length l) (hc0 : l.length ≤ c0) (hr1 : Kd.C k42 w A1 by_.length by_) (hc1 : by_.length ≤ c1) (hs : l.length ≤ 1000000) (hs1 : by_.length ≤ 1000000) (ham : at_ ≤ l.length) : Calls Try.prog 72 #[.slice A0 l.length c0, .int .i64 (at_ : Int), .int .i64 0, .slice A1 by_.length c1] w fun e w' => ∃ v0_ : Value, e = .returned v0_ ∧ Kd.R k42 42 w' w.heap.size (fun _ => True) v0_ ((l.take at_ ++ by_) ++ l.drop at_) ∧ Below w.heap.size w w' := impl_replacedPair.M A0 c0 l at_ 0 A1 c1 by_ w hr0 hc0 hr1 hc1 hs hs1 ham
theorem impl_replacedPair.M1 (A0 : Option Addr) (c0 : Nat) (l : List S42) (at_ : Nat) (A1 : Option Addr) (c1 : Nat) (by_ : List S42) (w : World) (hr0 : Kd.C k42 w A0 l.length l) (hc0 : l.length ≤ c0) (hr1 : Kd.C k42 w A1 by_.length by_) (hc1 : by_.length ≤ c1) (hs : l.length ≤ 1000000) (hs1 : by_.length ≤ 1000000) (ham : at_ + 1 ≤ l.length) : Calls Try.prog 72 #[.slice A0 l.length c0, .int .i64 (at_ : Int), .int .i64 1, .slice A1 by_.length c1] w fun e w' => ∃ v0_ : Value, e = .returned v0_ ∧ Kd.R k42 42 w' w.heap.size (fun _ => True) v0_ ((l.take at_ ++ by_) ++ l.drop (at_ + 1)) ∧ Below w.heap.size w w' := impl_replacedPair.M A0 c0 l at_ 1 A1 c1 by_ w hr0 hc0 hr1 hc1 hs hs1 ham
theorem impl_replacedPair.M1n (A0 : Option Addr) (c0 : Nat) (l : List S42) (at_ : Nat) (w : World) (hr0 : Kd.C k42 w A0 l.length l) (hc0 : l.length ≤ c0) (hs : l.length ≤ 1000000) (ham : at_ + 1 ≤ l.length) : Calls Try.prog 72 #[.slice A0 l.length c0, .int .i64 (at_ : Int), .int .i64 1, .slice none 0 0] w fun e w' => ∃ v0_ : Value, e = .returned v0_ ∧ Kd.R k42 42 w' w.heap.size (fun _ => True) v0_ (l.take at_ ++ l.drop (at_ + 1)) ∧ Below w.heap.size w w' := by
  have h := impl_replacedPair.M A0 c0 l at_ 1 none 0 [] w hr0 hc0 (nilC _ _) (Nat.le_refl 0) hs (by simp) ham
  rw [List.append_nil] at h
  exact h

theorem impl_PairDrop.M (A0 : Option Addr) (c0 : Nat) (l : List S42) (c : ByteArray) (w : World) (hr0 : Kd.C k42 w A0 l.length l) (hc0 : l.length ≤ c0) : Calls Try.prog 37 #[.slice A0 l.length c0, .string c] w fun e w' => ∃ v0, e = .returned (.tuple #[v0, .bool (dropM l c).2]) ∧ Kd.R k42 42 w' w.heap.size (fun _ => True) v0 (dropM l c).1 ∧ Below w.heap.size w w' := by
  have B := Aside0.mk (Below.refl w.heap.size w)
  have hu := Try.underlying42
  have HR0 := Aside0.mk hr0
  have HC0 := Aside0.mk hc0
  have L63 := Aside0.mk hr0.2.1
  clear hr0 hc0
  by_cases hv : prB l = true
  · have h48 := prB_len hv
    cases hh : hitM l c with
    | true =>
      obtain ⟨hlt, hf0, hf⟩ := hit_true hh
      have j1 := eq_true (show ((atP l c : Nat) : Int) < (l.length : Int) by omega)
      have j2 := eq_true hlt
      have hM : dropM l c = (l.take (atP l c) ++ l.drop (atP l c + 1), true) := by unfold dropM; rw [if_pos hv, if_pos hh]
      go_enter Try.func37, Try.ntmps37
      go_wp2_with (first
        | (go_at_call 32; with_reducible refine cl (impl_PairsValid.M _ _ l _ (cb HR0 B)) B fun w1 hb B => ?_; clear hb)
        | (go_at_call 58; with_reducible refine cl (impl_pairPlace.M _ _ l c _ (cb HR0 B) HC0.out hv) B fun w2 hb B => ?_; clear hb)
        | (go_at_call 72; with_reducible refine crz (impl_replacedPair.M1n _ _ l (atP l c)  _ (cb HR0 B) HC0.out  (by omega) (by omega)) B fun zC3 hzC3 AC3 kC3 w3 hb B RC3 QC3 => ?_; clear QC3; clear hb))
      go_ret2; exact ⟨_, by rw [hM]; rfl, by rw [hM, hzC3]; exact RC3.out, B.out⟩
    | false =>
      have hM : dropM l c = (l, false) := by unfold dropM; rw [if_pos hv, if_neg (by rw [hh]; simp)]
      go_enter Try.func37, Try.ntmps37
      go_wp2_with (first
        | (go_at_call 32; with_reducible refine cl (impl_PairsValid.M _ _ l _ (cb HR0 B)) B fun w1 hb B => ?_; clear hb)
        | (go_at_call 58; with_reducible refine cl (impl_pairPlace.M _ _ l c _ (cb HR0 B) HC0.out hv) B fun w2 hb B => ?_; clear hb)
        | (go_at_call 48; with_reducible refine cr (impl_copyOfPair.M _ _ l _ (cb HR0 B) HC0.out (by omega)) B fun AC3 kC3 w3 hb B RC3 QC3 => ?_; clear QC3; clear hb))
      go_ret2; exact ⟨_, by rw [hM]; rfl, by rw [hM]; exact RC3.out, B.out⟩
  · replace hv := Bool.eq_false_iff.mpr hv
    have hM : dropM l c = ([], false) := by unfold dropM; rw [if_neg (by rw [hv]; simp)]
    go_enter Try.func37, Try.ntmps37
    go_wp2_with (first
      | (go_at_call 32; with_reducible refine cl (impl_PairsValid.M _ _ l _ (cb HR0 B)) B fun w1 hb B => ?_; clear hb))
    go_ret2; exact ⟨_, by rw [hM]; rfl, by rw [hM]; exact Kd.R_nil _ _ _ _ _, B.out⟩

theorem impl_PairPut.M (A0 : Option Addr) (c0 : Nat) (l : List S42) (c : ByteArray) (v : Int) (w : World) (hr0 : Kd.C k42 w A0 l.length l) (hc0 : l.length ≤ c0) : Calls Try.prog 49 #[.slice A0 l.length c0, .string c, .int .i64 v] w fun e w' => ∃ v0, e = .returned (.tuple #[v0, .bool (putM l c v).2]) ∧ Kd.R k42 42 w' w.heap.size (fun _ => True) v0 (putM l c v).1 ∧ Below w.heap.size w w' := by
  have B := Aside0.mk (Below.refl w.heap.size w)
  have hu := Try.underlying42
  have HR0 := Aside0.mk hr0
  have HC0 := Aside0.mk hc0
  have L63 := Aside0.mk hr0.2.1
  clear hr0 hc0
  by_cases hvv : (prB l && (keyB c && l1B v 0 999)) = true
  · have hu0 : putM l c v = if hitM l c then ((l.take (atP l c) ++ [⟨c, v⟩]) ++ l.drop (atP l c + 1), true) else if 48 ≤ l.length then (l, false) else ((l.take (atP l c) ++ [⟨c, v⟩]) ++ l.drop (atP l c), true) := if_pos hvv
    simp only [Bool.and_eq_true] at hvv
    obtain ⟨hv, hkv, hlv⟩ := hvv
    have h48 := prB_len hv
    have hat := atP_le l c
    cases hh : hitM l c with
    | true =>
      obtain ⟨hlt, hf0, hf⟩ := hit_true hh
      have j1 := eq_true (show ((atP l c : Nat) : Int) < (l.length : Int) by omega)
      have j2 := eq_true hlt
      have hM : putM l c v = ((l.take (atP l c) ++ [⟨c, v⟩]) ++ l.drop (atP l c + 1), true) := by rw [hu0, if_pos hh]
      go_enter Try.func49, Try.ntmps49
      go_wp2_with (first
        | (go_at_call 32; with_reducible refine cl (impl_PairsValid.M _ _ l _ (cb HR0 B)) B fun w1 hb B => ?_; clear hb)
        | (go_at_call 61; with_reducible refine cl (impl_KeyValid.M c _) B fun w2 hb B => ?_; clear hb)
        | (go_at_call 62; with_reducible refine cl (impl_valueValid.M v _) B fun w3 hb B => ?_; clear hb)
        | (go_at_call 58; with_reducible refine cl (impl_pairPlace.M _ _ l c _ (cb HR0 B) HC0.out hv) B fun w4 hb B => ?_; clear hb)
        | ((with_reducible refine gate_dst (N := 35) rfl ?_); refine lt k42 42 ?hg (N := 35) ?hd ([⟨c, v⟩] : List S42) [.string c, .int .i64 (v)] ?hr (Reps.c2 (k42_mkM _ _ _ ⟨c, v⟩) (Reps.none _ _)) (by simp) B ?_; (case hd => rfl); (case hg => rfl); (case hr => first | (go_simp; done) | (go_simp; rfl)); intro z35 hz35 AL35 kL35 w5 hb B RL35 QL35; clear hb QL35)
        | (go_at_call 72; with_reducible refine crz (impl_replacedPair.M1 _ _ l (atP l c) _ _ z35 _ (cb HR0 B) HC0.out (rc RL35) (rl RL35) (by omega) (by rw [← hz35]; simp) (by omega)) B fun zC6 hzC6 AC6 kC6 w6 hb B RC6 QC6 => ?_; clear QC6; clear hb))
      go_ret2; exact ⟨_, by rw [hM]; rfl, by rw [hM, hz35, hzC6]; exact RC6.out, B.out⟩
    | false =>
      by_cases h8 : 48 ≤ l.length
      · have d8 : decide ((48 : Int) ≤ (l.length : Int)) = true := decide_eq_true (by omega)
        have d9 := eq_true h8
        have hM : putM l c v = (l, false) := by rw [hu0, if_neg (by rw [hh]; simp), if_pos h8]
        go_enter Try.func49, Try.ntmps49
        go_wp2_with (first
          | (go_at_call 32; with_reducible refine cl (impl_PairsValid.M _ _ l _ (cb HR0 B)) B fun w1 hb B => ?_; clear hb)
          | (go_at_call 61; with_reducible refine cl (impl_KeyValid.M c _) B fun w2 hb B => ?_; clear hb)
          | (go_at_call 62; with_reducible refine cl (impl_valueValid.M v _) B fun w3 hb B => ?_; clear hb)
          | (go_at_call 58; with_reducible refine cl (impl_pairPlace.M _ _ l c _ (cb HR0 B) HC0.out hv) B fun w4 hb B => ?_; clear hb)
          | (go_at_call 48; with_reducible refine cr (impl_copyOfPair.M _ _ l _ (cb HR0 B) HC0.out (by omega)) B fun AC5 kC5 w5 hb B RC5 QC5 => ?_; clear QC5; clear hb))
        go_ret2; exact ⟨_, by rw [hM]; rfl, by rw [hM]; exact RC5.out, B.out⟩
      · have d8 : decide ((48 : Int) ≤ (l.length : Int)) = false := decide_eq_false (by omega)
        have d9 := eq_false h8
        have hM : putM l c v = ((l.take (atP l c) ++ [⟨c, v⟩]) ++ l.drop (atP l c), true) := by rw [hu0, if_neg (by rw [hh]; simp), if_neg h8]
        go_enter Try.func49, Try.ntmps49
        go_wp2_with (first
          | (go_at_call 32; with_reducible refine cl (impl_PairsValid.M _ _ l _ (cb HR0 B)) B fun w1 hb B => ?_; clear hb)
          | (go_at_call 61; with_reducible refine cl (impl_KeyValid.M c _) B fun w2 hb B => ?_; clear hb)
          | (go_at_call 62; with_reducible refine cl (impl_valueValid.M v _) B fun w3 hb B => ?_; clear hb)
          | (go_at_call 58; with_reducible refine cl (impl_pairPlace.M _ _ l c _ (cb HR0 B) HC0.out hv) B fun w4 hb B => ?_; clear hb)
          | ((with_reducible refine gate_dst (N := 47) rfl ?_); refine lt k42 42 ?hg (N := 47) ?hd ([⟨c, v⟩] : List S42) [.string c, .int .i64 (v)] ?hr (Reps.c2 (k42_mkM _ _ _ ⟨c, v⟩) (Reps.none _ _)) (by simp) B ?_; (case hd => rfl); (case hg => rfl); (case hr => first | (go_simp; done) | (go_simp; rfl)); intro z47 hz47 AL47 kL47 w5 hb B RL47 QL47; clear hb QL47)
          | (go_at_call 72; with_reducible refine crz (impl_replacedPair.M0 _ _ l (atP l c) _ _ z47 _ (cb HR0 B) HC0.out (rc RL47) (rl RL47) (by omega) (by rw [← hz47]; simp) (by omega)) B fun zC6 hzC6 AC6 kC6 w6 hb B RC6 QC6 => ?_; clear QC6; clear hb))
        go_ret2; exact ⟨_, by rw [hM]; rfl, by rw [hM, hz47, hzC6]; exact RC6.out, B.out⟩
  · have hM : putM l c v = ([], false) := if_neg hvv
    have hvn : prB l = false ∨ keyB c = false ∨ l1B v 0 999 = false := by grind
    go_enter Try.func49, Try.ntmps49
    go_wp2_with (first
      | (go_at_call 32; with_reducible refine cl (impl_PairsValid.M _ _ l _ (cb HR0 B)) B fun w1 hb B => ?_; clear hb)
      | (go_at_call 61; with_reducible refine cl (impl_KeyValid.M c _) B fun w2 hb B => ?_; clear hb)
      | (go_at_call 62; with_reducible refine cl (impl_valueValid.M v _) B fun w3 hb B => ?_; clear hb))
    all_goals first
      | (go_ret2; exact ⟨_, by rw [hM]; rfl, by rw [hM]; exact Kd.R_nil _ _ _ _ _, B.out⟩)
      | (exfalso; grind)

theorem impl_CommandValid.M (k : Int) (x : ByteArray) (v o : Int) (w : World) : Calls Try.prog 47 #[.agg #[.int .i64 k, .string x, .int .i64 v, .int .i64 o]] w fun e w' => e = .returned (.bool (cmdB k x v o)) ∧ Below w.heap.size w w' := by
  have B := Aside0.mk (Below.refl w.heap.size w)
  have hu := Try.underlying31
  go_enter Try.func47, Try.ntmps47
  go_wp2_with (first
    | ((with_reducible refine gate_dst (N := 1) rfl ?_); refine bx ?hg (N := 1) ?hd (cs := #[.int .i64 (k), .string x, .int .i64 (v), .int .i64 (o)]) (t := 31) ?hr B ?_; (case hd => rfl); (case hg => rfl); (case hr => first | (go_simp; done) | (go_simp; rfl)); intro g1 w1 hb B F1 L1 E1; obtain ⟨c1_0, c1_1, c1_2, c1_3⟩ := cs4 F1; clear hb E1)
    | (go_at_call 61; with_reducible refine cl (impl_KeyValid.M x _) B fun w2 hb B => ?_; replace F1 := bn F1 hb; clear c1_0 c1_1 c1_2 c1_3; obtain ⟨c1_0, c1_1, c1_2, c1_3⟩ := cs4 F1; clear hb)
    | (go_at_call 62; with_reducible refine cl (impl_valueValid.M v _) B fun w3 hb B => ?_; replace F1 := bn F1 hb; clear c1_0 c1_1 c1_2 c1_3; obtain ⟨c1_0, c1_1, c1_2, c1_3⟩ := cs4 F1; clear hb)
    | (go_at_call 62; with_reducible refine cl (impl_valueValid.M v _) B fun w4 hb B => ?_; replace F1 := bn F1 hb; clear c1_0 c1_1 c1_2 c1_3; obtain ⟨c1_0, c1_1, c1_2, c1_3⟩ := cs4 F1; clear hb)
    | (go_at_call 62; with_reducible refine cl (impl_valueValid.M o _) B fun w5 hb B => ?_; replace F1 := bn F1 hb; clear c1_0 c1_1 c1_2 c1_3; obtain ⟨c1_0, c1_1, c1_2, c1_3⟩ := cs4 F1; clear hb))
  all_goals (go_ret; exact ⟨congrArg (fun b => Ending.returned (Value.bool b)) (by unfold cmdB; grind [l1B]), B.out⟩)

theorem impl_ApplyCommand.M (A0 : Option Addr) (c0 : Nat) (l : List S42) (k : Int) (x : ByteArray) (v o : Int) (w : World) (hr0 : Kd.C k42 w A0 l.length l) (hc0 : l.length ≤ c0) : Calls Try.prog 13 #[.slice A0 l.length c0, .agg #[.int .i64 k, .string x, .int .i64 v, .int .i64 o]] w fun e w' => ∃ v0, e = .returned (.tuple #[v0, .int .i64 (apM l k x v o).2]) ∧ Kd.R k42 42 w' w.heap.size (fun _ => True) v0 (apM l k x v o).1 ∧ Below w.heap.size w w' := by
  have B := Aside0.mk (Below.refl w.heap.size w)
  have hu := Try.underlying31
  have HR0 := Aside0.mk hr0
  have HC0 := Aside0.mk hc0
  have L63 := Aside0.mk hr0.2.1
  clear hr0 hc0
  obtain ⟨r, hr⟩ : ∃ r, apM l k x v o = r := ⟨_, rfl⟩
  rw [hr]
  go_enter Try.func13, Try.ntmps13
  go_wp2_with (first
    | ((with_reducible refine gate_dst (N := 3) rfl ?_); refine bx ?hg (N := 3) ?hd (cs := #[.int .i64 (k), .string x, .int .i64 (v), .int .i64 (o)]) (t := 31) ?hr B ?_; (case hd => rfl); (case hg => rfl); (case hr => first | (go_simp; done) | (go_simp; rfl)); intro g3 w1 hb B F3 L3 E3; obtain ⟨c3_0, c3_1, c3_2, c3_3⟩ := cs4 F3; clear hb E3)
    | (go_at_call 32; with_reducible refine cl (impl_PairsValid.M _ _ l _ (cb HR0 B)) B fun w2 hb B => ?_; replace F3 := bn F3 hb; clear c3_0 c3_1 c3_2 c3_3; obtain ⟨c3_0, c3_1, c3_2, c3_3⟩ := cs4 F3; clear hb)
    | (go_at_call 47; with_reducible refine cl (impl_CommandValid.M k x v o _) B fun w3 hb B => ?_; replace F3 := bn F3 hb; clear c3_0 c3_1 c3_2 c3_3; obtain ⟨c3_0, c3_1, c3_2, c3_3⟩ := cs4 F3; clear hb)
    | (go_at_call 20; with_reducible refine cl (impl_PairGet.M _ _ l x _ (cb HR0 B) HC0.out) B fun w4 hb B => ?_; replace F3 := bn F3 hb; clear c3_0 c3_1 c3_2 c3_3; obtain ⟨c3_0, c3_1, c3_2, c3_3⟩ := cs4 F3; clear hb)
    | (go_at_call 37; with_reducible refine crz (impl_PairDrop.M _ _ l x _ (cb HR0 B) HC0.out) B fun zC5 hzC5 AC5 kC5 w5 hb B RC5 QC5 => ?_; replace F3 := bn F3 hb; clear QC5; clear hb)
    | (go_at_call 48; with_reducible refine cr (impl_copyOfPair.M _ _ l _ (cb HR0 B) HC0.out (by have := prB_len (by assumption); omega)) B fun AC5 kC5 w5 hb B RC5 QC5 => ?_; replace F3 := bn F3 hb; clear QC5; clear hb)
    | (go_at_call 48; with_reducible refine cr (impl_copyOfPair.M _ _ l _ (cb HR0 B) HC0.out (by have := prB_len (by assumption); omega)) B fun AC5 kC5 w5 hb B RC5 QC5 => ?_; replace F3 := bn F3 hb; clear QC5; clear hb)
    | (go_at_call 49; with_reducible refine crz (impl_PairPut.M _ _ l x v _ (cb HR0 B) HC0.out) B fun zC5 hzC5 AC5 kC5 w5 hb B RC5 QC5 => ?_; replace F3 := bn F3 hb; clear QC5; clear hb))
  all_goals first
    | (refine useEq (a := r) (b := ([], -3)) ?_ (fun hM => ?_); (rw [← hr]; unfold apM; (try have hgb := getM_bound l x); grind); subst hM; go_ret2; exact ⟨_, rfl, Kd.R_nil _ _ _ _ _, B.out⟩)
    | (refine useEq (a := r) (b := ((dropM l x).1, getM l x)) ?_ (fun hM => ?_); (rw [← hr]; unfold apM; (try have hgb := getM_bound l x); grind); subst hM; subst hzC5; go_ret2; exact ⟨_, rfl, RC5.out, B.out⟩)
    | (refine useEq (a := r) (b := ((dropM l x).1, -1)) ?_ (fun hM => ?_); (rw [← hr]; unfold apM; (try have hgb := getM_bound l x); grind); subst hM; subst hzC5; go_ret2; exact ⟨_, rfl, RC5.out, B.out⟩)
    | (refine useEq (a := r) (b := (l, getM l x)) ?_ (fun hM => ?_); (rw [← hr]; unfold apM; (try have hgb := getM_bound l x); grind); subst hM; go_ret2; exact ⟨_, rfl, RC5.out, B.out⟩)
    | (refine useEq (a := r) (b := (l, -1)) ?_ (fun hM => ?_); (rw [← hr]; unfold apM; (try have hgb := getM_bound l x); grind); subst hM; go_ret2; exact ⟨_, rfl, RC5.out, B.out⟩)
    | (refine useEq (a := r) (b := ((putM l x v).1, getM l x)) ?_ (fun hM => ?_); (rw [← hr]; unfold apM; (try have hgb := getM_bound l x); grind); subst hM; subst hzC5; go_ret2; exact ⟨_, rfl, RC5.out, B.out⟩)
    | (refine useEq (a := r) (b := ((putM l x v).1, -1)) ?_ (fun hM => ?_); (rw [← hr]; unfold apM; (try have hgb := getM_bound l x); grind); subst hM; subst hzC5; go_ret2; exact ⟨_, rfl, RC5.out, B.out⟩)
    | (refine useEq (a := r) (b := (l, -2)) ?_ (fun hM => ?_); (rw [← hr]; unfold apM; (try have hgb := getM_bound l x); grind); subst hM; go_ret2; exact ⟨_, rfl, RC5.out, B.out⟩)

/-! The model of commands carried out one after the other. -/
def kC (c : S31) : Bool := cmdB c.f0 c.f1 c.f2 c.f3 && !decide (c.f0 = 5)
def stepR (a : List S42 × List Int) (c : S31) : List S42 × List Int := ((apM a.1 c.f0 c.f1 c.f2 c.f3).1, a.2 ++ [(apM a.1 c.f0 c.f1 c.f2 c.f3).2])
def runM (ps : List S42) (cs : List S31) : List S42 × List Int :=
  if prB ps && (decide (cs.length ≤ 20) && cs.all kC) then cs.foldl stepR (ps, []) else ([], [])
theorem cm_nat {l : List S31} {j : Nat} (h : j < l.length) : rd_T31 l (j : Int) = l[j] := by
  simp [rd_T31, List.getD_eq_getElem?_getD, List.getElem?_eq_getElem h]
theorem cm_drop {l : List S31} {j : Nat} (h : j < l.length) : l.drop j = rd_T31 l (j : Int) :: l.drop (j + 1) := by
  rw [cm_nat h, List.drop_eq_getElem_cons h]
theorem c2r {P : Program} {F : FuncId} {args : Array Value} {w W : World} {Q : Ending → World → Prop} {α β : Type} {d : Kd α} {d' : Kd β} {e e' : Nat} {xs : List α} {ys : List β} {f : Value → Value → Value} (c : Calls P F args W fun r w' => ∃ v1 v2, r = .returned (f v1 v2) ∧ Kd.R d e w' W.heap.size (fun _ => True) v1 xs ∧ Kd.R d' e' w' W.heap.size (fun _ => True) v2 ys ∧ Below W.heap.size W w') (B : Aside0 (Below w.heap.size w W))
    (h : ∀ A kk A' kk' W', Below W.heap.size W W' → Aside0 (Below w.heap.size w W') → Aside0 (Ow d e W' w.heap.size (.slice A xs.length kk) xs) → Aside0 (Fr W (.slice A xs.length kk)) → Aside0 (Ow d' e' W' w.heap.size (.slice A' ys.length kk') ys) → Aside0 (Fr W (.slice A' ys.length kk')) → Q (.returned (f (.slice A xs.length kk) (.slice A' ys.length kk'))) W') : Calls P F args W Q :=
  c.mono (by
    rintro r W' ⟨v1, v2, rfl, ho, ho', hb⟩
    obtain ⟨A, kk, rfl⟩ := Kd.R_slice ho
    obtain ⟨A', kk', rfl⟩ := Kd.R_slice ho'
    exact h A kk A' kk' W' hb ⟨below_step B.out hb⟩ ⟨Kd.R_lower ho (below_size B.out)⟩ ⟨fun k hk => Kd.R_base ho k hk⟩ ⟨Kd.R_lower ho' (below_size B.out)⟩ ⟨fun k hk => Kd.R_base ho' k hk⟩)
theorem foldR_len (cs : List S31) : ∀ a : List S42 × List Int, (cs.foldl stepR a).1.length ≤ a.1.length + cs.length ∧ (cs.foldl stepR a).2.length = a.2.length + cs.length := by
  induction cs with
  | nil => intro a; exact ⟨Nat.le_refl _, rfl⟩
  | cons c r ih =>
    intro a
    have h := ih (stepR a c)
    have h1 := apM_len a.1 c.f0 c.f1 c.f2 c.f3
    rw [List.foldl_cons, List.length_cons]
    have e1 : (stepR a c).1 = (apM a.1 c.f0 c.f1 c.f2 c.f3).1 := rfl
    have e2 : (stepR a c).2.length = a.2.length + 1 := by unfold stepR; simp
    rw [e1, e2] at h
    omega
theorem runM_len (ps : List S42) (cs : List S31) : (runM ps cs).1.length ≤ ps.length + cs.length ∧ (runM ps cs).2.length ≤ cs.length := by
  unfold runM
  split
  · have h := foldR_len cs (ps, [])
    simp only [List.length_nil, Nat.zero_add] at h
    omega
  · simp

/-! Pairs in order, cut at a key. -/
theorem cut_sorted {α : Type} (q : α → Bool) : ∀ l : List α, l.Pairwise (fun x y => q y = true → q x = true) → l.take (l.takeWhile q).length = l.filter q ∧ l.drop (l.takeWhile q).length = l.filter (fun x => !q x)
  | [], _ => ⟨rfl, rfl⟩
  | x :: r, h => by
    rw [List.pairwise_cons] at h
    obtain ⟨h1, h2⟩ := cut_sorted q r h.2
    cases hx : q x with
    | true => simp [List.takeWhile_cons, hx, h1, h2]
    | false =>
      have hn : ∀ y ∈ r, q y = false := fun y hy => by
        cases hq : q y with
        | false => rfl
        | true => rw [h.1 y hy hq] at hx; cases hx
      have f1 : r.filter q = [] := List.filter_eq_nil_iff.mpr fun y hy => by simp [hn y hy]
      have f2 : r.filter (fun x => !q x) = r := List.filter_eq_self.mpr fun y hy => by simp [hn y hy]
      simp [List.takeWhile_cons, hx, f1, f2]
theorem ord_lt {l : List S42} (ho : l.Pairwise (fun a b => ltB a.f0 b.f0 = true)) (c : ByteArray) : l.Pairwise (fun x y => ltB y.f0 c = true → ltB x.f0 c = true) :=
  ho.imp fun h k => ltB_trans h k
theorem take_at {l : List S42} (ho : l.Pairwise (fun a b => ltB a.f0 b.f0 = true)) (c : ByteArray) : l.take (atP l c) = l.filter (fun p => ltB p.f0 c) := (cut_sorted _ l (ord_lt ho c)).1
theorem drop_at {l : List S42} (ho : l.Pairwise (fun a b => ltB a.f0 b.f0 = true)) (c : ByteArray) : l.drop (atP l c) = l.filter (fun p => !ltB p.f0 c) := (cut_sorted _ l (ord_lt ho c)).2

/-! Pairs that are put and dropped stay valid. -/
theorem prG_of : ∀ (l : List S42) (p : Option ByteArray), (∀ x ∈ l, okP x = true) → l.Pairwise (fun a b => ltB a.f0 b.f0 = true) → (∀ q, p = some q → ∀ x ∈ l, ltB q x.f0 = true) → prG p l = true
  | [], _, _, _, _ => by simp [prG]
  | s :: r, p, h1, h2, h3 => by
    rw [List.pairwise_cons] at h2
    simp only [prG, Bool.and_eq_true]
    refine ⟨h1 s (List.mem_cons_self ..), ?_, prG_of r (some s.f0) (fun x hx => h1 x (List.mem_cons_of_mem _ hx)) h2.2 (fun q hq x hx => by cases hq; exact h2.1 x hx)⟩
    cases p with
    | none => rfl
    | some q => exact h3 q rfl s (List.mem_cons_self ..)
theorem prG_ok : ∀ (l : List S42) (p : Option ByteArray), prG p l = true → ∀ x ∈ l, okP x = true
  | [], _, _ => fun x hx => by cases hx
  | s :: r, p, h => fun x hx => by
    simp only [prG, Bool.and_eq_true] at h
    rcases List.mem_cons.mp hx with rfl | hx
    · exact h.1
    · exact prG_ok r _ h.2.2 x hx
theorem prB_parts {l : List S42} (h : prB l = true) : l.length ≤ 48 ∧ (∀ x ∈ l, okP x = true) ∧ l.Pairwise (fun a b => ltB a.f0 b.f0 = true) := by
  have h' := h
  unfold prB at h'
  rw [Bool.and_eq_true] at h'
  exact ⟨prB_len h, prG_ok l none h'.2, prB_order h⟩
theorem prB_of {l : List S42} (h0 : l.length ≤ 48) (h1 : ∀ x ∈ l, okP x = true) (h2 : l.Pairwise (fun a b => ltB a.f0 b.f0 = true)) : prB l = true := by
  unfold prB
  rw [decide_eq_true h0, Bool.true_and]
  exact prG_of l none h1 h2 (fun q hq => by cases hq)
theorem prB_nil : prB ([] : List S42) = true := prB_of (by simp) (fun x hx => by cases hx) List.Pairwise.nil
theorem put_ok {l Z : List S42} {c : ByteArray} {v : Int} (hl : prB l = true) (hk : keyB c = true) (hv : l1B v 0 999 = true) (hz : Z.Sublist l) (hg : ∀ x ∈ Z, ltB c x.f0 = true) (h48 : (l.take (atP l c) ++ [(⟨c, v⟩ : S42)] ++ Z).length ≤ 48) : prB (l.take (atP l c) ++ [(⟨c, v⟩ : S42)] ++ Z) = true := by
  obtain ⟨_, ho, hp⟩ := prB_parts hl
  have hA : ∀ x ∈ l.take (atP l c), ltB x.f0 c = true := fun x hx => by rw [take_at hp] at hx; exact (List.mem_filter.mp hx).2
  refine prB_of h48 (fun x hx => ?_) ?_
  · rw [List.mem_append, List.mem_append, List.mem_singleton] at hx
    rcases hx with (hx | rfl) | hx
    · exact ho x (List.mem_of_mem_take hx)
    · unfold okP; rw [hk, hv]; rfl
    · exact ho x (hz.subset hx)
  · rw [List.pairwise_append, List.pairwise_append]
    refine ⟨⟨hp.sublist (List.take_sublist _ _), List.pairwise_singleton _ _, fun a ha b hb => ?_⟩, hp.sublist hz, fun a ha b hb => ?_⟩
    · rw [List.mem_singleton] at hb; subst hb; exact hA a ha
    · rw [List.mem_append, List.mem_singleton] at ha
      rcases ha with ha | rfl
      · exact ltB_trans (hA a ha) (hg b hb)
      · exact hg b hb
theorem behind_hit {l : List S42} {c : ByteArray} (hl : prB l = true) (hh : hitM l c = true) : ∀ x ∈ l.drop (atP l c + 1), ltB c x.f0 = true := by
  obtain ⟨hlt, he, -⟩ := hit_true hh
  rw [pr_nat hlt] at he
  have hp := (prB_order hl).sublist (List.drop_sublist (atP l c) l)
  rw [List.drop_eq_getElem_cons hlt, List.pairwise_cons] at hp
  intro x hx
  have := hp.1 x hx
  rwa [he] at this
theorem behind_miss {l : List S42} {c : ByteArray} (hl : prB l = true) (hh : hitM l c = false) : ∀ x ∈ l.drop (atP l c), ltB c x.f0 = true := by
  have hp := prB_order hl
  by_cases hlt : atP l c < l.length
  · have hne : l[atP l c].f0 ≠ c := fun e => by
      unfold hitM at hh
      rw [pr_nat hlt, decide_eq_true hlt, decide_eq_true e] at hh
      cases hh
    have hge : ltB l[atP l c].f0 c = false := by
      have hm : l[atP l c] ∈ l.drop (atP l c) := by rw [List.drop_eq_getElem_cons hlt]; exact List.mem_cons_self ..
      rw [drop_at hp] at hm
      simpa using (List.mem_filter.mp hm).2
    have h1 : ltB c l[atP l c].f0 = true := by
      cases h : ltB c l[atP l c].f0 with
      | true => rfl
      | false => exact absurd (ltB_tri hge h) hne
    have hp2 := hp.sublist (List.drop_sublist (atP l c) l)
    intro x hx
    rw [List.drop_eq_getElem_cons hlt] at hp2 hx
    rw [List.pairwise_cons] at hp2
    rcases List.mem_cons.mp hx with rfl | hx
    · exact h1
    · exact ltB_trans h1 (hp2.1 x hx)
  · intro x hx
    rw [List.drop_of_length_le (by omega)] at hx
    cases hx
theorem putM_ok (l : List S42) (c : ByteArray) (v : Int) : prB (putM l c v).1 = true := by
  unfold putM
  split
  · rename_i h
    simp only [Bool.and_eq_true] at h
    obtain ⟨hl, hk, hv⟩ := h
    have h48 := prB_len hl
    have hat := atP_le l c
    split
    · rename_i hh
      have := (hit_true hh).1
      exact put_ok hl hk hv (List.drop_sublist _ _) (behind_hit hl hh) (by simp only [List.length_append, List.length_take, List.length_drop, List.length_singleton]; omega)
    · rename_i hh
      split
      · exact hl
      · exact put_ok hl hk hv (List.drop_sublist _ _) (behind_miss hl (Bool.eq_false_iff.mpr hh)) (by simp only [List.length_append, List.length_take, List.length_drop, List.length_singleton]; omega)
  · exact prB_nil
theorem dropM_ok (l : List S42) (c : ByteArray) : prB (dropM l c).1 = true := by
  unfold dropM
  split
  · rename_i hl
    split
    · obtain ⟨h0, h1, h2⟩ := prB_parts hl
      have hs : (l.take (atP l c) ++ l.drop (atP l c + 1)).Sublist l := by
        have := List.Sublist.append (List.Sublist.refl (l.take (atP l c))) (List.drop_sublist_drop_left l (Nat.le_succ (atP l c)))
        rwa [List.take_append_drop] at this
      exact prB_of (Nat.le_trans hs.length_le h0) (fun x hx => h1 x (hs.subset hx)) (h2.sublist hs)
    · exact hl
  · exact prB_nil

/-! Commands keep pairs valid; a run may be cut in two. -/
theorem apM_ok {l : List S42} (hl : prB l = true) (k : Int) (x : ByteArray) (v o : Int) : prB (apM l k x v o).1 = true := by
  unfold apM
  split
  · split
    · exact dropM_ok l x
    · split
      · exact hl
      · split
        · exact hl
        · exact putM_ok l x v
  · exact prB_nil
theorem foldR_ok (cs : List S31) : ∀ a : List S42 × List Int, prB a.1 = true → prB (cs.foldl stepR a).1 = true := by
  induction cs with
  | nil => intro a h; exact h
  | cons c r ih => intro a h; exact ih (stepR a c) (apM_ok h _ _ _ _)
theorem foldR_acc (cs : List S31) : ∀ (p : List S42) (vs : List Int), cs.foldl stepR (p, vs) = ((cs.foldl stepR (p, [])).1, vs ++ (cs.foldl stepR (p, [])).2) := by
  induction cs with
  | nil => intro p vs; simp
  | cons c r ih =>
    intro p vs
    rw [List.foldl_cons, List.foldl_cons]
    have e : ∀ us, stepR (p, us) c = ((apM p c.f0 c.f1 c.f2 c.f3).1, us ++ [(apM p c.f0 c.f1 c.f2 c.f3).2]) := fun us => rfl
    rw [e, e, ih _ (vs ++ _), ih _ ([] ++ _)]
    simp
theorem runM_if {ps : List S42} {cs : List S31} (h : (prB ps && (decide (cs.length ≤ 20) && cs.all kC)) = true) : runM ps cs = cs.foldl stepR (ps, []) := if_pos h
theorem runM_else {ps : List S42} {cs : List S31} (h : ¬ (prB ps && (decide (cs.length ≤ 20) && cs.all kC)) = true) : runM ps cs = ([], []) := if_neg h
/-- what the law asks of a run -/
theorem run_short {ps : List S42} {cs : List S31} (h : (runM ps cs).2.length ≠ cs.length) : (runM ps cs).1 = [] ∧ (runM ps cs).2 = [] := by
  by_cases hc : (prB ps && (decide (cs.length ≤ 20) && cs.all kC)) = true
  · rw [runM_if hc] at h
    have := (foldR_len cs (ps, [])).2
    simp only [List.length_nil, Nat.zero_add] at this
    exact absurd this h
  · rw [runM_else hc]; exact ⟨rfl, rfl⟩
theorem run_bad {ps : List S42} {cs : List S31} (h : prB ps = false) : (runM ps cs).1 = [] := by
  rw [runM_else (by rw [h]; simp)]
theorem run_cut {ps : List S42} {cs : List S31} (hl : (runM ps cs).2.length = cs.length) (hv : prB ps = true) (m : Nat) :
    (runM (runM ps (cs.take m)).1 (cs.drop m)).1 = (runM ps cs).1 ∧ (runM ps (cs.take m)).2 ++ (runM (runM ps (cs.take m)).1 (cs.drop m)).2 = (runM ps cs).2 := by
  by_cases hc : (prB ps && (decide (cs.length ≤ 20) && cs.all kC)) = true
  · have hc' := hc
    simp only [Bool.and_eq_true, decide_eq_true_eq] at hc'
    obtain ⟨_, h20, hall⟩ := hc'
    have hsp : cs.all kC = ((cs.take m).all kC && (cs.drop m).all kC) := by rw [← List.all_append, List.take_append_drop]
    rw [hsp, Bool.and_eq_true] at hall
    have h1 : (prB ps && (decide ((cs.take m).length ≤ 20) && (cs.take m).all kC)) = true := by
      rw [hv, hall.1, decide_eq_true (by rw [List.length_take]; omega)]; rfl
    rw [runM_if h1]
    have hp := foldR_ok (cs.take m) (ps, []) hv
    have h2 : (prB ((cs.take m).foldl stepR (ps, [])).1 && (decide ((cs.drop m).length ≤ 20) && (cs.drop m).all kC)) = true := by
      rw [hp, hall.2, decide_eq_true (by rw [List.length_drop]; omega)]; rfl
    rw [runM_if h2, runM_if hc]
    have e : cs.foldl stepR (ps, []) = (cs.drop m).foldl stepR ((cs.take m).foldl stepR (ps, [])) := by rw [← List.foldl_append, List.take_append_drop]
    rw [e]
    have e2 := foldR_acc (cs.drop m) ((cs.take m).foldl stepR (ps, [])).1 ((cs.take m).foldl stepR (ps, [])).2
    rw [show (((cs.take m).foldl stepR (ps, [])).1, ((cs.take m).foldl stepR (ps, [])).2) = (cs.take m).foldl stepR (ps, []) from rfl] at e2
    rw [e2]
    exact ⟨rfl, rfl⟩
  · rw [runM_else hc] at hl
    have hcs : cs = [] := List.eq_nil_of_length_eq_zero hl.symm
    subst hcs
    exact absurd (by rw [hv]; rfl) hc

/-! What is found among pairs. -/
theorem getM_mem {l : List S42} (hv : prB l = true) {p : S42} (hp : p ∈ l) : getM l p.f0 = p.f1 := by
  obtain ⟨i, hi, rfl⟩ := List.getElem_of_mem hp
  have ho := prB_order hv
  have hat : atP l l[i].f0 = i := take_len l i (by omega) (fun j hj hji => List.pairwise_iff_getElem.mp ho j i hj hi hji) (fun _ => ltB_irr _)
  unfold getM hitM
  rw [hat, hv, pr_nat hi, decide_eq_true hi, decide_eq_true rfl]
  rfl
theorem getM_none {l : List S42} {c : ByteArray} (h : ∀ p ∈ l, p.f0 ≠ c) : getM l c = -1 := by
  unfold getM
  rw [if_neg]
  intro hh
  rw [Bool.and_eq_true] at hh
  obtain ⟨hlt, he, -⟩ := hit_true hh.2
  rw [pr_nat hlt] at he
  exact h _ (List.getElem_mem hlt) he
theorem getM_hit {l : List S42} {c : ByteArray} (hv : prB l = true) (h : hitM l c = true) : ∃ p ∈ l, p.f0 = c := by
  obtain ⟨hlt, he, -⟩ := hit_true h
  rw [pr_nat hlt] at he
  exact ⟨_, List.getElem_mem hlt, he⟩
theorem hit_of_mem {l : List S42} (hv : prB l = true) {p : S42} (hp : p ∈ l) : hitM l p.f0 = true := by
  obtain ⟨i, hi, rfl⟩ := List.getElem_of_mem hp
  have ho := prB_order hv
  have hat : atP l l[i].f0 = i := take_len l i (by omega) (fun j hj hji => List.pairwise_iff_getElem.mp ho j i hj hi hji) (fun _ => ltB_irr _)
  unfold hitM
  rw [hat, pr_nat hi, decide_eq_true hi, decide_eq_true rfl]
  rfl
/-- what stays of the pairs, but for the place of a key -/
theorem others {l : List S42} {c : ByteArray} (hv : prB l = true) {p : S42} (hp : p ∈ l) (hne : p.f0 ≠ c) (hh : hitM l c = true) : p ∈ l.take (atP l c) ∨ p ∈ l.drop (atP l c + 1) := by
  obtain ⟨hlt, he, -⟩ := hit_true hh
  rw [pr_nat hlt] at he
  have e : l = l.take (atP l c) ++ l[atP l c] :: l.drop (atP l c + 1) := by rw [← List.drop_eq_getElem_cons hlt, List.take_append_drop]
  rw [e] at hp
  rcases List.mem_append.mp hp with h | h
  · exact .inl h
  · rcases List.mem_cons.mp h with h | h
    · exact absurd (h ▸ he) hne
    · exact .inr h
theorem putM_get {l : List S42} {c : ByteArray} {v : Int} (hv : prB l = true) (hk : keyB c = true) (hl : l1B v 0 999 = true) (hfit : hitM l c = true ∨ l.length < 48) : getM (putM l c v).1 c = v ∧ ∀ p ∈ l, p.f0 ≠ c → getM (putM l c v).1 p.f0 = p.f1 := by
  have hok := putM_ok l c v
  have e : putM l c v = if hitM l c then ((l.take (atP l c) ++ [⟨c, v⟩]) ++ l.drop (atP l c + 1), true) else if 48 ≤ l.length then (l, false) else ((l.take (atP l c) ++ [⟨c, v⟩]) ++ l.drop (atP l c), true) := if_pos (by rw [hv, hk, hl]; rfl)
  cases hh : hitM l c with
  | true =>
    rw [hh, if_pos rfl] at e
    rw [e] at hok ⊢
    refine ⟨?_, fun p hp hne => getM_mem hok ?_⟩
    · exact getM_mem hok (p := (⟨c, v⟩ : S42)) (by simp)
    · rcases others hv hp hne hh with h | h
      · simp [h]
      · simp [h]
  | false =>
    have h48 : ¬ 48 ≤ l.length := by
      rcases hfit with h | h
      · rw [hh] at h; cases h
      · omega
    rw [hh, if_neg (by simp), if_neg h48] at e
    rw [e] at hok ⊢
    refine ⟨?_, fun p hp hne => getM_mem hok ?_⟩
    · exact getM_mem hok (p := (⟨c, v⟩ : S42)) (by simp)
    · rw [← List.take_append_drop (atP l c) l] at hp
      rcases List.mem_append.mp hp with h | h
      · simp [h]
      · simp [h]
theorem dropM_get {l : List S42} {c : ByteArray} (hv : prB l = true) : getM (dropM l c).1 c = -1 ∧ ∀ p ∈ l, p.f0 ≠ c → getM (dropM l c).1 p.f0 = p.f1 := by
  have hok := dropM_ok l c
  have e : dropM l c = if hitM l c then (l.take (atP l c) ++ l.drop (atP l c + 1), true) else (l, false) := by unfold dropM; rw [if_pos hv]
  cases hh : hitM l c with
  | true =>
    rw [hh, if_pos rfl] at e
    rw [e] at hok ⊢
    refine ⟨getM_none fun p hp hc => ?_, fun p hp hne => getM_mem hok ?_⟩
    · rcases List.mem_append.mp hp with h | h
      · rw [take_at (prB_order hv)] at h
        have := (List.mem_filter.mp h).2
        rw [hc, ltB_irr] at this
        cases this
      · have := behind_hit hv hh p h
        rw [hc, ltB_irr] at this
        cases this
    · rcases others hv hp hne hh with h | h
      · simp [h]
      · simp [h]
  | false =>
    rw [hh, if_neg (by simp)] at e
    rw [e] at hok ⊢
    refine ⟨?_, fun p hp hne => getM_mem hv hp⟩
    unfold getM
    rw [hh, Bool.and_false, if_neg (by simp)]

/-! What is found behind a command. -/
/-- what the law asks of a command carried out -/
theorem apM_moved {l : List S42} {k : Int} {x : ByteArray} {v o : Int} (h : (apM l k x v o).2 = -3) : (apM l k x v o).1 = [] := by
  have hb := getM_bound l x
  unfold apM at h ⊢
  split at h
  · rename_i hc
    rw [if_pos hc]
    split at h
    · simp only at h; omega
    · split at h
      · simp only at h; omega
      · split at h
        · simp only at h; omega
        · simp only at h; omega
  · rename_i hc
    rw [if_neg hc]
theorem apM_law {l : List S42} {k : Int} {x : ByteArray} {v o : Int} (h : (apM l k x v o).2 ≠ -3) :
    (∀ p ∈ l, p.f0 ≠ x → getM (apM l k x v o).1 p.f0 = p.f1) ∧
    ((apM l k x v o).2 = -2 ∧ getM l x = -1 ∧ (apM l k x v o).1 = l ∧ 8 ≤ l.length ∨
     (apM l k x v o).2 ≠ -2 ∧ (apM l k x v o).2 = getM l x ∧ (k = 1 ∧ getM (apM l k x v o).1 x = getM l x ∨ k = 2 ∧ getM (apM l k x v o).1 x = v ∨ k = 3 ∧ getM (apM l k x v o).1 x = -1 ∨
       k = 4 ∧ (o = getM l x ∧ getM (apM l k x v o).1 x = v ∨ o ≠ getM l x ∧ getM (apM l k x v o).1 x = getM l x))) := by
  have hb := getM_bound l x
  by_cases hc : prB l = true ∧ cmdB k x v o = true ∧ k ≠ 5
  · have e : apM l k x v o = if k = 3 then ((dropM l x).1, getM l x) else if k = 1 ∨ (k = 4 ∧ o ≠ getM l x) then (l, getM l x) else if getM l x = -1 ∧ 8 ≤ l.length then (l, -2) else ((putM l x v).1, getM l x) := if_pos hc
    obtain ⟨hv, hcmd, h5⟩ := hc
    have hc2 := hcmd
    unfold cmdB at hc2
    have hkx : keyB x = true := by
      rw [Bool.and_eq_true, Bool.or_eq_true, Bool.and_eq_true, decide_eq_true_eq] at hc2
      rcases hc2.1 with h | h
      · exact h
      · exact absurd h.1 h5
    by_cases h3 : k = 3
    · rw [if_pos h3] at e
      rw [e]
      obtain ⟨h1, h2⟩ := dropM_get (c := x) hv
      exact ⟨h2, .inr ⟨by show getM l x ≠ -2; omega, rfl, .inr (.inr (.inl ⟨h3, h1⟩))⟩⟩
    · rw [if_neg h3] at e
      by_cases h1 : k = 1 ∨ (k = 4 ∧ o ≠ getM l x)
      · rw [if_pos h1] at e
        rw [e]
        refine ⟨fun p hp _ => getM_mem hv hp, .inr ⟨by show getM l x ≠ -2; omega, rfl, ?_⟩⟩
        rcases h1 with h1 | h1
        · exact .inl ⟨h1, rfl⟩
        · exact .inr (.inr (.inr ⟨h1.1, .inr ⟨h1.2, rfl⟩⟩))
      · rw [if_neg h1] at e
        by_cases h8 : getM l x = -1 ∧ 8 ≤ l.length
        · rw [if_pos h8] at e
          rw [e]
          exact ⟨fun p hp _ => getM_mem hv hp, .inl ⟨rfl, h8.1, rfl, h8.2⟩⟩
        · rw [if_neg h8] at e
          rw [e]
          have hfit : hitM l x = true ∨ l.length < 48 := by
            cases hh : hitM l x with
            | true => exact .inl rfl
            | false =>
              have : getM l x = -1 := by unfold getM; rw [hh, Bool.and_false, if_neg (by simp)]
              exact .inr (by omega)
          have h24 : k = 2 ∨ k = 4 := by
            rw [Bool.and_eq_true] at hc2
            by_cases h2 : k = 2
            · exact .inl h2
            · by_cases h4 : k = 4
              · exact .inr h4
              · have := hc2.2
                rw [if_neg h2, if_neg h4, Bool.and_eq_true, decide_eq_true_eq] at this
                omega
          have hlv : l1B v 0 999 = true := by
            rw [Bool.and_eq_true] at hc2
            rcases h24 with h | h
            · have := hc2.2; rw [if_pos h, Bool.and_eq_true] at this; exact this.1
            · have := hc2.2; rw [if_neg (by omega), if_pos h, Bool.and_eq_true] at this; exact this.1
          obtain ⟨g1, g2⟩ := putM_get hv hkx hlv hfit
          refine ⟨g2, .inr ⟨by show getM l x ≠ -2; omega, rfl, ?_⟩⟩
          rcases h24 with h | h
          · exact .inr (.inl ⟨h, g1⟩)
          · exact .inr (.inr (.inr ⟨h, .inl ⟨Classical.byContradiction fun hne => h1 (.inr ⟨h, hne⟩), g1⟩⟩))
  · exact absurd (congrArg Prod.snd (show apM l k x v o = ([], -3) from if_neg hc)) h

namespace Dw
/-! Eventually: for all large enough numbers of rounds; small lemmas on numbers and lists. -/
def Evn (P : Nat → Prop) : Prop := ∃ K, ∀ k, K ≤ k → P k

theorem Evn.all {P : Nat → Prop} (h : ∀ k, P k) : Evn P := ⟨0, fun k _ => h k⟩

theorem Evn.mp {P Q : Nat → Prop} (hp : Evn P) (hq : Evn fun k => P k → Q k) : Evn Q := by
  obtain ⟨K1, h1⟩ := hp
  obtain ⟨K2, h2⟩ := hq
  exact ⟨max K1 K2, fun k hk => h2 k (by omega) (h1 k (by omega))⟩

theorem Evn.succ {P : Nat → Prop} (h : Evn fun k => P (k + 1)) : Evn P := by
  obtain ⟨K, h⟩ := h
  refine ⟨K + 1, fun k hk => ?_⟩
  obtain ⟨m, rfl⟩ : ∃ m, k = m + 1 := ⟨k - 1, by omega⟩
  exact h m (by omega)

theorem Evn.some {P : Nat → Prop} (h : Evn P) : ∃ k, P k := by
  obtain ⟨K, h⟩ := h
  exact ⟨K, h K (Nat.le_refl K)⟩

theorem w64 {x : Int} (h0 : -9223372036854775808 ≤ x) (h1 : x ≤ 9223372036854775807) : wrap64 x = x := by
  unfold wrap64
  omega

theorem rd_drop {xs : List Int} {j : Nat} (h : j < xs.length) : xs.drop j = rd xs (j : Int) :: xs.drop (j + 1) := by
  rw [List.drop_eq_getElem_cons h]
  simp [rd, List.getD_eq_getElem?_getD, List.getElem?_eq_getElem h]

theorem rd_nat {xs : List Int} {j : Nat} (h : j < xs.length) : rd xs (j : Int) = xs[j] := by
  simp [rd, List.getD_eq_getElem?_getD, List.getElem?_eq_getElem h]

theorem wf64 {x : Int} (h : (Lit.int .i64 x).wf = true) : -9223372036854775808 ≤ x ∧ x ≤ 9223372036854775807 := by
  have h' : (decide (IntKind.i64.min ≤ x) && decide (x ≤ IntKind.i64.max)) = true := h
  rw [Bool.and_eq_true, decide_eq_true_eq, decide_eq_true_eq] at h'
  exact h'

/-! The reader of a code: a pick is in its range; the place goes on by one. -/
def Code (b : List Int) : Prop := b.length ≤ 2000 ∧ ∀ x ∈ b, 0 ≤ x ∧ x ≤ 255

theorem rd_code {b : List Int} (h : Code b) (i : Int) : 0 ≤ rd b i ∧ rd b i ≤ 255 := by
  unfold rd
  rw [List.getD_eq_getElem?_getD]
  by_cases hi : i.toNat < b.length
  · rw [List.getElem?_eq_getElem hi]
    exact h.2 _ (List.getElem_mem hi)
  · rw [List.getElem?_eq_none (by omega)]
    simp

theorem xor_pos (a b : Int) (ha0 : 0 ≤ a) (ha1 : a < 4611686018427387904) (hb0 : 0 ≤ b) (hb1 : b < 4611686018427387904) : 0 ≤ Go.bits .xor .i64 a b := by
  obtain ⟨n, rfl⟩ := Int.eq_ofNat_of_zero_le ha0
  obtain ⟨m, rfl⟩ := Int.eq_ofNat_of_zero_le hb0
  have hn : n < 2 ^ 62 := by omega
  have hm : m < 2 ^ 62 := by omega
  have hx := Nat.xor_lt_two_pow hn hm
  have n64 : n % 2 ^ 64 = n := Nat.mod_eq_of_lt (by omega)
  have m64 : m % 2 ^ 64 = m := Nat.mod_eq_of_lt (by omega)
  have e : Go.bits .xor .i64 (n : Int) (m : Int) = IntKind.i64.wrap ((n ^^^ m : Nat) : Int) := by
    show IntKind.i64.wrap (((BitVec.ofInt 64 (n : Int) ^^^ BitVec.ofInt 64 (m : Int)).toNat : Nat) : Int) = _
    rw [BitVec.ofInt_natCast, BitVec.ofInt_natCast, BitVec.toNat_xor, BitVec.toNat_ofNat, BitVec.toNat_ofNat, n64, m64]
  rw [e, IntKind.wrap_i64]
  omega

theorem spec_pick (b : List Int) (hb : Code b) (p n : Int) (h0 : 0 ≤ p) (h1 : p ≤ 1099511627776) :
    ∃ r, 0 ≤ r ∧ (1 ≤ n → r < n) ∧ (n ≤ 1 → r = 0) ∧ Evn fun k => spec_l20Rd_pick.f k b p n = some (r, p + 1) := by
  have hw : wrap64 (p + 1) = p + 1 := w64 (by omega) (by omega)
  by_cases hn : n < 1
  · refine ⟨0, by omega, by omega, by omega, Evn.succ (Evn.all fun k => ?_)⟩
    unfold spec_l20Rd_pick.f
    rw [if_pos hn, hw]
    simp only [spec_l20Rd_pick.j0]
    rw [if_pos trivial]
  · by_cases hl : b.length = 0
    · refine ⟨0, by omega, by omega, by omega, Evn.succ (Evn.all fun k => ?_)⟩
      unfold spec_l20Rd_pick.f
      rw [if_neg hn, hw, hl]
      simp only [spec_l20Rd_pick.j0]
      rw [if_pos (by rfl)]
    · have hl1 : 1 ≤ (b.length : Int) := by omega
      have hle : ((b.length : Int) == 0) = false := by simpa using hl
      have e1 : wrap64 (p + 1 - 1) = p := by rw [show p + 1 - 1 = p by omega]; exact w64 (by omega) (by omega)
      by_cases hp : p < (b.length : Int)
      · have hr := rd_code hb p
        refine ⟨Int.tmod (rd b p) n, Int.tmod_nonneg n hr.1, fun h => Int.tmod_lt_of_pos _ (by omega), fun h => ?_, Evn.succ (Evn.all fun k => ?_)⟩
        · have : n = 1 := by omega
          subst this
          exact Int.tmod_one _
        · unfold spec_l20Rd_pick.f
          rw [if_neg hn, hw, hle]
          simp only [spec_l20Rd_pick.j0]
          rw [if_neg (by simp), e1, if_pos hp, if_pos h0, if_neg (by omega), w64 (x := rd b p) (by omega) (by omega)]
      · have ei : Int.tmod p (b.length : Int) = p % (b.length : Int) := Int.tmod_eq_emod_of_nonneg h0
        have i0 : 0 ≤ p % (b.length : Int) := Int.emod_nonneg _ (by omega)
        have i1 : p % (b.length : Int) < (b.length : Int) := Int.emod_lt_of_pos _ (by omega)
        have e7 : wrap64 (wrap64 (p * 7) + 3) = p * 7 + 3 := by rw [w64 (x := p * 7) (by omega) (by omega), w64 (by omega) (by omega)]
        have ej : Int.tmod (p * 7 + 3) (b.length : Int) = (p * 7 + 3) % (b.length : Int) := Int.tmod_eq_emod_of_nonneg (by omega)
        have j0 : 0 ≤ (p * 7 + 3) % (b.length : Int) := Int.emod_nonneg _ (by omega)
        have j1 : (p * 7 + 3) % (b.length : Int) < (b.length : Int) := Int.emod_lt_of_pos _ (by omega)
        have eq : Int.tdiv p (b.length : Int) = p / (b.length : Int) := Int.tdiv_eq_ediv_of_nonneg h0
        have q0 : 0 ≤ p / (b.length : Int) := Int.ediv_nonneg h0 (by omega)
        have q1 : p / (b.length : Int) ≤ p := Int.ediv_le_self _ h0
        have hu := rd_code hb (p % (b.length : Int))
        have hv := rd_code hb ((p * 7 + 3) % (b.length : Int))
        have main : ∀ u v q : Int, 0 ≤ u → u ≤ 255 → 0 ≤ v → v ≤ 255 → 0 ≤ q → q ≤ p →
            ∃ x, wrap64 ((wrap64 ((wrap64 ((wrap64 ((wrap64 u) * 131)) + (wrap64 ((wrap64 v) * 1117)))) + (wrap64 (p * 29)))) + (wrap64 ((wrap64 q) * 53))) = x ∧ 0 ≤ x ∧ x < 4611686018427387904 ∧ 0 ≤ wrap64 (Int.tdiv x 64) ∧ wrap64 (Int.tdiv x 64) < 4611686018427387904 := by
          intro u v q u0 u1 v0 v1 q0 q1
          refine ⟨u * 131 + v * 1117 + p * 29 + q * 53, ?_, by omega, by omega, ?_, ?_⟩
          · rw [w64 (x := u) (by omega) (by omega), w64 (x := v) (by omega) (by omega), w64 (x := q) (by omega) (by omega), w64 (x := u * 131) (by omega) (by omega), w64 (x := v * 1117) (by omega) (by omega), w64 (x := p * 29) (by omega) (by omega), w64 (x := q * 53) (by omega) (by omega), w64 (x := u * 131 + v * 1117) (by omega) (by omega), w64 (x := u * 131 + v * 1117 + p * 29) (by omega) (by omega), w64 (by omega) (by omega)]
          all_goals
            rw [Int.tdiv_eq_ediv_of_nonneg (by omega), w64 (by omega) (by omega)]
            omega
        obtain ⟨x, hx, x0, x1, y0, y1⟩ := main _ _ _ hu.1 hu.2 hv.1 hv.2 q0 q1
        refine ⟨Int.tmod (Go.bits .xor .i64 x (wrap64 (Int.tdiv x 64))) n, Int.tmod_nonneg n (xor_pos _ _ x0 x1 y0 y1), fun h => Int.tmod_lt_of_pos _ (by omega), fun h => ?_, Evn.succ (Evn.all fun k => ?_)⟩
        · have : n = 1 := by omega
          subst this
          exact Int.tmod_one _
        · unfold spec_l20Rd_pick.f
          rw [if_neg hn, hw, hle]
          simp only [spec_l20Rd_pick.j0]
          rw [if_neg (by simp), e1, if_neg hp, if_neg (by omega), ei, if_pos i0, if_pos i1, e7, ej, if_pos j0, if_pos j1, if_neg (by omega), eq, hx]

theorem spec_odd (b : List Int) (hb : Code b) (p n : Int) (h0 : 0 ≤ p) (h1 : p ≤ 1099511627776) (hn : n ≤ 1000000) :
    ∃ r q, p ≤ q ∧ q ≤ p + 1 ∧ (n ≤ 0 → r = false) ∧ Evn fun k => spec_l20Rd_odd.f k b p n = some (r, q) := by
  by_cases h : n > 0
  · obtain ⟨r, _, _, _, e⟩ := spec_pick b hb p n h0 h1
    refine ⟨r == wrap64 (n - 1), p + 1, by omega, by omega, by omega, Evn.mp e (Evn.all fun k e => ?_)⟩
    unfold spec_l20Rd_odd.f
    rw [if_pos h, e]
    rfl
  · refine ⟨false, p, by omega, by omega, fun _ => rfl, Evn.all fun k => ?_⟩
    unfold spec_l20Rd_odd.f
    rw [if_neg h]

theorem spec_open (l : List Int) (hl : ∀ x ∈ l, (Lit.int .u8 x).wf = true) : ∃ b, Code b ∧ spec_l20Open.f l = some (b, 0) := by
  have hx : ∀ x ∈ l, 0 ≤ x ∧ x ≤ 255 := fun x hx => by
    have h' : (decide (IntKind.u8.min ≤ x) && decide (x ≤ IntKind.u8.max)) = true := hl x hx
    rw [Bool.and_eq_true, decide_eq_true_eq, decide_eq_true_eq] at h'
    exact h'
  unfold spec_l20Open.f
  by_cases h : (l.length : Int) > 2000
  · refine ⟨l.take 2000, ⟨by rw [List.length_take]; omega, fun x hm => hx x (List.mem_of_mem_take hm)⟩, ?_⟩
    rw [if_pos h, if_pos (by omega)]
  · exact ⟨l, ⟨by omega, hx⟩, by rw [if_neg h]⟩

/-! What a reader draws: a value with what is known of it, and the place behind it, not far. -/
def Dr {α : Type} (g : Nat → Option (α × Int)) (p c : Int) (P : α → Prop) : Prop := ∃ r q, p ≤ q ∧ q ≤ p + c ∧ P r ∧ Evn fun k => g k = some (r, q)

theorem Dr.bind {α β : Type} {g : Nat → Option (α × Int)} {H : Nat → α × Int → Option (β × Int)} {p c C : Int} {P : α → Prop} {Q : β → Prop}
    (h1 : Dr g p c P) (h2 : ∀ bt : α × Int, P bt.1 → p ≤ bt.2 → bt.2 ≤ p + c → Dr (fun k => H k bt) bt.2 (C - c) Q) : Dr (fun k => (g k).bind (H k)) p C Q := by
  obtain ⟨r, q, hq0, hq1, hr, e⟩ := h1
  obtain ⟨r', q', h0, h1, hr', e'⟩ := h2 (r, q) hr hq0 hq1
  refine ⟨r', q', by simp only at h0; omega, by simp only at h1; omega, hr', Evn.mp e (Evn.mp e' (Evn.all fun k e' e => ?_))⟩
  dsimp only
  rw [e]
  exact e'

theorem Dr.pure {α : Type} {p c : Int} {P : α → Prop} {r : α} (hr : P r) (hc : 0 ≤ c) : Dr (fun _ => some (r, p)) p c P :=
  ⟨r, p, by omega, by omega, hr, Evn.all fun _ => rfl⟩

theorem Dr.ite {α : Type} {g h : Nat → Option (α × Int)} {p c : Int} {P : α → Prop} {b : Prop} [Decidable b] (h1 : b → Dr g p c P) (h2 : ¬ b → Dr h p c P) : Dr (fun k => if b then g k else h k) p c P := by
  by_cases hb : b
  · simpa [hb] using h1 hb
  · simpa [hb] using h2 hb

/-- a value that is computed on the way, by a function that draws nothing -/
theorem Dr.run {α β : Type} {g : Nat → Option α} {H : Nat → α → Option (β × Int)} {p c : Int} {Q : β → Prop} {r : α} (h1 : Evn fun k => g k = some r) (h2 : Dr (fun k => H k r) p c Q) : Dr (fun k => (g k).bind (H k)) p c Q := by
  obtain ⟨r', q', h0, h1', hr', e'⟩ := h2
  refine ⟨r', q', h0, h1', hr', Evn.mp h1 (Evn.mp e' (Evn.all fun k e' e => ?_))⟩
  dsimp only
  rw [e]
  exact e'

theorem Dr.some_bind {α β : Type} {H : Nat → α → Option (β × Int)} {p c : Int} {Q : β → Prop} {r : α} (h2 : Dr (fun k => H k r) p c Q) : Dr (fun k => (some r).bind (H k)) p c Q := h2

theorem Dr.le {α : Type} {g : Nat → Option (α × Int)} {p c C : Int} {P Q : α → Prop} (h : Dr g p c P) (hc : c ≤ C) (hp : ∀ r, P r → Q r) : Dr g p C Q := by
  obtain ⟨r, q, h0, h1, hr, e⟩ := h
  exact ⟨r, q, h0, by omega, hp r hr, e⟩

theorem Dr.congr {α : Type} {g h : Nat → Option (α × Int)} {p c : Int} {P : α → Prop} (hg : Dr h p c P) (e : ∀ k, g k = h k) : Dr g p c P := by
  obtain ⟨r, q, h0, h1, hr, e'⟩ := hg
  exact ⟨r, q, h0, h1, hr, Evn.mp e' (Evn.all fun k e' => (e k).trans e')⟩

theorem Dr.succ {α : Type} {g : Nat → Option (α × Int)} {p c : Int} {P : α → Prop} (h : Dr (fun k => g (k + 1)) p c P) : Dr g p c P := by
  obtain ⟨r, q, h0, h1, hr, e⟩ := h
  exact ⟨r, q, h0, h1, hr, Evn.succ e⟩

/-- one of a list's values, by an index that was drawn -/
theorem Dr.elt {p c : Int} {P : Int → Prop} {xs : List Int} {i : Int} (h0 : 0 ≤ i) (h1 : i < (xs.length : Int)) (hP : ∀ x ∈ xs, P x) (hc : 0 ≤ c) : Dr (fun _ => if 0 ≤ i then (if i < (xs.length : Int) then some (rd xs i, p) else none) else none) p c P := by
  refine ⟨rd xs i, p, by omega, by omega, ?_, Evn.all fun k => by rw [if_pos h0, if_pos h1]⟩
  obtain ⟨j, rfl⟩ : ∃ j : Nat, i = (j : Int) := ⟨i.toNat, by omega⟩
  rw [rd_nat (by omega)]
  exact hP _ (List.getElem_mem _)

def InPick (n r : Int) : Prop := 0 ≤ r ∧ (1 ≤ n → r < n) ∧ (n ≤ 1 → r = 0)

theorem dr_pick {b : List Int} (hb : Code b) {p : Int} (n : Int) (h0 : 0 ≤ p) (h1 : p ≤ 1099511627776) : Dr (fun k => spec_l20Rd_pick.f k b p n) p 1 (InPick n) := by
  obtain ⟨r, a, c, d, e⟩ := spec_pick b hb p n h0 h1
  exact ⟨r, p + 1, by omega, by omega, ⟨a, c, d⟩, e⟩

theorem dr_odd {b : List Int} (hb : Code b) {p : Int} (n : Int) (h0 : 0 ≤ p) (h1 : p ≤ 1099511627776) (hn : n ≤ 1000000) : Dr (fun k => spec_l20Rd_odd.f k b p n) p 1 (fun r => n ≤ 0 → r = false) := by
  obtain ⟨r, q, a, c, d, e⟩ := spec_odd b hb p n h0 h1 hn
  exact ⟨r, q, a, c, d, e⟩

/-- What is drawn at the end: no place behind it. -/
def Drw {α : Type} (g : Nat → Option α) (P : α → Prop) : Prop := ∃ r, P r ∧ Evn fun k => g k = some r

theorem Drw.bind {α β : Type} {g : Nat → Option (α × Int)} {H : Nat → α × Int → Option β} {p c : Int} {P : α → Prop} {Q : β → Prop}
    (h1 : Dr g p c P) (h2 : ∀ bt : α × Int, P bt.1 → p ≤ bt.2 → bt.2 ≤ p + c → Drw (fun k => H k bt) Q) : Drw (fun k => (g k).bind (H k)) Q := by
  obtain ⟨r, q, hq0, hq1, hr, e⟩ := h1
  obtain ⟨r', hr', e'⟩ := h2 (r, q) hr hq0 hq1
  refine ⟨r', hr', Evn.mp e (Evn.mp e' (Evn.all fun k e' e => ?_))⟩
  dsimp only
  rw [e]
  exact e'

theorem Drw.pure {α : Type} {P : α → Prop} {r : α} (hr : P r) : Drw (fun _ => some r) P := ⟨r, hr, Evn.all fun _ => rfl⟩

theorem Drw.ite {α : Type} {g h : Nat → Option α} {P : α → Prop} {b : Prop} [Decidable b] (h1 : b → Drw g P) (h2 : ¬ b → Drw h P) : Drw (fun k => if b then g k else h k) P := by
  by_cases hb : b
  · simpa [hb] using h1 hb
  · simpa [hb] using h2 hb

theorem Drw.run {α β : Type} {g : Nat → Option α} {H : Nat → α → Option β} {Q : β → Prop} {r : α} (h1 : Evn fun k => g k = some r) (h2 : Drw (fun k => H k r) Q) : Drw (fun k => (g k).bind (H k)) Q := by
  obtain ⟨r', hr', e'⟩ := h2
  refine ⟨r', hr', Evn.mp h1 (Evn.mp e' (Evn.all fun k e' e => ?_))⟩
  dsimp only
  rw [e]
  exact e'

theorem Drw.drw {α β : Type} {g : Nat → Option α} {H : Nat → α → Option β} {P : α → Prop} {Q : β → Prop} (h1 : Drw g P) (h2 : ∀ r, P r → Drw (fun k => H k r) Q) : Drw (fun k => (g k).bind (H k)) Q := by
  obtain ⟨r, hr, e⟩ := h1
  exact Drw.run e (h2 r hr)

theorem Drw.some_bind {α β : Type} {H : Nat → α → Option β} {Q : β → Prop} {r : α} (h2 : Drw (fun k => H k r) Q) : Drw (fun k => (some r).bind (H k)) Q := h2

theorem Drw.congr {α : Type} {g h : Nat → Option α} {P : α → Prop} (hg : Drw h P) (e : ∀ k, g k = h k) : Drw g P := by
  obtain ⟨r, hr, e'⟩ := hg
  exact ⟨r, hr, Evn.mp e' (Evn.all fun k e' => (e k).trans e')⟩

theorem Drw.le {α : Type} {g : Nat → Option α} {P Q : α → Prop} (h : Drw g P) (hp : ∀ r, P r → Q r) : Drw g Q := by
  obtain ⟨r, hr, e⟩ := h
  exact ⟨r, hp r hr, e⟩

/-! The same where the place lies deeper in what is drawn. -/
def Dp {τ : Type} (pl : τ → Int) (g : Nat → Option τ) (p c : Int) (P : τ → Prop) : Prop := ∃ r, p ≤ pl r ∧ pl r ≤ p + c ∧ P r ∧ Evn fun k => g k = some r

theorem Dr.bindP {α τ : Type} {pl : τ → Int} {g : Nat → Option (α × Int)} {H : Nat → α × Int → Option τ} {p c C : Int} {P : α → Prop} {Q : τ → Prop}
    (h1 : Dr g p c P) (h2 : ∀ bt : α × Int, P bt.1 → p ≤ bt.2 → bt.2 ≤ p + c → Dp pl (fun k => H k bt) bt.2 (C - c) Q) : Dp pl (fun k => (g k).bind (H k)) p C Q := by
  obtain ⟨r, q, hq0, hq1, hr, e⟩ := h1
  obtain ⟨r', h0, h1, hr', e'⟩ := h2 (r, q) hr hq0 hq1
  refine ⟨r', by simp only at h0; omega, by simp only at h1; omega, hr', Evn.mp e (Evn.mp e' (Evn.all fun k e' e => ?_))⟩
  dsimp only
  rw [e]
  exact e'

theorem Dp.bind {σ τ : Type} {pl : σ → Int} {pl' : τ → Int} {g : Nat → Option σ} {H : Nat → σ → Option τ} {p c C : Int} {P : σ → Prop} {Q : τ → Prop}
    (h1 : Dp pl g p c P) (h2 : ∀ r : σ, P r → p ≤ pl r → pl r ≤ p + c → Dp pl' (fun k => H k r) (pl r) (C - c) Q) : Dp pl' (fun k => (g k).bind (H k)) p C Q := by
  obtain ⟨r, hq0, hq1, hr, e⟩ := h1
  obtain ⟨r', h0, h1, hr', e'⟩ := h2 r hr hq0 hq1
  refine ⟨r', by omega, by omega, hr', Evn.mp e (Evn.mp e' (Evn.all fun k e' e => ?_))⟩
  dsimp only
  rw [e]
  exact e'

theorem Dp.bindR {σ β : Type} {pl : σ → Int} {g : Nat → Option σ} {H : Nat → σ → Option (β × Int)} {p c C : Int} {P : σ → Prop} {Q : β → Prop}
    (h1 : Dp pl g p c P) (h2 : ∀ r : σ, P r → p ≤ pl r → pl r ≤ p + c → Dr (fun k => H k r) (pl r) (C - c) Q) : Dr (fun k => (g k).bind (H k)) p C Q := by
  obtain ⟨r, hq0, hq1, hr, e⟩ := h1
  obtain ⟨r', q', h0, h1, hr', e'⟩ := h2 r hr hq0 hq1
  refine ⟨r', q', by omega, by omega, hr', Evn.mp e (Evn.mp e' (Evn.all fun k e' e => ?_))⟩
  dsimp only
  rw [e]
  exact e'

theorem Dp.pure {τ : Type} {pl : τ → Int} {p c : Int} {P : τ → Prop} {r : τ} (hp : pl r = p) (hr : P r) (hc : 0 ≤ c) : Dp pl (fun _ => some r) p c P :=
  ⟨r, by omega, by omega, hr, Evn.all fun _ => rfl⟩

theorem Dp.ite {τ : Type} {pl : τ → Int} {g h : Nat → Option τ} {p c : Int} {P : τ → Prop} {b : Prop} [Decidable b] (h1 : b → Dp pl g p c P) (h2 : ¬ b → Dp pl h p c P) : Dp pl (fun k => if b then g k else h k) p c P := by
  by_cases hb : b
  · simpa [hb] using h1 hb
  · simpa [hb] using h2 hb

theorem Dp.run {α τ : Type} {pl : τ → Int} {g : Nat → Option α} {H : Nat → α → Option τ} {p c : Int} {Q : τ → Prop} {r : α} (h1 : Evn fun k => g k = some r) (h2 : Dp pl (fun k => H k r) p c Q) : Dp pl (fun k => (g k).bind (H k)) p c Q := by
  obtain ⟨r', h0, h1', hr', e'⟩ := h2
  refine ⟨r', h0, h1', hr', Evn.mp h1 (Evn.mp e' (Evn.all fun k e' e => ?_))⟩
  dsimp only
  rw [e]
  exact e'

theorem Dp.some_bind {α τ : Type} {pl : τ → Int} {H : Nat → α → Option τ} {p c : Int} {Q : τ → Prop} {r : α} (h2 : Dp pl (fun k => H k r) p c Q) : Dp pl (fun k => (some r).bind (H k)) p c Q := h2

theorem Dp.le {τ : Type} {pl : τ → Int} {g : Nat → Option τ} {p c C : Int} {P Q : τ → Prop} (h : Dp pl g p c P) (hc : c ≤ C) (hp : ∀ r, P r → Q r) : Dp pl g p C Q := by
  obtain ⟨r, h0, h1, hr, e⟩ := h
  exact ⟨r, h0, by omega, hp r hr, e⟩

theorem Dp.congr {τ : Type} {pl : τ → Int} {g h : Nat → Option τ} {p c : Int} {P : τ → Prop} (hg : Dp pl h p c P) (e : ∀ k, g k = h k) : Dp pl g p c P := by
  obtain ⟨r, h0, h1, hr, e'⟩ := hg
  exact ⟨r, h0, h1, hr, Evn.mp e' (Evn.all fun k e' => (e k).trans e')⟩

theorem Dp.succ {τ : Type} {pl : τ → Int} {g : Nat → Option τ} {p c : Int} {P : τ → Prop} (h : Dp pl (fun k => g (k + 1)) p c P) : Dp pl g p c P := by
  obtain ⟨r, h0, h1, hr, e⟩ := h
  exact ⟨r, h0, h1, hr, Evn.succ e⟩

theorem Drw.bindP {σ β : Type} {pl : σ → Int} {g : Nat → Option σ} {H : Nat → σ → Option β} {p c : Int} {P : σ → Prop} {Q : β → Prop}
    (h1 : Dp pl g p c P) (h2 : ∀ r : σ, P r → p ≤ pl r → pl r ≤ p + c → Drw (fun k => H k r) Q) : Drw (fun k => (g k).bind (H k)) Q := by
  obtain ⟨r, hq0, hq1, hr, e⟩ := h1
  obtain ⟨r', hr', e'⟩ := h2 r hr hq0 hq1
  refine ⟨r', hr', Evn.mp e (Evn.mp e' (Evn.all fun k e' e => ?_))⟩
  dsimp only
  rw [e]
  exact e'

theorem rdOf_mem {α : Type} (d : α) {xs : List α} {i : Int} (h0 : 0 ≤ i) (h1 : i < (xs.length : Int)) : rdOf d xs i ∈ xs := by
  obtain ⟨j, rfl⟩ : ∃ j : Nat, i = (j : Int) := ⟨i.toNat, by omega⟩
  have hj : j < xs.length := by omega
  unfold rdOf
  rw [Int.toNat_natCast, List.getD_eq_getElem?_getD, List.getElem?_eq_getElem hj]
  exact List.getElem_mem hj

/-- one of a list's values, by an index that was drawn -/
theorem Dr.eltOf {α : Type} (d : α) {p c : Int} {P : α → Prop} {xs : List α} {i : Int} (h0 : 0 ≤ i) (h1 : i < (xs.length : Int)) (hP : ∀ x ∈ xs, P x) (hc : 0 ≤ c) :
    Dr (fun _ => if 0 ≤ i then (if i < (xs.length : Int) then some (rdOf d xs i, p) else none) else none) p c P :=
  ⟨rdOf d xs i, p, by omega, by omega, hP _ (rdOf_mem d h0 h1), Evn.all fun k => by rw [if_pos h0, if_pos h1]⟩

/-! Strings and their bytes. -/
theorem str_nil : strOfNums [] = (⟨#[]⟩ : ByteArray) := rfl
theorem ba_ext {a b : ByteArray} (h : a.data.toList = b.data.toList) : a = b := by
  cases a; cases b; simp only [ByteArray.mk.injEq]; exact Array.toList_inj.mp h
theorem ba_append (a b : ByteArray) : (a ++ b).data.toList = a.data.toList ++ b.data.toList := by
  rw [ByteArray.data_append, Array.toList_append]
theorem str_append (xs ys : List Int) : strOfNums (xs ++ ys) = strOfNums xs ++ strOfNums ys := by
  refine ba_ext ?_
  rw [ba_append, strOfNums_data, strOfNums_data, strOfNums_data, List.map_append]
theorem str_bytes (s : ByteArray) : strOfNums (bytesOf s) = s := by
  refine ba_ext ?_
  rw [strOfNums_data, bytesOf, List.map_map]
  exact (List.map_congr_left (g := id) fun b _ => by simp).trans (List.map_id _)
theorem bytes_str {xs : List Int} (h : ∀ x ∈ xs, 0 ≤ x ∧ x ≤ 255) : bytesOf (strOfNums xs) = xs := by
  rw [bytesOf, strOfNums_data, List.map_map]
  refine (List.map_congr_left (g := id) fun x hx => ?_).trans (List.map_id _)
  have := h x hx
  simp only [Function.comp, id]
  rw [UInt8.toNat_ofNat_of_lt' (by simp [UInt8.size]; omega)]
  omega
theorem ba_toList (s : ByteArray) : s.toList = s.data.toList := Lib.toList_data s
theorem ba_toList_inj {s t : ByteArray} : s.toList = t.toList ↔ s = t := by
  refine ⟨fun h => ba_ext ?_, fun h => by rw [h]⟩
  rwa [ba_toList, ba_toList] at h
theorem bytes_byte (s : ByteArray) : ∀ x ∈ bytesOf s, 0 ≤ x ∧ x ≤ 255 := by
  intro x hx
  unfold bytesOf at hx
  obtain ⟨b, _, rfl⟩ := List.mem_map.mp hx
  have := b.toNat_lt
  omega

/-! The model of keys. -/
def lowB (x : Int) : Bool := decide (97 ≤ x) && decide (x ≤ 122)
def keyB (s : ByteArray) : Bool := decide (1 ≤ s.size) && decide (s.size ≤ 4) && (bytesOf s).all lowB
theorem bt_drop' {s : ByteArray} {j : Nat} (h : j < s.size) : (bytesOf s).drop j = bt s (j : Int) :: (bytesOf s).drop (j + 1) := by
  rw [rd_drop (by rw [bytesOf_length]; exact h), rd_bytesOf]
theorem bytesOf_tail (s : ByteArray) : bytesOf (s.extract 1 s.size) = (bytesOf s).drop 1 := by
  unfold bytesOf
  rw [← List.map_drop]
  refine congrArg _ ?_
  rw [ByteArray.data_extract, Array.toList_extract]
  rw [List.extract_eq_take_drop, List.take_of_length_le (by rw [List.length_drop, data_length]; omega)]
theorem nil_iff (s : ByteArray) : s.toList = ([] : List UInt8) ↔ s.size = 0 := by
  rw [ba_toList]
  refine ⟨fun h => ?_, fun h => ?_⟩
  · have := data_length s
    rw [h] at this
    exact this.symm
  · exact List.eq_nil_of_length_eq_zero (by rw [data_length]; exact h)

theorem dr_keyl {b : List Int} (hb : Code b) (m : Nat) : ∀ (s : ByteArray) (p : Int), 0 ≤ p → p + (m : Int) ≤ 1099511627776 → s.size + m ≤ 4 → (bytesOf s).all lowB = true →
    Dr (fun k => spec_l20Key.l0 k s (m : Int) b p) p (m : Int) (fun r => r.size = s.size + m ∧ (bytesOf r).all lowB = true) := by
  induction m with
  | zero =>
    intro s p h0 h1 hs hl
    refine Dr.succ (Dr.congr ?_ fun k => spec_l20Key.l0.eq_2 ..)
    exact Dr.ite (fun h => absurd h (by omega)) fun _ => Dr.pure ⟨by omega, hl⟩ (by omega)
  | succ m ih =>
    intro s p h0 h1 hs hl
    refine Dr.succ (Dr.congr ?_ fun k => spec_l20Key.l0.eq_2 ..)
    refine Dr.ite (fun _ => ?_) fun h => absurd (show ((m + 1 : Nat) : Int) > 0 by omega) h
    refine Dr.bind (dr_pick hb 4 (by omega) (by omega)) fun bt hr _ _ => Dr.some_bind (Dr.ite (fun _ => ?_) fun h => absurd (show s.size + (strOfNums [wrap64 (97 + bt.1) % 256]).size ≤ 9223372036854775807 by rw [strOfNums_size]; simp only [List.length_cons, List.length_nil]; omega) h)
    have hr0 := hr.1
    have hr1 := hr.2.1 (by omega)
    have hw : wrap64 (97 + bt.1) % 256 = 97 + bt.1 := by rw [w64 (by omega) (by omega)]; omega
    rw [hw, show wrap64 (((m + 1 : Nat) : Int) - 1) = (m : Int) by rw [w64 (by omega) (by omega)]; omega]
    have hsz : (s ++ strOfNums [97 + bt.1]).size = s.size + 1 := by rw [ByteArray.size_append, strOfNums_size]; rfl
    have hbs : bytesOf (s ++ strOfNums [97 + bt.1]) = bytesOf s ++ [97 + bt.1] := by
      rw [show bytesOf (s ++ strOfNums [97 + bt.1]) = bytesOf s ++ bytesOf (strOfNums [97 + bt.1]) by unfold bytesOf; rw [ba_append, List.map_append], bytes_str (fun x hx => by simp at hx; omega)]
    refine Dr.le (ih _ bt.2 (by omega) (by omega) (by omega) ?_) (by omega) fun r hr => ⟨by rw [hr.1, hsz]; omega, hr.2⟩
    rw [hbs, List.all_append, hl]
    simp only [List.all_cons, List.all_nil, lowB, Bool.true_and, Bool.and_true]
    rw [decide_eq_true (by omega), decide_eq_true (by omega)]
    rfl

theorem dr_key {b : List Int} (hb : Code b) {p : Int} (n : Int) (h0 : 0 ≤ p) (h1 : p ≤ 1099511000000) (hn : n ≤ 1000000) :
    Dr (fun k => spec_l20Key.f k b p n) p 6 (fun s => s.size ≤ 5 ∧ (n ≤ 0 → keyB s = true)) := by
  unfold spec_l20Key.f
  refine Dr.bind (dr_odd hb n (by omega) (by omega) hn) fun bt ho _ _ => Dr.ite (fun ht => ?_) (fun _ => ?_)
  · refine Dr.some_bind (Dr.bind (dr_pick hb 6 (by omega) (by omega)) fun bt2 hr _ _ => Dr.eltOf _ hr.1 (hr.2.1 (by omega)) (fun x hx => ⟨?_, fun hn0 => ?_⟩) (by omega))
    · simp only [List.mem_cons, List.not_mem_nil, or_false] at hx
      rcases hx with rfl | rfl | rfl | rfl | rfl | rfl <;> decide
    · rw [ho hn0] at ht
      cases ht
  · refine Dr.bind (dr_pick hb 12 (by omega) (by omega)) fun bt2 _ _ _ => Dr.ite (fun _ => ?_) (fun _ => ?_)
    · refine Dr.some_bind (Dr.bind (dr_pick hb 5 (by omega) (by omega)) fun bt3 hr _ _ => Dr.eltOf _ hr.1 (hr.2.1 (by omega)) (fun x hx => ?_) (by omega))
      simp only [List.mem_cons, List.not_mem_nil, or_false] at hx
      rcases hx with rfl | rfl | rfl | rfl | rfl <;> exact ⟨by decide, fun _ => by decide +kernel⟩
    · refine Dr.bind (dr_pick hb 2 (by omega) (by omega)) fun bt3 hr _ _ => ?_
      have hr0 := hr.1
      have hr1 := hr.2.1 (by omega)
      obtain ⟨m, hm⟩ : ∃ m : Nat, wrap64 (1 + bt3.1) = (m : Int) := ⟨(1 + bt3.1).toNat, by rw [w64 (by omega) (by omega)]; omega⟩
      rw [hm]
      rw [w64 (by omega) (by omega)] at hm
      refine Dr.le (dr_keyl hb m ⟨#[]⟩ bt3.2 (by omega) (by omega) (by have : (⟨#[]⟩ : ByteArray).size = 0 := rfl; omega) rfl) (by omega) fun r hr => ?_
      have h00 : (⟨#[]⟩ : ByteArray).size = 0 := rfl
      refine ⟨by omega, fun _ => ?_⟩
      unfold keyB
      rw [hr.2, decide_eq_true (by omega), decide_eq_true (by omega)]
      rfl

/-! The model of commands. -/
def valB (x : Int) : Bool := decide (0 ≤ x ∧ x ≤ 999)
def cmdB (kind : Int) (key : ByteArray) (value old : Int) : Bool :=
  (keyB key || (decide (kind = 5) && decide (key.size = 0))) &&
  (if kind = 2 then valB value && decide (old = 0) else if kind = 4 then valB value && (decide (old = -1) || valB old) else decide (1 ≤ kind ∧ kind ≤ 5) && (decide (value = 0) && decide (old = 0)))
theorem nil_dec (s : ByteArray) : decide (s.toList = ([] : List UInt8)) = decide (s.size = 0) := decide_eq_decide.mpr (nil_iff s)

theorem dr_value {b : List Int} (hb : Code b) {p : Int} (n : Int) (h0 : 0 ≤ p) (h1 : p ≤ 1099511000000) (hn : n ≤ 1000000) :
    Dr (fun k => spec_l20Value.f k b p n) p 3 (fun v => -1 ≤ v ∧ v ≤ 1000 ∧ (n ≤ 0 → 0 ≤ v ∧ v ≤ 999)) := by
  unfold spec_l20Value.f
  refine Dr.bind (dr_odd hb n (by omega) (by omega) hn) fun bt ho _ _ => Dr.ite (fun ht => ?_) (fun _ => ?_)
  · refine Dr.some_bind (Dr.bind (dr_pick hb 2 (by omega) (by omega)) fun bt2 hr _ _ => Dr.elt hr.1 (hr.2.1 (by omega)) (fun x hx => ?_) (by omega))
    simp only [List.mem_cons, List.not_mem_nil, or_false] at hx
    refine ⟨by omega, by omega, fun hn0 => ?_⟩
    rw [ho hn0] at ht
    cases ht
  · refine Dr.bind (dr_pick hb 20 (by omega) (by omega)) fun bt2 hr2 _ _ => Dr.some_bind (Dr.bind (dr_pick hb 9 (by omega) (by omega)) fun bt3 hr _ _ => ?_)
    have a := hr.1
    have c := hr.2.1 (by omega)
    have d := hr2.1
    have e := hr2.2.1 (by omega)
    refine Dr.elt ?_ ?_ (fun x hx => ?_) (by omega)
    · rw [Int.tdiv_eq_ediv_of_nonneg a, w64 (by omega) (by omega)]; omega
    · rw [Int.tdiv_eq_ediv_of_nonneg a, w64 (by omega) (by omega)]; simp only [List.length_cons, List.length_nil]; omega
    · simp only [List.mem_cons, List.not_mem_nil, or_false] at hx
      refine ⟨by omega, by omega, fun _ => by omega⟩

def cmdPl (r : Int × ByteArray × Int × Int × Int) : Int := r.2.2.2.2
def cmdOk (r : Int × ByteArray × Int × Int × Int) : Prop := cmdB r.1 r.2.1 r.2.2.1 r.2.2.2.1 = true
theorem cmdB_mk {kind value old : Int} {key : ByteArray} (hk : keyB key = true) (h : (kind = 1 ∨ kind = 3 ∨ kind = 5) ∧ value = 0 ∧ old = 0 ∨ kind = 2 ∧ (0 ≤ value ∧ value ≤ 999) ∧ old = 0 ∨ kind = 4 ∧ (0 ≤ value ∧ value ≤ 999) ∧ (-1 ≤ old ∧ old ≤ 999)) : cmdB kind key value old = true := by
  unfold cmdB valB
  rw [hk, Bool.true_or, Bool.true_and]
  rcases h with ⟨h, rfl, rfl⟩ | ⟨rfl, h, rfl⟩ | ⟨rfl, h, ho⟩
  · rw [if_neg (by omega), if_neg (by omega), decide_eq_true (by omega)]
    rfl
  · rw [if_pos rfl, decide_eq_true h]
    rfl
  · rw [if_neg (by omega), if_pos rfl, decide_eq_true h, ← Bool.decide_or, decide_eq_true (by omega)]
    rfl

theorem dr_cmdj {b : List Int} (hb : Code b) {p : Int} (key : ByteArray) (h0 : 0 ≤ p) (h1 : p ≤ 1099510500000) (hs : key.size ≤ 5) :
    Dp cmdPl (fun k => spec_l20Cmd.j0 k key b p) p 5 (fun r => r.2.1.size ≤ 5 ∧ (keyB key = true → cmdOk r ∧ r.1 ≠ 5)) := by
  refine Dp.succ (Dp.congr ?_ fun k => spec_l20Cmd.j0.eq_2 ..)
  refine Dr.bindP (dr_pick hb 8 (by omega) (by omega)) fun bt _ _ _ => Dp.ite (fun _ => ?_) fun _ => Dp.ite (fun _ => ?_) fun _ => Dp.ite (fun _ => ?_) fun _ => ?_
  · exact Dp.pure rfl ⟨hs, fun hk => ⟨cmdB_mk hk (.inl ⟨.inl rfl, rfl, rfl⟩), by simp⟩⟩ (by omega)
  · exact Dp.pure rfl ⟨hs, fun hk => ⟨cmdB_mk hk (.inl ⟨.inr (.inl rfl), rfl, rfl⟩), by simp⟩⟩ (by omega)
  · refine Dr.bindP (dr_pick hb 5 (by omega) (by omega)) fun bt2 hr2 _ _ => Dr.bindP (dr_pick hb 5 (by omega) (by omega)) fun bt3 hr3 _ _ => ?_
    have a := hr2.1
    have c := hr2.2.1 (by omega)
    have d := hr3.1
    have e := hr3.2.1 (by omega)
    refine Dp.pure rfl ⟨hs, fun hk => ⟨cmdB_mk hk (.inr (.inr ⟨rfl, by dsimp only; omega, ?_⟩)), by simp⟩⟩ (by omega)
    dsimp only
    rw [w64 (by omega) (by omega)]
    omega
  · refine Dr.bindP (dr_value hb 0 (by omega) (by omega) (by omega)) fun bt2 hr2 _ _ => ?_
    have a := hr2.2.2 (by omega)
    refine Dp.pure rfl ⟨hs, fun hk => ⟨cmdB_mk hk (.inr (.inl ⟨rfl, ?_, rfl⟩)), by simp⟩⟩ (by omega)
    dsimp only
    rw [Int.tmod_eq_emod_of_nonneg a.1]
    omega

theorem dr_cmd {b : List Int} (hb : Code b) {p : Int} (n : Int) (h0 : 0 ≤ p) (h1 : p ≤ 1099510000000) (hn : n ≤ 1000000) :
    Dp cmdPl (fun k => spec_l20Cmd.f k b p n) p 20 (fun r => r.2.1.size ≤ 5 ∧ (n ≤ 0 → cmdOk r ∧ r.1 ≠ 5)) := by
  unfold spec_l20Cmd.f
  refine Dr.bindP (dr_odd hb n (by omega) (by omega) hn) fun bt ho _ _ => Dp.ite (fun ht => ?_) (fun _ => ?_)
  · refine Dp.some_bind (Dr.bindP (dr_pick hb 10 (by omega) (by omega)) fun bt2 hr _ _ => ?_)
    refine Dp.ite (fun h0 => Dp.ite (fun h1 => Dp.pure rfl ⟨?_, fun hn0 => ?_⟩ (by omega)) fun h => absurd (hr.2.1 (by omega)) h) fun h => absurd hr.1 h
    · have hm : ∀ x : S31, x ∈ ([(⟨0, (⟨#[]⟩ : ByteArray), 0, 0⟩ : S31), (⟨1, (⟨#[]⟩ : ByteArray), 0, 0⟩ : S31), (⟨1, (⟨#[98]⟩ : ByteArray), 1, 0⟩ : S31), (⟨2, (⟨#[98]⟩ : ByteArray), 1000, 0⟩ : S31), (⟨2, (⟨#[98]⟩ : ByteArray), 0, 1⟩ : S31), (⟨4, (⟨#[98]⟩ : ByteArray), 0, (-2)⟩ : S31), (⟨4, (⟨#[98]⟩ : ByteArray), (-1), 0⟩ : S31), (⟨6, (⟨#[98]⟩ : ByteArray), 0, 0⟩ : S31), (⟨3, (⟨#[65]⟩ : ByteArray), 0, 0⟩ : S31), (⟨5, (⟨#[98, 49]⟩ : ByteArray), 0, 0⟩ : S31)] : List S31) → x.f1.size ≤ 5 := fun x hx => by
        simp only [List.mem_cons, List.not_mem_nil, or_false] at hx
        rcases hx with rfl | rfl | rfl | rfl | rfl | rfl | rfl | rfl | rfl | rfl <;> decide
      exact hm _ (rdOf_mem z31 h0 h1)
    · rw [ho hn0] at ht
      cases ht
  · refine Dr.bindP (dr_key hb 0 (by omega) (by omega) (by omega)) fun bt2 hk _ _ => Dr.bindP (dr_pick hb 2 (by omega) (by omega)) fun bt3 _ _ _ => Dp.ite (fun _ => ?_) (fun _ => ?_)
    · refine Dp.some_bind (Dr.bindP (dr_pick hb 4 (by omega) (by omega)) fun bt4 hr _ _ => ?_)
      refine Dp.ite (fun h0 => Dp.ite (fun h1 => ?_) fun h => absurd (hr.2.1 (by omega)) h) fun h => absurd hr.1 h
      have hm : ∀ x : ByteArray, x ∈ ([(⟨#[98]⟩ : ByteArray), (⟨#[99]⟩ : ByteArray), (⟨#[100]⟩ : ByteArray), (⟨#[109]⟩ : ByteArray)] : List ByteArray) → x.size ≤ 5 ∧ keyB x = true := fun x hx => by
        simp only [List.mem_cons, List.not_mem_nil, or_false] at hx
        rcases hx with rfl | rfl | rfl | rfl <;> exact ⟨by decide, by decide +kernel⟩
      have hx := hm _ (rdOf_mem ByteArray.empty h0 h1)
      exact Dp.le (dr_cmdj hb _ (by omega) (by omega) hx.1) (by omega) fun r hr => ⟨hr.1, fun _ => hr.2 hx.2⟩
    · exact Dp.le (dr_cmdj hb _ (by omega) (by omega) hk.1) (by omega) fun r hr => ⟨hr.1, fun _ => hr.2 (hk.2 (by omega))⟩

theorem dr_any {b : List Int} (hb : Code b) {p : Int} (n : Int) (h0 : 0 ≤ p) (h1 : p ≤ 1099509000000) (hn : n ≤ 1000000) :
    Dp cmdPl (fun k => spec_l20Any.f k b p n) p 40 (fun r => r.2.1.size ≤ 5 ∧ (n ≤ 0 → cmdOk r)) := by
  unfold spec_l20Any.f
  refine Dp.bind (dr_cmd hb n (by omega) (by omega) hn) fun r hr _ _ => ?_
  have hpl : cmdPl r = r.2.2.2.2 := rfl
  refine Dr.bindP (dr_pick hb 5 (by omega) (by omega)) fun bt _ _ _ => Dp.ite (fun _ => ?_) (fun _ => ?_)
  · refine Dr.bindP (dr_key hb 0 (by omega) (by omega) (by omega)) fun bt2 hk _ _ => Dp.some_bind (Dr.bindP (dr_pick hb 4 (by omega) (by omega)) fun bt3 hq _ _ => ?_)
    refine Dp.ite (fun h0 => Dp.ite (fun h1 => ?_) fun h => absurd (hq.2.1 (by omega)) h) fun h => absurd hq.1 h
    have hm : ∀ x : ByteArray, x ∈ ([(⟨#[]⟩ : ByteArray), (⟨#[98]⟩ : ByteArray), (⟨#[99]⟩ : ByteArray), bt2.1] : List ByteArray) → x.size ≤ 5 ∧ cmdB 5 x 0 0 = true := fun x hx => by
      simp only [List.mem_cons, List.not_mem_nil, or_false] at hx
      rcases hx with rfl | rfl | rfl | rfl
      · exact ⟨by decide, by decide +kernel⟩
      · exact ⟨by decide, by decide +kernel⟩
      · exact ⟨by decide, by decide +kernel⟩
      · exact ⟨hk.1, cmdB_mk (hk.2 (by omega)) (.inl ⟨.inr (.inr rfl), rfl, rfl⟩)⟩
    have hx := hm _ (rdOf_mem ByteArray.empty h0 h1)
    exact Dp.pure rfl ⟨hx.1, fun _ => hx.2⟩ (by omega)
  · exact Dp.pure rfl ⟨hr.1, fun hn0 => (hr.2 hn0).1⟩ (by omega)

/-- The fixed answer. -/
theorem alive : Evn fun k => laws_alive.f k = some true := Ev.of laws_alive.mono (k := 12) (by decide +kernel)

end Dw
theorem Dw.weight (j : Nat) : ∃ t : Int, spec_l1Weight.f (j : Int) = some t ∧ t ≠ 0 := by
  unfold spec_l1Weight.f
  split
  · exact ⟨_, rfl, by decide⟩
  · split
    · exact ⟨_, rfl, by decide⟩
    · split
      · exact ⟨_, rfl, by decide⟩
      · exact ⟨_, rfl, by decide⟩
theorem Dw.keyat_loop (d : Nat) : ∀ (j : Nat) (x : Int) (y : ByteArray), j + d = 4 → y.size ≤ j → ∃ s, ∀ k, d + 1 ≤ k → spec_KeyAt.l0 k x y (j : Int) = some s := by
  induction d with
  | zero =>
    intro j x y hj hy
    refine ⟨y, fun k hk => ?_⟩
    obtain ⟨k, rfl⟩ : ∃ i, k = i + 1 := ⟨k - 1, by omega⟩
    rw [spec_KeyAt.l0, if_neg (by omega)]
  | succ d ih =>
    intro j x y hj hy
    obtain ⟨t, ht, h0⟩ := Dw.weight j
    have hz : (strOfNums [wrap64 (97 + wrap64 (Int.tdiv x t)) % 256]).size = 1 := by rw [strOfNums_size]; rfl
    by_cases hm : Int.tmod x t = 0
    · refine ⟨y ++ strOfNums [wrap64 (97 + wrap64 (Int.tdiv x t)) % 256], fun k hk => ?_⟩
      obtain ⟨k, rfl⟩ : ∃ i, k = i + 1 := ⟨k - 1, by omega⟩
      rw [spec_KeyAt.l0, if_pos (by omega), ht]
      simp only [Option.bind_some]
      rw [if_neg h0, if_pos (by omega), if_neg h0, if_pos hm]
    · obtain ⟨s, hs⟩ := ih (j + 1) (wrap64 (Int.tmod x t - 1)) (y ++ strOfNums [wrap64 (97 + wrap64 (Int.tdiv x t)) % 256]) (by omega) (by rw [ByteArray.size_append]; omega)
      refine ⟨s, fun k hk => ?_⟩
      obtain ⟨k, rfl⟩ : ∃ i, k = i + 1 := ⟨k - 1, by omega⟩
      rw [spec_KeyAt.l0, if_pos (by omega), ht]
      simp only [Option.bind_some]
      rw [if_neg h0, if_pos (by omega), if_neg h0, if_neg hm, w64 (x := (j : Int) + 1) (by omega) (by omega), show (j : Int) + 1 = ((j + 1 : Nat) : Int) by omega]
      exact hs k (by omega)
theorem Dw.keyat (n : Int) : ∃ s, Dw.Evn fun k => spec_KeyAt.f k n = some s := by
  have e : ∃ b, spec_l1In.f n 0 475253 = some b := by
    unfold spec_l1In.f
    split
    · exact ⟨_, rfl⟩
    · exact ⟨_, rfl⟩
  obtain ⟨b, hb⟩ := e
  unfold spec_KeyAt.f
  rw [hb]
  simp only [Option.bind_some]
  cases b with
  | true =>
    obtain ⟨s, hs⟩ := Dw.keyat_loop 4 0 n (⟨#[]⟩ : ByteArray) (by omega) (by show 0 ≤ 0; omega)
    exact ⟨s, 5, fun k hk => (if_pos rfl).trans (hs k hk)⟩
  | false => exact ⟨_, Dw.Evn.all fun k => if_neg (by simp)⟩
theorem Dw.dr_p3 {b : List Int} (hb : Dw.Code b) (x : Int) (hx : x ≤ 1000000) (l : List S42) (hl : l.length ≤ 1000) {p : Int} (h0 : 0 ≤ p) (h1 : p ≤ 1099511000000) :
    Dw.Dr (fun k => spec_l20Pairs.j3 k x l b p) p 2 (fun r => r.length ≤ l.length + 1) := by
  refine Dw.Dr.succ (Dw.Dr.congr ?_ fun k => spec_l20Pairs.j3.eq_2 ..)
  refine Dw.Dr.bind (Dw.dr_odd hb x (by omega) (by omega) hx) fun bt _ _ _ => Dw.Dr.ite (fun _ => ?_) (fun _ => Dw.Dr.pure (by omega) (by omega))
  refine Dw.Dr.some_bind (Dw.Dr.bind (Dw.dr_pick hb 5 (by omega) (by omega)) fun bt2 hr _ _ => ?_)
  exact Dw.Dr.ite (fun _ => Dw.Dr.ite (fun _ => Dw.Dr.ite (fun _ => Dw.Dr.pure (by simp) (by omega)) fun h => absurd (show l.length < 5864062014805 by omega) h) fun h => absurd (hr.2.1 (by omega)) h) fun h => absurd hr.1 h
theorem Dw.dr_p2 {b : List Int} (hb : Dw.Code b) (x : Int) (hx : x ≤ 1000000) (l : List S42) (hl : l.length ≤ 1000) (i : Int) {p : Int} (h0 : 0 ≤ p) (h1 : p ≤ 1099511000000) :
    Dw.Dr (fun k => spec_l20Pairs.j2 k x l i false b p) p 2 (fun r => r.length ≤ l.length + 1) := by
  refine Dw.Dr.succ (Dw.Dr.congr ?_ fun k => spec_l20Pairs.j2.eq_2 ..)
  exact Dw.Dr.ite (fun h => by cases h) (fun _ => Dw.dr_p3 hb x hx l hl h0 h1)
theorem Dw.dr_p1 {b : List Int} (hb : Dw.Code b) (x : Int) (hx : x ≤ 1000000) (m : Nat) : ∀ (i : Nat) (l : List S42) {p : Int}, i + m = 200 → l.length + m ≤ 900 → 0 ≤ p → p ≤ 1099511000000 →
    Dw.Dr (fun k => spec_l20Pairs.l1 k x l (i : Int) b p) p 2 (fun r => r.length ≤ l.length + m + 1) := by
  induction m with
  | zero =>
    intro i l p hi hl h0 h1
    refine Dw.Dr.succ (Dw.Dr.congr ?_ fun k => spec_l20Pairs.l1.eq_2 ..)
    rw [show decide ((i : Int) < 200) = false from decide_eq_false (by omega)]
    exact Dw.Dr.ite (fun _ => Dw.dr_p2 hb x hx l (by omega) _ h0 h1) (fun _ => Dw.dr_p2 hb x hx l (by omega) _ h0 h1)
  | succ m ih =>
    intro i l p hi hl h0 h1
    refine Dw.Dr.succ (Dw.Dr.congr ?_ fun k => spec_l20Pairs.l1.eq_2 ..)
    rw [show decide ((i : Int) < 200) = true from decide_eq_true (by omega)]
    refine Dw.Dr.ite (fun _ => ?_) (fun _ => Dw.Dr.le (Dw.dr_p2 hb x hx l (by omega) _ h0 h1) (by omega) fun r hr => by omega)
    refine Dw.Dr.succ (Dw.Dr.congr ?_ fun k => spec_l20Pairs.j2.eq_2 ..)
    refine Dw.Dr.ite (fun _ => ?_) fun h => absurd rfl h
    obtain ⟨s, hs⟩ := Dw.keyat (wrap64 ((i : Int) * 9))
    refine Dw.Dr.run hs (Dw.Dr.run (r := putM l s (i : Int)) (Dw.Evn.all fun _ => rfl) ?_)
    have hz := putM_len l s (i : Int)
    rw [w64 (x := (i : Int) + 1) (by omega) (by omega), show (i : Int) + 1 = ((i + 1 : Nat) : Int) by omega]
    exact Dw.Dr.le (ih (i + 1) _ (by omega) (by omega) h0 h1) (by omega) fun r hr => by omega
theorem Dw.dr_p0 {b : List Int} (hb : Dw.Code b) (x : Int) (hx : x ≤ 1000000) (m : Nat) : ∀ (l : List S42) {p : Int}, l.length + m ≤ 600 → 0 ≤ p → p ≤ 1099510000000 - 100 * (m : Int) → m ≤ 100 →
    Dw.Dr (fun k => spec_l20Pairs.l0 k x l (m : Int) b p) p (9 * (m : Int) + 3) (fun r => r.length ≤ l.length + m + 201) := by
  induction m with
  | zero =>
    intro l p hl h0 h1 hm
    refine Dw.Dr.succ (Dw.Dr.congr ?_ fun k => spec_l20Pairs.l0.eq_2 ..)
    refine Dw.Dr.ite (fun h => absurd h (by omega)) (fun _ => ?_)
    refine Dw.Dr.bind (Dw.dr_pick hb 16 (by omega) (by omega)) fun bt _ _ _ => Dw.Dr.ite (fun _ => ?_) (fun _ => ?_)
    · exact Dw.Dr.le (Dw.dr_p1 hb x hx 200 0 l (by omega) (by omega) (by omega) (by omega)) (by omega) fun r hr => by omega
    · exact Dw.Dr.le (Dw.dr_p3 hb x hx l (by omega) (by omega) (by omega)) (by omega) fun r hr => by omega
  | succ m ih =>
    intro l p hl h0 h1 hm
    refine Dw.Dr.succ (Dw.Dr.congr ?_ fun k => spec_l20Pairs.l0.eq_2 ..)
    refine Dw.Dr.ite (fun _ => ?_) (fun h => absurd (show ((m + 1 : Nat) : Int) > 0 by omega) h)
    refine Dw.Dr.bind (Dw.dr_key hb 0 (by omega) (by omega) (by omega)) fun bt hk _ _ => Dw.Dr.bind (Dw.dr_value hb 0 (by omega) (by omega) (by omega)) fun bt2 hv _ _ => ?_
    refine Dw.Dr.run (r := putM l bt.1 bt2.1) (Dw.Evn.all fun _ => rfl) ?_
    have hz := putM_len l bt.1 bt2.1
    rw [show wrap64 (((m + 1 : Nat) : Int) - 1) = (m : Int) by rw [w64 (by omega) (by omega)]; omega]
    exact Dw.Dr.le (ih _ (by omega) (by omega) (by omega) (by omega)) (by omega) fun r hr => by omega
theorem Dw.dr_pairs {b : List Int} (hb : Dw.Code b) {p : Int} (n : Int) (h0 : 0 ≤ p) (h1 : p ≤ 1099500000000) (hn : n ≤ 1000000) :
    Dw.Dr (fun k => spec_l20Pairs.f k b p n) p 90 (fun r => r.length ≤ 300) := by
  unfold spec_l20Pairs.f
  refine Dw.Dr.bind (Dw.dr_pick hb 9 (by omega) (by omega)) fun bt hr _ _ => ?_
  obtain ⟨m, hm⟩ : ∃ m : Nat, bt.1 = (m : Int) := ⟨bt.1.toNat, by have := hr.1; omega⟩
  have := hr.2.1 (by omega)
  rw [hm]
  exact Dw.Dr.le (Dw.dr_p0 hb n hn m [] (by simp; omega) (by omega) (by omega) (by omega)) (by omega) fun r hr => by simp only [List.length_nil] at hr; omega
theorem Dw.dr_near0 {b : List Int} (hb : Dw.Code b) (l : List S42) (n : Int) (hn : n ≤ 1000000) (x : Bool) (hx : x = true → 0 < l.length) {p : Int} (h0 : 0 ≤ p) (h1 : p ≤ 1099510000000) :
    Dw.Dr (fun k => spec_l20Near.j0 k l n x b p) p 12 (fun _ => True) := by
  refine Dw.Dr.succ (Dw.Dr.congr ?_ fun k => spec_l20Near.j0.eq_2 ..)
  refine Dw.Dr.ite (fun hx1 => ?_) (fun _ => ?_)
  · have hl := hx hx1
    refine Dw.Dr.bind (Dw.dr_pick hb (l.length : Int) (by omega) (by omega)) fun bt hr _ _ => ?_
    exact Dw.Dr.ite (fun _ => Dw.Dr.ite (fun _ => Dw.Dr.pure trivial (by omega)) fun h => absurd (hr.2.1 (by omega)) h) fun h => absurd hr.1 h
  · exact Dw.Dr.bind (Dw.Dr.le (Dw.dr_key hb n (by omega) (by omega) hn) (Int.le_refl _) fun _ _ => trivial) fun bt _ _ _ => Dw.Dr.pure trivial (by omega)
theorem Dw.dr_near {b : List Int} (hb : Dw.Code b) (l : List S42) (n : Int) (hn : n ≤ 1000000) {p : Int} (h0 : 0 ≤ p) (h1 : p ≤ 1099500000000) : Dw.Dr (fun k => spec_l20Near.f k b p l n) p 20 (fun _ => True) := by
  unfold spec_l20Near.f
  refine Dw.Dr.ite (fun hl => ?_) (fun _ => Dw.Dr.le (Dw.dr_near0 hb l n hn false (fun h => by cases h) (by omega) (by omega)) (by omega) fun _ h => h)
  refine Dw.Dr.bind (Dw.dr_pick hb 2 (by omega) (by omega)) fun bt _ _ _ => ?_
  exact Dw.Dr.le (Dw.dr_near0 hb l n hn (bt.1 == 0) (fun _ => by omega) (by omega) (by omega)) (by omega) fun _ h => h
theorem Dw.Drw.succ' {α : Type} {g : Nat → Option α} {P : α → Prop} (h : Dw.Drw (fun k => g (k + 1)) P) : Dw.Drw g P := by
  obtain ⟨r, hr, e⟩ := h
  exact ⟨r, hr, Dw.Evn.succ e⟩
theorem Dw.ap_j1 {b : List Int} (hb : Dw.Code b) (l : List S42) {p : Int} (h0 : 0 ≤ p) (h1 : p ≤ 1099510000000) (k0 : Int) (x : ByteArray) (v o : Int) : Dw.Drw (fun k => spec_DrawApplyCommand.j1 k l b p k0 x v o) (fun r => r.1 = l) := by
  refine Dw.Drw.succ' (Dw.Drw.congr ?_ fun k => spec_DrawApplyCommand.j1.eq_2 ..)
  refine Dw.Drw.ite (fun _ => Dw.Drw.bind (Dw.dr_pick hb 2 (by omega) (by omega)) fun bt _ _ _ => Dw.Drw.ite (fun _ => ?_) fun _ => Dw.Drw.pure rfl) fun _ => Dw.Drw.pure rfl
  exact Dw.Drw.run (r := getM l x) (Dw.Evn.all fun _ => rfl) (Dw.Drw.pure rfl)
theorem Dw.ap_j0 {b : List Int} (hb : Dw.Code b) (l : List S42) (y : Bool) {p : Int} (h0 : 0 ≤ p) (h1 : p ≤ 1099490000000) (k0 : Int) (x : ByteArray) (v o : Int) : Dw.Drw (fun k => spec_DrawApplyCommand.j0 k l y b p k0 x v o) (fun r => r.1 = l) := by
  refine Dw.Drw.succ' (Dw.Drw.congr ?_ fun k => spec_DrawApplyCommand.j0.eq_2 ..)
  refine Dw.Drw.ite (fun _ => Dw.Drw.bind (Dw.dr_near hb l 0 (by omega) (by omega) (by omega)) fun bt _ _ _ => ?_) fun _ => ?_
  · exact Dw.ap_j1 hb l (by omega) (by omega) k0 bt.1 v o
  · exact Dw.ap_j1 hb l (by omega) (by omega) k0 x v o
theorem draw_apply {l : List Int} (hs : ∀ x ∈ l, (Lit.int .u8 x).wf = true) : ∃ k qs kd x v o, spec_DrawApplyCommand.f k l = some (qs, kd, x, v, o) ∧ qs.length ≤ 300 := by
  obtain ⟨b, hb, e⟩ := Dw.spec_open l hs
  have h : Dw.Drw (fun k => spec_DrawApplyCommand.f k l) (fun r => r.1.length ≤ 300) := by
    unfold spec_DrawApplyCommand.f
    simp only [e, Option.bind_some]
    refine Dw.Drw.bind (Dw.dr_pairs hb (p := 0) 14 (by omega) (by omega) (by omega)) fun bt hl _ _ => ?_
    refine Dw.Drw.bindP (Dw.dr_any hb 14 (by omega) (by omega) (by omega)) fun r _ _ _ => ?_
    have hpl : Dw.cmdPl r = r.2.2.2.2 := rfl
    refine Dw.Drw.bind (Dw.dr_pick hb 2 (by omega) (by omega)) fun bt3 _ _ _ => ?_
    refine Dw.Drw.ite (fun _ => ?_) fun _ => ?_
    · exact Dw.Drw.le (Dw.ap_j0 hb bt.1 _ (by omega) (by omega) _ _ _ _) fun s h => by rw [h]; exact hl
    · exact Dw.Drw.le (Dw.ap_j0 hb bt.1 _ (by omega) (by omega) _ _ _ _) fun s h => by rw [h]; exact hl
  obtain ⟨r, hr, ev⟩ := h
  obtain ⟨k, hk⟩ := ev.some
  exact ⟨k, r.1, r.2.1, r.2.2.1, r.2.2.2.1, r.2.2.2.2, hk, hr⟩
theorem laws_alive.M (w : World) : Calls Try.prog 19 #[] w fun e w' => e = .returned (.bool true) ∧ Below w.heap.size w w' := laws_alive.calls 12 true w (by decide +kernel)
theorem sameP_loop (xs : List S42) (hn : xs.length ≤ 2097152) (d : Nat) : ∀ (j : Nat), j + d = xs.length → ∀ k, d + 1 ≤ k → laws_samePairs.l0 k xs xs (j : Int) = some true := by
  induction d with
  | zero =>
    intro j hj k hk
    obtain ⟨k, rfl⟩ : ∃ i, k = i + 1 := ⟨k - 1, by omega⟩
    simp only [laws_samePairs.l0]
    rw [if_neg (by omega)]
  | succ d ih =>
    intro j hj k hk
    obtain ⟨k, rfl⟩ : ∃ i, k = i + 1 := ⟨k - 1, by omega⟩
    have e := ih (j + 1) (by omega) k (by omega)
    simp only [laws_samePairs.l0]
    rw [if_pos (by omega), if_pos (by omega), if_pos (by omega), if_neg (by simp), w64 (by omega) (by omega)]
    simpa using e
theorem laws_samePairs.M (A0 : Option Addr) (c0 : Nat) (A1 : Option Addr) (c1 : Nat) (l m : List S42) (he : l = m) (W : World) (h0 : Kd.C k42 W A0 l.length l) (hc0 : l.length ≤ c0) (h1 : Kd.C k42 W A1 m.length m) (hc1 : m.length ≤ c1) (hn : m.length ≤ 2097152) :
    Calls Try.prog 18 #[.slice A0 l.length c0, .slice A1 m.length c1] W fun e w' => e = .returned (.bool true) ∧ Below W.heap.size W w' := by
  subst he
  refine (laws_samePairs.calls (l.length + 21) A0 c0 l A1 c1 l true W h0 hc0 h1 hc1 ?_).mono (fun _ _ h => ⟨h.1, h.2.below⟩)
  unfold laws_samePairs.f
  rw [if_pos rfl]
  simpa using sameP_loop l hn l.length 0 (by omega) (l.length + 21) (by omega)

def laws_FnApplyCommand.T15 : Bool × List (List Nat × List Nat) := (true, [([], []), ([], []), ([0, 1], [0, 1]), ([2], [2]), ([3], [3]), ([], []), ([5], [5]), ([4, 6], [4, 6]), ([7], [7]), ([8], [8]), ([8], [8]), ([8], [8]), ([10, 11, 8], [8, 10, 11]), ([12, 8], [8, 12]), ([13, 8], [8, 13]), ([9, 14, 8, 8], [8, 9, 14]), ([8], [8]), ([8], [8]), ([16, 17, 8], [8, 16, 17]), ([18, 8], [8, 18]), ([19, 8], [8, 19]), ([15, 20, 8], [8, 15, 20]), ([8, 21], [8, 21])])
def laws_FnApplyCommand.B15 : List Nat := [0, 0, 3, 7, 15, 0, 32, 127, 255, 511, 511, 511, 3583, 7679, 15871, 32767, 511, 511, 197119, 459263, 983551, 2097151, 4194303]
theorem laws_FnApplyCommand.tab15 : rtab .any (opsOf Try.f4 15) = laws_FnApplyCommand.T15 := by kernel_rfl
theorem laws_FnApplyCommand.bits15 : waitsOk laws_FnApplyCommand.T15.2 laws_FnApplyCommand.B15 = true := by kernel_rfl
theorem laws_FnApplyCommand.M (A0 : Option Addr) (c0 : Nat) (l : List Int) (w : World) (hr0 : Kd.C (Kd.int .u8) w A0 l.length l) (hc0 : l.length ≤ c0) (hs : ∀ x ∈ l, (Lit.int .u8 x).wf = true) : Calls Try.prog 4 #[.slice A0 l.length c0] w fun e w' => e = .returned (.bool true) ∧ Below w.heap.size w w' := by
  have B := Aside0.mk (Below.refl w.heap.size w)
  have HR0 := Aside0.mk hr0
  have HC0 := Aside0.mk hc0
  clear hr0 hc0
  have hu := Try.underlying31
  obtain ⟨kD, qs, kd, x, v, o, hd, hql⟩ := draw_apply hs
  have HD := Aside0.mk hd
  clear hd hs
  have hB1 : (apM qs kd x v o).1.length ≤ 2097152 := by have := apM_len qs kd x v o; omega
  have hB2 : qs.length ≤ 2097152 := by omega
  by_cases hm : (apM qs kd x v o).2 = -3
  · have hz := apM_moved hm
    have d3 : ((apM qs kd x v o).2 == -3) = true := by rw [hm]; rfl
    have dz : (((apM qs kd x v o).1.length : Int) == 0) = true := by rw [hz]; rfl
    clear hm hz
    go_enter Try.func4, Try.ntmps4
    go_wp2_with (first
      | (go_at_call 17; with_reducible refine cr (spec_DrawApplyCommand.calls kD _ _ l qs kd x v o w HR0.out HC0.out HD.out) B fun AqL kqL w1 hb B RqL QqL => ?_; clear QqL; clear hb)
      | ((with_reducible refine gate_dst (N := 4) rfl ?_); refine bx ?hg (N := 4) ?hd (cs := #[.int .i64 (0), .string (⟨#[]⟩ : ByteArray), .int .i64 (0), .int .i64 (0)]) (t := 31) ?hr B ?_; (case hd => rfl); (case hg => rfl); (case hr => first | (go_simp; done) | (go_simp; rfl)); intro g4 w2 hb B F4 L4 E4; replace RqL := rn RqL hb; obtain ⟨c4_0, c4_1, c4_2, c4_3⟩ := cs4 F4; clear hb E4)
      | ((with_reducible refine gate_store (t := 31) (p := 4) rfl ?_); obtain ⟨y0, y1, y2, y3⟩ := cs4 F4; have z0 := fz F4 0; have z1 := fz F4 1; have z2 := fz F4 2; have z3 := fz F4 3; refine sx (t := 31) (t' := 31) (p := 4) (v := ?vo3) ?hg ?ho ?hn 0 [.int .i64 (kd), .string x, .int .i64 (v), .int .i64 (o)] [.int .i64 (kd), .string x, .int .i64 (v), .int .i64 (o)] ?hr B F4 L4 rfl (Nat.le_of_ble_eq_true rfl) ?_; (case ho => rfl); (case hg => rfl); (case hn => rfl); (case hr => first | (go_simp; done) | (go_simp; rfl)); intro w3 hk B G; replace RqL := rk RqL F4 (by decide) hk; replace F4 := G; clear c4_0 c4_1 c4_2 c4_3; obtain ⟨c4_0, c4_1, c4_2, c4_3⟩ := cs4 F4; clear hk y0 z0 y1 z1 y2 z2 y3 z3)
      | (go_at_call 13; with_reducible refine cr (impl_ApplyCommand.M _ _ qs kd x v o _ (rc RqL) (rl RqL)) B fun AC4 kC4 w4 hb B RC4 QC4 => ?_; replace F4 := bn F4 hb; replace RqL := rn RqL hb; clear QC4; clear c4_0 c4_1 c4_2 c4_3; obtain ⟨c4_0, c4_1, c4_2, c4_3⟩ := cs4 F4; clear hb)
      | (go_at_call 10; with_reducible refine cr (spec_ApplyCommand.M _ _ qs kd x v o _ (rc RqL) (rl RqL)) B fun AC5 kC5 w5 hb B RC5 QC5 => ?_; replace RC4 := rn RC4 hb; clear QC5; clear hb)
      | (go_at_call 18; with_reducible refine cl (laws_samePairs.M _ _ _ _ (apM qs kd x v o).1 (apM qs kd x v o).1 rfl _ (rc RC4) (rl RC4) (rc RC5) (rl RC5) (by assumption)) B fun w6 hb B => ?_; replace RC4 := rn RC4 hb; clear hb)
      | (go_at_call 19; with_reducible refine cl (laws_alive.M _) B fun w7 hb B => ?_; clear hb))
    all_goals go_ret
    all_goals exact ⟨by simp_all, B.out⟩
  · have d3 : ((apM qs kd x v o).2 == -3) = false := beq_eq_false_iff_ne.mpr hm
    obtain ⟨hoth, hlaw⟩ := apM_law hm
    have HO := Aside0.mk hoth
    have HL := Aside0.mk hlaw
    clear hoth hlaw hm
    go_enter Try.func4, Try.ntmps4
    go_wp2_with (first
      | (go_at_call 17; with_reducible refine cr (spec_DrawApplyCommand.calls kD _ _ l qs kd x v o w HR0.out HC0.out HD.out) B fun AqL kqL w101 hb B RqL QqL => ?_; clear QqL; clear hb)
      | ((with_reducible refine gate_dst (N := 4) rfl ?_); refine bx ?hg (N := 4) ?hd (cs := #[.int .i64 (0), .string (⟨#[]⟩ : ByteArray), .int .i64 (0), .int .i64 (0)]) (t := 31) ?hr B ?_; (case hd => rfl); (case hg => rfl); (case hr => first | (go_simp; done) | (go_simp; rfl)); intro g4 w102 hb B F4 L4 E4; replace RqL := rn RqL hb; obtain ⟨c4_0, c4_1, c4_2, c4_3⟩ := cs4 F4; clear hb E4)
      | ((with_reducible refine gate_store (t := 31) (p := 4) rfl ?_); obtain ⟨y0, y1, y2, y3⟩ := cs4 F4; have z0 := fz F4 0; have z1 := fz F4 1; have z2 := fz F4 2; have z3 := fz F4 3; refine sx (t := 31) (t' := 31) (p := 4) (v := ?vo103) ?hg ?ho ?hn 0 [.int .i64 (kd), .string x, .int .i64 (v), .int .i64 (o)] [.int .i64 (kd), .string x, .int .i64 (v), .int .i64 (o)] ?hr B F4 L4 rfl (Nat.le_of_ble_eq_true rfl) ?_; (case ho => rfl); (case hg => rfl); (case hn => rfl); (case hr => first | (go_simp; done) | (go_simp; rfl)); intro w103 hk B G; replace RqL := rk RqL F4 (by decide) hk; replace F4 := G; clear c4_0 c4_1 c4_2 c4_3; obtain ⟨c4_0, c4_1, c4_2, c4_3⟩ := cs4 F4; clear hk y0 z0 y1 z1 y2 z2 y3 z3)
      | (go_at_call 13; with_reducible refine cr (impl_ApplyCommand.M _ _ qs kd x v o _ (rc RqL) (rl RqL)) B fun AC104 kC104 w104 hb B RC104 QC104 => ?_; replace F4 := bn F4 hb; replace RqL := rn RqL hb; clear QC104; clear c4_0 c4_1 c4_2 c4_3; obtain ⟨c4_0, c4_1, c4_2, c4_3⟩ := cs4 F4; clear hb)
      | (go_at_call 10; with_reducible refine cr (spec_ApplyCommand.M _ _ qs kd x v o _ (rc RqL) (rl RqL)) B fun AC105 kC105 w105 hb B RC105 QC105 => ?_; replace F4 := bn F4 hb; replace RqL := rn RqL hb; replace RC104 := rn RC104 hb; clear QC105; clear c4_0 c4_1 c4_2 c4_3; obtain ⟨c4_0, c4_1, c4_2, c4_3⟩ := cs4 F4; clear hb)
      | (go_at_call 18; with_reducible refine cl (laws_samePairs.M _ _ _ _ (apM qs kd x v o).1 (apM qs kd x v o).1 rfl _ (rc RC104) (rl RC104) (rc RC105) (rl RC105) (by assumption)) B fun w106 hb B => ?_; replace F4 := bn F4 hb; replace RqL := rn RqL hb; replace RC104 := rn RC104 hb; clear c4_0 c4_1 c4_2 c4_3; obtain ⟨c4_0, c4_1, c4_2, c4_3⟩ := cs4 F4; clear hb)
      | (go_at_call 20; with_reducible refine cl (impl_PairGet.M _ _ qs x _ (rc RqL) (rl RqL)) B fun w107 hb B => ?_; replace F4 := bn F4 hb; replace RqL := rn RqL hb; replace RC104 := rn RC104 hb; clear c4_0 c4_1 c4_2 c4_3; obtain ⟨c4_0, c4_1, c4_2, c4_3⟩ := cs4 F4; clear hb)
      | (go_at_call 20; with_reducible refine cl (impl_PairGet.M _ _ (apM qs kd x v o).1 x _ (rc RC104) (rl RC104)) B fun w108 hb B => ?_; replace F4 := bn F4 hb; replace RqL := rn RqL hb; replace RC104 := rn RC104 hb; clear hb))
    · go_ret
      exact ⟨rfl, B.out⟩
    have HX := Aside0.mk (rfl : (apM qs kd x v o).1 = (apM qs kd x v o).1)
    obtain ⟨xs, hxs⟩ : ∃ xs, (apM qs kd x v o).1 = xs := ⟨_, rfl⟩
    obtain ⟨nn, hnn⟩ : ∃ nn, (apM qs kd x v o).2 = nn := ⟨_, rfl⟩
    rw [hxs, hnn] at HL
    rw [hxs] at HO hB1 RC104 ⊢
    rw [hnn] at d3 ⊢
    clear HX hxs hnn
    obtain ⟨AX, hAX⟩ : ∃ A, AC104 = A := ⟨_, rfl⟩
    obtain ⟨kX, hkX⟩ : ∃ k, kC104 = k := ⟨_, rfl⟩
    subst hAX hkX
    have RX := RC104
    clear RC104
    (try clear c4_0 c4_1 c4_2 c4_3)
    go_loopg [11] (qs.length + 1) (fun kx v11 wr => ∃ j : Nat, v11 = .int .i64 (j : Int) ∧ j ≤ qs.length ∧ qs.length < j + kx ∧ Aside0 (Below w.heap.size w wr) ∧ Aside0 (wr.heap[g4]? = some (.cells #[.int .i64 (kd), .string x, .int .i64 (v), .int .i64 (o)] 31 (0, 0))) ∧ Aside0 (Ow k42 42 wr w.heap.size (.slice AqL qs.length kqL) qs) ∧ Aside0 (Ow k42 42 wr w.heap.size (.slice AC104 xs.length kC104) xs))
    case atStart => exact ⟨0, rfl, by omega, by omega, B, F4, RqL, RX⟩
    case round =>
      clear B F4 RqL RX
      obtain ⟨j, rfl, hj, hk, B, F4, RqL, RX⟩ := hrel
      obtain ⟨c4_0, c4_1, c4_2, c4_3⟩ := cs4 F4
      by_cases hlt : j < qs.length
      · have hpo : (rd_T42 qs (j : Int)).f0 ≠ x → getM xs (rd_T42 qs (j : Int)).f0 = (rd_T42 qs (j : Int)).f1 := HO.out _ (by rw [pr_nat hlt]; exact List.getElem_mem hlt)
        obtain ⟨d, rfl⟩ : ∃ d, gk = d + 1 := ⟨gk - 1, by omega⟩
        have cj : decide ((j : Int) < (qs.length : Int)) = true := decide_eq_true (by omega)
        obtain ⟨ad, hA, y0, y1⟩ := at_T42 (rc RqL) (j : Int) (by omega) (by omega)
        cases hA
        rw [Int.toNat_natCast] at y0 y1
        have j1 := eq_true (show (j : Int) < (qs.length : Int) by omega)
        have j2 := eq_true hlt
        generalize hy : rd_T42 qs (j : Int) = y at *
        by_cases hne : y.f0 = x
        · have dn : (y.f0.toList != x.toList) = false := by rw [hne]; simp
          have dnb : (y.f0.toList == x.toList) = true := by rw [hne]; simp
          clear hpo
          try go_wp2
          all_goals (
            refine rg (n := 23) (S := fun W => Kd.C k42 W (some ad) qs.length qs ∧ W.heap[g4]? = some (.cells #[.int .i64 (kd), .string x, .int .i64 (v), .int .i64 (o)] 31 (0, 0))) (ds := []) #[false, false, false, false, false, false, false, false, false, false, false, false, false, false, false, false, false, false, false, false, false, false, false] (by kernel_rfl) rfl rfl ⟨(rc RqL), F4.out⟩ id B (fun w401 hb B hHeld => ?_)
            refine with_tabW laws_FnApplyCommand.tab15 laws_FnApplyCommand.bits15 (fun HT_ HW_ => ?_)
            replace F4 := bn F4 hb
            replace RqL := rn RqL hb
            replace RX := rn RX hb
            clear hb
            refine pu (i := 0) (N := some 63) (v := ?_) (bits 23 1) rfl rfl (any_of HT_.out (by kernel_rfl)) (fun _ _ _ h => h) (by kernel_rfl) ?_ ?_; rotate_left; (intro w'; go_simp; with_reducible rfl)
            refine pu (i := 1) (N := some 64) (v := ?_) (bits 23 3) rfl rfl (any_of HT_.out (by kernel_rfl)) (fun _ _ _ h => h) (by kernel_rfl) ?_ ?_; rotate_left; (intro w'; go_simp; with_reducible rfl)
            refine pu (i := 2) (N := some 65) (v := ?_) (bits 23 7) rfl rfl (any_of HT_.out (by kernel_rfl)) (fun _ _ _ h => h) (by kernel_rfl) ?_ ?_; rotate_left; (intro w'; go_simp; with_reducible rfl)
            refine pu (i := 3) (N := some 66) (v := ?_) (bits 23 15) rfl rfl (any_of HT_.out (by kernel_rfl)) (fun _ _ _ h => h) (by kernel_rfl) ?_ ?_; rotate_left; (intro w'; go_simp; with_reducible rfl)
            refine ta (i := 4) (N := some 67) (v := ?_) (bits 23 31) rfl rfl (take_ofW HT_.out HW_.out (by kernel_rfl)) (fun _ _ _ h => h) (by kernel_rfl) hHeld ?_ ?_; rotate_left; (intro w' hS; obtain ⟨s0, s1⟩ := hS; obtain ⟨_, hA, q0, q1⟩ := at_T42 s0 (j : Int) (by omega) (by omega); cases hA; rw [Int.toNat_natCast] at q0 q1; rw [hy] at q0 q1; go_simp; with_reducible rfl)
            refine pu (i := 5) (N := some 68) (v := ?_) (bits 23 63) rfl rfl (any_of HT_.out (by kernel_rfl)) (fun _ _ _ h => h) (by kernel_rfl) ?_ ?_; rotate_left; (intro w'; go_simp; with_reducible rfl)
            refine ta (i := 6) (N := some 69) (v := ?_) (bits 23 127) rfl rfl (take_ofW HT_.out HW_.out (by kernel_rfl)) (fun _ _ _ h => h) (by kernel_rfl) hHeld ?_ ?_; rotate_left; (intro w' hS; obtain ⟨s0, s1⟩ := hS; obtain ⟨q0, q1, q2, q3⟩ := cs4 (Aside0.mk s1); go_simp; with_reducible rfl)
            refine pu (i := 7) (N := some 70) (v := ?_) (bits 23 255) rfl rfl (any_of HT_.out (by kernel_rfl)) (fun _ _ _ h => h) (by kernel_rfl) ?_ ?_; rotate_left; (intro w'; go_simp; with_reducible rfl)
            refine pu (i := 8) (N := some 71) (v := ?_) (bits 23 511) rfl rfl (any_of HT_.out (by kernel_rfl)) (fun _ _ _ h => h) (by kernel_rfl) ?_ ?_; rotate_left; (intro w'; go_simp; with_reducible rfl)
            refine sk (i := 9) (N := some 72) (bits 23 1023) rfl rfl (any_of HT_.out (by kernel_rfl)) (fun _ _ _ h => h) (by kernel_rfl) ?_
            refine sk (i := 10) (N := some 73) (bits 23 2047) rfl rfl (any_of HT_.out (by kernel_rfl)) (fun _ _ _ h => h) (by kernel_rfl) ?_
            refine sk (i := 11) (N := some 74) (bits 23 4095) rfl rfl (any_of HT_.out (by kernel_rfl)) (fun _ _ _ h => h) (by kernel_rfl) ?_
            refine sk (i := 12) (N := some 75) (bits 23 8191) rfl rfl (any_of HT_.out (by kernel_rfl)) (fun _ _ _ h => h) (by kernel_rfl) ?_
            refine sk (i := 13) (N := some 76) (bits 23 16383) rfl rfl (any_of HT_.out (by kernel_rfl)) (fun _ _ _ h => h) (by kernel_rfl) ?_
            refine sk (i := 14) (N := some 77) (bits 23 32767) rfl rfl (any_of HT_.out (by kernel_rfl)) (fun _ _ _ h => h) (by kernel_rfl) ?_
            refine sk (i := 15) (N := some 78) (bits 23 65535) rfl rfl (any_of HT_.out (by kernel_rfl)) (fun _ _ _ h => h) (by kernel_rfl) ?_
            refine sk (i := 16) (N := some 79) (bits 23 131071) rfl rfl (any_of HT_.out (by kernel_rfl)) (fun _ _ _ h => h) (by kernel_rfl) ?_
            refine sk (i := 17) (N := some 80) (bits 23 262143) rfl rfl (any_of HT_.out (by kernel_rfl)) (fun _ _ _ h => h) (by kernel_rfl) ?_
            refine sk (i := 18) (N := some 81) (bits 23 524287) rfl rfl (any_of HT_.out (by kernel_rfl)) (fun _ _ _ h => h) (by kernel_rfl) ?_
            refine sk (i := 19) (N := some 82) (bits 23 1048575) rfl rfl (any_of HT_.out (by kernel_rfl)) (fun _ _ _ h => h) (by kernel_rfl) ?_
            refine sk (i := 20) (N := some 83) (bits 23 2097151) rfl rfl (any_of HT_.out (by kernel_rfl)) (fun _ _ _ h => h) (by kernel_rfl) ?_
            refine sk (i := 21) (N := some 84) (bits 23 4194303) rfl rfl (any_of HT_.out (by kernel_rfl)) (fun _ _ _ h => h) (by kernel_rfl) ?_
            refine pu (i := 22) (N := some 85) (v := ?_) (bits 23 8388607) rfl rfl (any_of HT_.out (by kernel_rfl)) (fun _ _ _ h => h) (by kernel_rfl) ?_ ?_; rotate_left; (intro w'; go_simp; with_reducible rfl)
            refine norm_ (a' := ?_) ?_ ?_
            rotate_left
            · simp only [Act.put, List.setIfInBounds_toArray, List.set_cons_zero, List.set_cons_succ, i64_w, i32_w]
              rfl
            refine done_ (done_of HT_.out (by kernel_rfl)) ?_)
          all_goals try go_wp2
          go_roundg d
          case measure => omega
          case rel => exact ⟨j + 1, congrArg (Value.int .i64) (Int.natCast_succ _).symm, by omega, by omega, B, F4, RqL, RX⟩
        · have dn : (y.f0.toList != x.toList) = true := by rw [bne, str_beq, decide_eq_false hne]; rfl
          have dnb : (y.f0.toList == x.toList) = false := by rw [str_beq, decide_eq_false hne]
          have dg : (getM xs y.f0 != y.f1) = false := by rw [hpo hne]; simp
          have dgb : (getM xs y.f0 == y.f1) = true := by rw [hpo hne]; simp
          clear hpo
          try go_wp2
          all_goals (
            refine rg (n := 23) (S := fun W => Kd.C k42 W (some ad) qs.length qs ∧ W.heap[g4]? = some (.cells #[.int .i64 (kd), .string x, .int .i64 (v), .int .i64 (o)] 31 (0, 0))) (ds := []) #[false, false, false, false, false, false, false, false, false, false, false, false, false, false, false, false, false, false, false, false, false, false, false] (by kernel_rfl) rfl rfl ⟨(rc RqL), F4.out⟩ id B (fun w301 hb B hHeld => ?_)
            refine with_tabW laws_FnApplyCommand.tab15 laws_FnApplyCommand.bits15 (fun HT_ HW_ => ?_)
            replace F4 := bn F4 hb
            replace RqL := rn RqL hb
            replace RX := rn RX hb
            clear hb
            refine pu (i := 0) (N := some 63) (v := ?_) (bits 23 1) rfl rfl (any_of HT_.out (by kernel_rfl)) (fun _ _ _ h => h) (by kernel_rfl) ?_ ?_; rotate_left; (intro w'; go_simp; with_reducible rfl)
            refine pu (i := 1) (N := some 64) (v := ?_) (bits 23 3) rfl rfl (any_of HT_.out (by kernel_rfl)) (fun _ _ _ h => h) (by kernel_rfl) ?_ ?_; rotate_left; (intro w'; go_simp; with_reducible rfl)
            refine pu (i := 2) (N := some 65) (v := ?_) (bits 23 7) rfl rfl (any_of HT_.out (by kernel_rfl)) (fun _ _ _ h => h) (by kernel_rfl) ?_ ?_; rotate_left; (intro w'; go_simp; with_reducible rfl)
            refine pu (i := 3) (N := some 66) (v := ?_) (bits 23 15) rfl rfl (any_of HT_.out (by kernel_rfl)) (fun _ _ _ h => h) (by kernel_rfl) ?_ ?_; rotate_left; (intro w'; go_simp; with_reducible rfl)
            refine ta (i := 4) (N := some 67) (v := ?_) (bits 23 31) rfl rfl (take_ofW HT_.out HW_.out (by kernel_rfl)) (fun _ _ _ h => h) (by kernel_rfl) hHeld ?_ ?_; rotate_left; (intro w' hS; obtain ⟨s0, s1⟩ := hS; obtain ⟨_, hA, q0, q1⟩ := at_T42 s0 (j : Int) (by omega) (by omega); cases hA; rw [Int.toNat_natCast] at q0 q1; rw [hy] at q0 q1; go_simp; with_reducible rfl)
            refine pu (i := 5) (N := some 68) (v := ?_) (bits 23 63) rfl rfl (any_of HT_.out (by kernel_rfl)) (fun _ _ _ h => h) (by kernel_rfl) ?_ ?_; rotate_left; (intro w'; go_simp; with_reducible rfl)
            refine ta (i := 6) (N := some 69) (v := ?_) (bits 23 127) rfl rfl (take_ofW HT_.out HW_.out (by kernel_rfl)) (fun _ _ _ h => h) (by kernel_rfl) hHeld ?_ ?_; rotate_left; (intro w' hS; obtain ⟨s0, s1⟩ := hS; obtain ⟨q0, q1, q2, q3⟩ := cs4 (Aside0.mk s1); go_simp; with_reducible rfl)
            refine pu (i := 7) (N := some 70) (v := ?_) (bits 23 255) rfl rfl (any_of HT_.out (by kernel_rfl)) (fun _ _ _ h => h) (by kernel_rfl) ?_ ?_; rotate_left; (intro w'; go_simp; with_reducible rfl)
            refine pu (i := 8) (N := some 71) (v := ?_) (bits 23 511) rfl rfl (any_of HT_.out (by kernel_rfl)) (fun _ _ _ h => h) (by kernel_rfl) ?_ ?_; rotate_left; (intro w'; go_simp; with_reducible rfl)
            refine pu (i := 9) (N := some 72) (v := ?_) (bits 23 1023) rfl rfl (any_of HT_.out (by kernel_rfl)) (fun _ _ _ h => h) (by kernel_rfl) ?_ ?_; rotate_left; (intro w'; go_simp; with_reducible rfl)
            refine pu (i := 10) (N := some 73) (v := ?_) (bits 23 2047) rfl rfl (any_of HT_.out (by kernel_rfl)) (fun _ _ _ h => h) (by kernel_rfl) ?_ ?_; rotate_left; (intro w'; go_simp; with_reducible rfl)
            refine pu (i := 11) (N := some 74) (v := ?_) (bits 23 4095) rfl rfl (any_of HT_.out (by kernel_rfl)) (fun _ _ _ h => h) (by kernel_rfl) ?_ ?_; rotate_left; (intro w'; go_simp; with_reducible rfl)
            refine pu (i := 12) (N := some 75) (v := ?_) (bits 23 8191) rfl rfl (any_of HT_.out (by kernel_rfl)) (fun _ _ _ h => h) (by kernel_rfl) ?_ ?_; rotate_left; (intro w'; go_simp; with_reducible rfl)
            refine pu (i := 13) (N := some 76) (v := ?_) (bits 23 16383) rfl rfl (any_of HT_.out (by kernel_rfl)) (fun _ _ _ h => h) (by kernel_rfl) ?_ ?_; rotate_left; (intro w'; go_simp; with_reducible rfl)
            refine ta (i := 14) (N := some 77) (v := ?_) (bits 23 32767) rfl rfl (take_ofW HT_.out HW_.out (by kernel_rfl)) (fun _ _ _ h => h) (by kernel_rfl) hHeld ?_ ?_; rotate_left; (intro w' hS; obtain ⟨s0, s1⟩ := hS; obtain ⟨_, hA, q0, q1⟩ := at_T42 s0 (j : Int) (by omega) (by omega); cases hA; rw [Int.toNat_natCast] at q0 q1; rw [hy] at q0 q1; go_simp; with_reducible rfl)
            refine pu (i := 16) (N := some 79) (v := ?_) (bits 23 98303) rfl rfl (any_of HT_.out (by kernel_rfl)) (fun _ _ _ h => h) (by kernel_rfl) ?_ ?_; rotate_left; (intro w'; go_simp; with_reducible rfl)
            refine pu (i := 17) (N := some 80) (v := ?_) (bits 23 229375) rfl rfl (any_of HT_.out (by kernel_rfl)) (fun _ _ _ h => h) (by kernel_rfl) ?_ ?_; rotate_left; (intro w'; go_simp; with_reducible rfl)
            refine pu (i := 18) (N := some 81) (v := ?_) (bits 23 491519) rfl rfl (any_of HT_.out (by kernel_rfl)) (fun _ _ _ h => h) (by kernel_rfl) ?_ ?_; rotate_left; (intro w'; go_simp; with_reducible rfl)
            refine pu (i := 19) (N := some 82) (v := ?_) (bits 23 1015807) rfl rfl (any_of HT_.out (by kernel_rfl)) (fun _ _ _ h => h) (by kernel_rfl) ?_ ?_; rotate_left; (intro w'; go_simp; with_reducible rfl)
            refine ta (i := 20) (N := some 83) (v := ?_) (bits 23 2064383) rfl rfl (take_ofW HT_.out HW_.out (by kernel_rfl)) (fun _ _ _ h => h) (by kernel_rfl) hHeld ?_ ?_; rotate_left; (intro w' hS; obtain ⟨s0, s1⟩ := hS; obtain ⟨_, hA, q0, q1⟩ := at_T42 s0 (j : Int) (by omega) (by omega); cases hA; rw [Int.toNat_natCast] at q0 q1; rw [hy] at q0 q1; go_simp; with_reducible rfl)
            refine norm_ (a' := ?_) ?_ ?_
            rotate_left
            · simp only [Act.put, List.setIfInBounds_toArray, List.set_cons_zero, List.set_cons_succ, i64_w, i32_w]
              rfl
            refine one_ (i := 15) (N := some 78) (bits 23 2097151) rfl rfl (one_of HT_.out (by kernel_rfl)) (by decide) (fun K hK => ?_)
            refine goes_ Try.func20 (by kernel_rfl) rfl #[.slice AC104 xs.length kC104, .string y.f0] (by rfl) rfl rfl (by (try simp only [List.map_toArray, List.map_cons, List.map_nil]); rfl) ?_
            with_reducible refine cl (impl_PairGet.M _ _ xs y.f0 _ (rc RX) (rl RX)) B fun w302 hb B => ?_
            replace F4 := bn F4 hb
            replace RqL := rn RqL hb
            replace RX := rn RX hb
            clear hb
            refine ⟨_, rfl, ?_⟩
            refine hK.out _ _ ⟨(rc RqL), F4.out⟩ (fun hHeld => ?_)
            clear hK K
            refine norm_ (a' := ?_) ?_ ?_
            rotate_left
            · show Act.put _ (some 78) _ = _
              simp only [Act.put, List.setIfInBounds_toArray, List.set_cons_zero, List.set_cons_succ, i64_w, i32_w]
              rfl
            refine pu (i := 21) (N := some 84) (v := ?_) (bits 23 4194303) rfl rfl (any_of HT_.out (by kernel_rfl)) (fun _ _ _ h => h) (by kernel_rfl) ?_ ?_; rotate_left; (intro w'; go_simp; with_reducible rfl)
            refine pu (i := 22) (N := some 85) (v := ?_) (bits 23 8388607) rfl rfl (any_of HT_.out (by kernel_rfl)) (fun _ _ _ h => h) (by kernel_rfl) ?_ ?_; rotate_left; (intro w'; go_simp; with_reducible rfl)
            refine norm_ (a' := ?_) ?_ ?_
            rotate_left
            · simp only [Act.put, List.setIfInBounds_toArray, List.set_cons_zero, List.set_cons_succ, i64_w, i32_w]
              rfl
            refine done_ (done_of HT_.out (by kernel_rfl)) ?_)
          all_goals try go_wp2
          go_roundg d
          case measure => omega
          case rel => exact ⟨j + 1, congrArg (Value.int .i64) (Int.natCast_succ _).symm, by omega, by omega, B, F4, RqL, RX⟩
      · have cj : decide ((j : Int) < (qs.length : Int)) = false := decide_eq_false (by omega)
        rcases HL.out with ⟨h1, h2, h3, h4⟩ | ⟨h1, h2, h3⟩
        · have dn2 : (nn == -2) = true := by rw [h1]; rfl
          have do1 : (getM qs x == -1) = true := by rw [h2]; rfl
          have d8 : decide ((8 : Int) ≤ (qs.length : Int)) = true := decide_eq_true (by omega)
          clear h1 h2 h4
          have HXQ := Aside0.mk h3
          clear h3
          go_wp2_with (first
            | (go_at_call 18; with_reducible refine cl (laws_samePairs.M _ _ _ _ xs qs HXQ.out _ (rc RX) (rl RX) (rc RqL) (rl RqL) (by assumption)) B fun w501 hb B => ?_; replace F4 := bn F4 hb; replace RqL := rn RqL hb; replace RX := rn RX hb; clear hb))
          all_goals go_ret
          all_goals exact ⟨by simp_all, B.out⟩
        · have dn2 : (nn == -2) = false := beq_eq_false_iff_ne.mpr h1
          have dno : (nn == getM qs x) = true := by rw [h2]; simp
          clear h1 h2
          rcases h3 with ⟨hk1, h⟩ | ⟨hk1, h⟩ | ⟨hk1, h⟩ | ⟨hk1, h⟩
          · have dk1 : (kd == 1) = true := by rw [hk1]; rfl
            have dr : (getM xs x == getM qs x) = true := by rw [h]; simp
            clear h
            go_wp2
            all_goals go_ret
            all_goals exact ⟨by simp_all, B.out⟩
          · have dk1 : (kd == 1) = false := by rw [hk1]; rfl
            have dk2 : (kd == 2) = true := by rw [hk1]; rfl
            have dr : (getM xs x == v) = true := by rw [h]; simp
            clear h
            go_wp2
            all_goals go_ret
            all_goals exact ⟨by simp_all, B.out⟩
          · have dk1 : (kd == 1) = false := by rw [hk1]; rfl
            have dk2 : (kd == 2) = false := by rw [hk1]; rfl
            have dk3 : (kd == 3) = true := by rw [hk1]; rfl
            have dr : (getM xs x == -1) = true := by rw [h]; rfl
            clear h
            go_wp2
            all_goals go_ret
            all_goals exact ⟨by simp_all, B.out⟩
          · have dk1 : (kd == 1) = false := by rw [hk1]; rfl
            have dk2 : (kd == 2) = false := by rw [hk1]; rfl
            have dk3 : (kd == 3) = false := by rw [hk1]; rfl
            have dk4 : (kd == 4) = true := by rw [hk1]; rfl
            rcases h with ⟨ho, h⟩ | ⟨ho, h⟩
            · have do1 : (o == getM qs x) = true := by rw [ho]; simp
              have dr : (getM xs x == v) = true := by rw [h]; simp
              clear h ho
              go_wp2
              all_goals go_ret
              all_goals exact ⟨by simp_all, B.out⟩
            · have do1 : (o == getM qs x) = false := beq_eq_false_iff_ne.mpr ho
              have do2 : (o != getM qs x) = true := bne_iff_ne.mpr ho
              have dr : (getM xs x == getM qs x) = true := by rw [h]; simp
              clear h ho
              go_wp2
              all_goals go_ret
              all_goals exact ⟨by simp_all, B.out⟩
def laws_FnApplyCommand.f (k : Nat) (l : List Int) : Option Bool := if ∀ x ∈ l, (Lit.int .u8 x).wf = true then some true else none
theorem laws_FnApplyCommand.calls (k : Nat) (A0 : Option Addr) (c0 : Nat) (l : List Int) (r : Bool) (w : World) (hr0 : Kd.C (Kd.int .u8) w A0 l.length l) (hc0 : l.length ≤ c0) (h : laws_FnApplyCommand.f k l = some r) : Calls Try.prog 4 #[.slice A0 l.length c0] w fun e w' => e = .returned (.bool r) ∧ Below w.heap.size w w' := by
  unfold laws_FnApplyCommand.f at h
  split at h
  · rename_i hc
    obtain rfl := Option.some.inj h
    exact laws_FnApplyCommand.M A0 c0 l w hr0 hc0 hc
  · cases h

end Go.Proofs.Ythfmpcaflplnbaa.PFnApplyCommand
