/- spec_DrawEntryValid by hand (the print does not take it): a reader is opened, an entry is drawn. -/
import Derived.Test.YtdamnfkpfhoahaaPFnEntryValidx0
import Derived.Test.YtdamnfkpfhoahaaPFnEntryValidx15
import Derived.Test.YtdamnfkpfhoahaaQFnEntryValidspecl20Entry
namespace Go.Proofs.Ytdamnfkpfhoahaa.PFnEntryValid
open Go.RowKit Go.Proofs.YtdamnfkpfhoahaaW.PrintWords Go.Proofs.YtdamnfkpfhoahaaW.PrintLast Go.Proofs.YtdamnfkpfhoahaaW.PrintMore
set_option linter.unusedVariables false
set_option linter.unusedSimpArgs false

def spec_DrawEntryValid.f (k : Nat) (l : List Int) : Option (Int × Int × Int × ByteArray × Int × Int) :=
  (spec_l20Open.f l).bind fun x => (spec_l20Entry.f k x.1 x.2 2).bind fun e => some (e.1, e.2.1, e.2.2.1, e.2.2.2.1, e.2.2.2.2.1, e.2.2.2.2.2.1)
theorem spec_DrawEntryValid.mono : ∀ a0 k, LeO (spec_DrawEntryValid.f k a0) (spec_DrawEntryValid.f (k + 1) a0) := by
  intro a0 k
  unfold spec_DrawEntryValid.f
  exact LeO.bind (LeO.refl _) fun _ => LeO.bind (spec_l20Entry.mono _ _ _ _) fun _ => LeO.refl _

theorem spec_DrawEntryValid.below6 {w W : World} {g : Nat} (h : Below w.heap.size w W) (hg : w.heap.size ≤ g) (a c d e f v : Value) :
    Below w.heap.size w ((((((W.setCell ⟨g, 0, none⟩ a).setCell ⟨g, 1, none⟩ c).setCell ⟨g, 2, none⟩ d).setCell ⟨g, 3, none⟩ e).setCell ⟨g, 4, none⟩ f).setCell ⟨g, 5, none⟩ v) :=
  below_set (below_set (below_set (below_set (below_set (below_set h hg) hg) hg) hg) hg) hg

set_option maxHeartbeats 2000000 in
set_option maxRecDepth 100000 in
theorem spec_DrawEntryValid.calls (k : Nat) (A0 : Option Addr) (c0 : Nat) (l0 : List Int) (r1 r2 r3 : Int) (r4 : ByteArray) (r5 r6 : Int) (w : World) (hr0 : Kd.C (Kd.int .u8) w A0 l0.length l0) (hc0 : l0.length ≤ c0) (h : spec_DrawEntryValid.f k l0 = some (r1, r2, r3, r4, r5, r6)) :
    Calls Try.prog 24 #[.slice A0 l0.length c0] w fun e w' => e = .returned (.agg #[.int .i64 r1, .int .i64 r2, .int .i64 r3, .string r4, .int .i64 r5, .int .i64 r6]) ∧ Below w.heap.size w w' := by
  have hu := Try.underlying34
  have HR0 := Aside0.mk hr0
  have HC0 := Aside0.mk hc0
  clear hr0 hc0
  unfold spec_DrawEntryValid.f at h
  obtain ⟨⟨b, p⟩, h1, h⟩ := Option.bind_eq_some_iff.mp h
  obtain ⟨⟨s1, s2, s3, s4, s5, s6, q⟩, h2, h⟩ := Option.bind_eq_some_iff.mp h
  dsimp only at h2 h
  obtain ⟨rfl, rfl, rfl, rfl, rfl, rfl⟩ : s1 = r1 ∧ s2 = r2 ∧ s3 = r3 ∧ s4 = r4 ∧ s5 = r5 ∧ s6 = r6 := by simpa using h
  have X1 := Aside0.mk h1
  have X2 := Aside0.mk h2
  clear h1 h2 h
  go_enter Try.func24, Try.ntmps24
  go_wp2_with (first
    | ((with_reducible refine gate_dst (N := 2) rfl ?_); refine box_event ?hg (N := 2) ?hd (cs := #[.int .i64 0, .int .i64 0, .int .i64 0, .string (⟨#[]⟩ : ByteArray), .int .i64 0, .int .i64 0]) (t := 34) ?hr ?_; (case hd => rfl); (case hg => rfl); (case hr => first | (go_simp; done) | (go_simp; rfl)); intro gR hgR w1 hc1 hb1; have S1 := Aside0.mk hc1; have B1 := Aside0.mk hb1; have L := Aside0.mk (Nat.le_of_eq hgR.symm); clear hc1 hb1 hgR)
    | (go_at_call 43; (with_reducible refine (spec_l20Open.calls _ _ l0 b p w _ ?side1 ?side2 ?side3 X1.out).mono ?_); (case side1 => exact B1.out); (case side2 => exact HR0.out); (case side3 => exact HC0.out); rintro e w2 ⟨g, rfl, hi, hb, hb1⟩; have S2 := Aside0.mk (blk_below S1.out hb1); have I := Aside0.mk hi; have B2 := Aside0.mk hb; have NE := Aside0.mk (hi.ne_blk (blk_below S1.out hb1) (by decide)); clear hi hb hb1)
    | (go_at_call 45; (with_reducible refine (spec_l20Entry.calls k g b p 2 s1 s2 s3 s4 s5 s6 q w _ ?side1 ?side2 X2.out).mono ?_); (case side1 => exact I.out); (case side2 => exact B2.out); rintro e w3 ⟨rfl, hi, hb, hk⟩; have S3 := Aside0.mk (hk.blk S2.out NE.out.symm (by simp)); have B3 := Aside0.mk hb; clear hi hb hk; have cgRw30 : w3.cell? ⟨gR, 0, none⟩ = some (.int .i64 0) := (blk_cell S3.out 0).trans rfl; have cgRw31 : w3.cell? ⟨gR, 1, none⟩ = some (.int .i64 0) := (blk_cell S3.out 1).trans rfl; have cgRw32 : w3.cell? ⟨gR, 2, none⟩ = some (.int .i64 0) := (blk_cell S3.out 2).trans rfl; have cgRw33 : w3.cell? ⟨gR, 3, none⟩ = some (.string (⟨#[]⟩ : ByteArray)) := (blk_cell S3.out 3).trans rfl; have cgRw34 : w3.cell? ⟨gR, 4, none⟩ = some (.int .i64 0) := (blk_cell S3.out 4).trans rfl; have cgRw35 : w3.cell? ⟨gR, 5, none⟩ = some (.int .i64 0) := (blk_cell S3.out 5).trans rfl; have fgRw30 := blk_frozen S3.out 0; have fgRw31 := blk_frozen S3.out 1; have fgRw32 := blk_frozen S3.out 2; have fgRw33 := blk_frozen S3.out 3; have fgRw34 := blk_frozen S3.out 4; have fgRw35 := blk_frozen S3.out 5))
  refine bodyPost_ret (results_cell_row rfl _ _ gR 34 _ (0, 0) _ rfl (spec_l20Entry.filled S3.out s1 s2 s3 s4 s5 s6) Try.underlying34 rfl (by kernel_rfl)) rfl ?_
  exact ⟨rfl, spec_DrawEntryValid.below6 B3.out L.out _ _ _ _ _ _⟩
end Go.Proofs.Ytdamnfkpfhoahaa.PFnEntryValid
