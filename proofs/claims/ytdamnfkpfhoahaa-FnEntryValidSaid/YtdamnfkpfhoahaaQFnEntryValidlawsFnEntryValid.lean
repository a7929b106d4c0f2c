/- laws_FnEntryValid by hand (the print does not take it): the ways on which the law answers true. -/
import Derived.Test.YtdamnfkpfhoahaaPFnEntryValidx0
import Derived.Test.YtdamnfkpfhoahaaPFnEntryValidx10
import Derived.Test.YtdamnfkpfhoahaaPFnEntryValidx14
import Derived.Test.YtdamnfkpfhoahaaPFnEntryValidx4
import Derived.Test.YtdamnfkpfhoahaaPFnEntryValidx8
import Derived.Test.YtdamnfkpfhoahaaQFnEntryValidspecDrawEntryValid
import Derived.Test.YtdamnfkpfhoahaaQFnEntryValidspecl20Entry
namespace Go.Proofs.Ytdamnfkpfhoahaa.PFnEntryValid
open Go.RowKit Go.Proofs.YtdamnfkpfhoahaaW.PrintWords Go.Proofs.YtdamnfkpfhoahaaW.PrintLast Go.Proofs.YtdamnfkpfhoahaaW.PrintMore
set_option linter.unusedVariables false
set_option linter.unusedSimpArgs false

/-- What is asked of the drawn entry: 'some true' where the law answers true. -/
def laws_FnEntryValid.judge (k : Nat) (s1 s2 s3 : Int) (s4 : ByteArray) (s5 s6 : Int) : Option Bool :=
  (impl_EntryValid.f k s1 s2 s3 s4 s5 s6).bind fun x2 => (spec_EntryValid.f k s1 s2 s3 s4 s5 s6).bind fun x3 => (impl_EntryValid.f k s1 0 s3 s4 s5 s6).bind fun x4 => (laws_alive.f k).bind fun xa =>
    if x2 = x3 ∧ x4 = false ∧ xa = true then
      if x2 = true then (impl_EntryValid.f k 0 1 s3 s4 s5 s6).bind fun x5 => (impl_CommandValid.f k s3 s4 s5 s6).bind fun x6 => if x5 = true ∧ x6 = true then some true else none
      else some true
    else none
def laws_FnEntryValid.f (k : Nat) (l : List Int) : Option Bool :=
  if (l.length : Int) > 1048576 then some true else (spec_DrawEntryValid.f k l).bind fun x => laws_FnEntryValid.judge k x.1 x.2.1 x.2.2.1 x.2.2.2.1 x.2.2.2.2.1 x.2.2.2.2.2

set_option maxHeartbeats 2000000 in
set_option maxRecDepth 100000 in
theorem laws_FnEntryValid.calls (k : Nat) (A0 : Option Addr) (c0 : Nat) (l0 : List Int) (r : Bool) (w : World) (hr0 : Kd.C (Kd.int .u8) w A0 l0.length l0) (hc0 : l0.length ≤ c0) (h : laws_FnEntryValid.f k l0 = some r) :
    Calls Try.prog 8 #[.slice A0 l0.length c0] w fun e w' => e = .returned (.bool r) ∧ Below w.heap.size w w' := by
  have hu := Try.underlying34
  have huc := Try.underlying26
  have HR0 := Aside0.mk hr0
  have HC0 := Aside0.mk hc0
  clear hr0 hc0
  unfold laws_FnEntryValid.f at h
  by_cases hl : (l0.length : Int) > 1048576
  · rw [if_pos hl] at h
    obtain rfl := Option.some.inj h
    have cl : decide ((l0.length : Int) > 1048576) = true := decide_eq_true hl
    clear h hl
    go_enter Try.func8, Try.ntmps8
    go_wp2
    go_ret
    exact ⟨rfl, Below.refl _ _⟩
  · rw [if_neg hl] at h
    have cl : decide ((l0.length : Int) > 1048576) = false := decide_eq_false hl
    clear hl
    replace h := Option.bind_eq_some_iff.mp h
    obtain ⟨⟨s1, s2, s3, s4, s5, s6⟩, h1, h⟩ := h
    have X1 := Aside0.mk h1
    clear h1
    unfold laws_FnEntryValid.judge at h
    dsimp only at h
    replace h := Option.bind_eq_some_iff.mp h
    obtain ⟨x2, h2, h⟩ := h
    replace h := Option.bind_eq_some_iff.mp h
    obtain ⟨x3, h3, h⟩ := h
    replace h := Option.bind_eq_some_iff.mp h
    obtain ⟨x4, h4, h⟩ := h
    replace h := Option.bind_eq_some_iff.mp h
    obtain ⟨xa, ha, h⟩ := h
    by_cases hj : x2 = x3 ∧ x4 = false ∧ xa = true
    · rw [if_pos hj] at h
      obtain ⟨rfl, rfl, rfl⟩ := hj
      have X2 := Aside0.mk h2
      have X3 := Aside0.mk h3
      have X4 := Aside0.mk h4
      have XA := Aside0.mk ha
      clear h2 h3 h4 ha
      cases x2 with
      | true =>
        rw [if_pos rfl] at h
        replace h := Option.bind_eq_some_iff.mp h
        obtain ⟨x5, h5, h⟩ := h
        replace h := Option.bind_eq_some_iff.mp h
        obtain ⟨x6, h6, h⟩ := h
        by_cases hj : x5 = true ∧ x6 = true
        · rw [if_pos hj] at h
          obtain ⟨rfl, rfl⟩ := hj
          obtain rfl := Option.some.inj h
          have X5 := Aside0.mk h5
          have X6 := Aside0.mk h6
          clear h5 h6 h
          go_enter Try.func8, Try.ntmps8
          go_wp2_with (first
            | (go_at_call 24; (with_reducible refine (spec_DrawEntryValid.calls k _ _ l0 s1 s2 s3 s4 s5 s6 _ ?side1 ?side2 X1.out).mono ?_); (case side1 => exact HR0.out); (case side2 => exact HC0.out); rintro e w1 ⟨rfl, hb⟩; have B1 := Aside0.mk hb; clear hb)
            | ((with_reducible refine gate_dst (N := 3) rfl ?_); refine box_event ?hg (N := 3) ?hd (cs := #[.int .i64 0, .int .i64 0, .int .i64 0, .string (⟨#[]⟩ : ByteArray), .int .i64 0, .int .i64 0]) (t := 34) ?hr ?_; (case hd => rfl); (case hg => rfl); (case hr => first | (go_simp; done) | (go_simp; rfl)); intro gE hgE w2 hc2 hb2; have S2 := Aside0.mk hc2; have B2 := Aside0.mk (below_step B1.out hb2); have L := Aside0.mk (Nat.le_trans (below_size B1.out) (Nat.le_of_eq hgE.symm)); clear hc2 hb2 hgE; have cgEw20 : w2.cell? ⟨gE, 0, none⟩ = some (.int .i64 0) := (blk_cell S2.out 0).trans rfl; have cgEw21 : w2.cell? ⟨gE, 1, none⟩ = some (.int .i64 0) := (blk_cell S2.out 1).trans rfl; have cgEw22 : w2.cell? ⟨gE, 2, none⟩ = some (.int .i64 0) := (blk_cell S2.out 2).trans rfl; have cgEw23 : w2.cell? ⟨gE, 3, none⟩ = some (.string (⟨#[]⟩ : ByteArray)) := (blk_cell S2.out 3).trans rfl; have cgEw24 : w2.cell? ⟨gE, 4, none⟩ = some (.int .i64 0) := (blk_cell S2.out 4).trans rfl; have cgEw25 : w2.cell? ⟨gE, 5, none⟩ = some (.int .i64 0) := (blk_cell S2.out 5).trans rfl; have fgEw20 := blk_frozen S2.out 0; have fgEw21 := blk_frozen S2.out 1; have fgEw22 := blk_frozen S2.out 2; have fgEw23 := blk_frozen S2.out 3; have fgEw24 := blk_frozen S2.out 4; have fgEw25 := blk_frozen S2.out 5)
            | ((with_reducible refine gate_store (t := 34) (p := 3) rfl ?_); refine store_event (t := 34) (p := 3) (v := ?vo) (w1 := ((((((w2.setCell ⟨gE, 0, none⟩ (.int .i64 s1)).setCell ⟨gE, 1, none⟩ (.int .i64 s2)).setCell ⟨gE, 2, none⟩ (.int .i64 s3)).setCell ⟨gE, 3, none⟩ (.string s4)).setCell ⟨gE, 4, none⟩ (.int .i64 s5)).setCell ⟨gE, 5, none⟩ (.int .i64 s6))) ?hg ?ho ?hn ?hr ?_; (case ho => rfl); (case hg => rfl); (case hn => rfl); (case hr => first | (go_simp; done) | (go_simp; rfl)); intro w3 hw; have S3 := Aside0.mk (show w3.heap[gE]? = _ from hw ▸ spec_l20Entry.filled S2.out s1 s2 s3 s4 s5 s6); have B3 := Aside0.mk (show Below w.heap.size w w3 from hw ▸ spec_DrawEntryValid.below6 B2.out L.out _ _ _ _ _ _); clear hw; have cgEw30 : w3.cell? ⟨gE, 0, none⟩ = some (.int .i64 s1) := (blk_cell S3.out 0).trans rfl; have cgEw31 : w3.cell? ⟨gE, 1, none⟩ = some (.int .i64 s2) := (blk_cell S3.out 1).trans rfl; have cgEw32 : w3.cell? ⟨gE, 2, none⟩ = some (.int .i64 s3) := (blk_cell S3.out 2).trans rfl; have cgEw33 : w3.cell? ⟨gE, 3, none⟩ = some (.string s4) := (blk_cell S3.out 3).trans rfl; have cgEw34 : w3.cell? ⟨gE, 4, none⟩ = some (.int .i64 s5) := (blk_cell S3.out 4).trans rfl; have cgEw35 : w3.cell? ⟨gE, 5, none⟩ = some (.int .i64 s6) := (blk_cell S3.out 5).trans rfl)
            | (go_at_call 20; (with_reducible refine (impl_EntryValid.calls k s1 s2 s3 s4 s5 s6 true w3 X2.out).mono ?_); rintro e w4 ⟨rfl, hb⟩; have S4 := Aside0.mk (blk_below S3.out hb); have B4 := Aside0.mk (below_step B3.out hb); clear hb; have cgEw40 : w4.cell? ⟨gE, 0, none⟩ = some (.int .i64 s1) := (blk_cell S4.out 0).trans rfl; have cgEw41 : w4.cell? ⟨gE, 1, none⟩ = some (.int .i64 s2) := (blk_cell S4.out 1).trans rfl; have cgEw42 : w4.cell? ⟨gE, 2, none⟩ = some (.int .i64 s3) := (blk_cell S4.out 2).trans rfl; have cgEw43 : w4.cell? ⟨gE, 3, none⟩ = some (.string s4) := (blk_cell S4.out 3).trans rfl; have cgEw44 : w4.cell? ⟨gE, 4, none⟩ = some (.int .i64 s5) := (blk_cell S4.out 4).trans rfl; have cgEw45 : w4.cell? ⟨gE, 5, none⟩ = some (.int .i64 s6) := (blk_cell S4.out 5).trans rfl)
            | (go_at_call 18; (with_reducible refine (spec_EntryValid.calls k s1 s2 s3 s4 s5 s6 true w4 X3.out).mono ?_); rintro e w5 ⟨rfl, hb⟩; have S5 := Aside0.mk (blk_below S4.out hb); have B5 := Aside0.mk (below_step B4.out hb); clear hb; have cgEw50 : w5.cell? ⟨gE, 0, none⟩ = some (.int .i64 s1) := (blk_cell S5.out 0).trans rfl; have cgEw51 : w5.cell? ⟨gE, 1, none⟩ = some (.int .i64 s2) := (blk_cell S5.out 1).trans rfl; have cgEw52 : w5.cell? ⟨gE, 2, none⟩ = some (.int .i64 s3) := (blk_cell S5.out 2).trans rfl; have cgEw53 : w5.cell? ⟨gE, 3, none⟩ = some (.string s4) := (blk_cell S5.out 3).trans rfl; have cgEw54 : w5.cell? ⟨gE, 4, none⟩ = some (.int .i64 s5) := (blk_cell S5.out 4).trans rfl; have cgEw55 : w5.cell? ⟨gE, 5, none⟩ = some (.int .i64 s6) := (blk_cell S5.out 5).trans rfl)
            | (go_at_call 20; (with_reducible refine (impl_EntryValid.calls k s1 0 s3 s4 s5 s6 false w5 X4.out).mono ?_); rintro e w6 ⟨rfl, hb⟩; have S6 := Aside0.mk (blk_below S5.out hb); have B6 := Aside0.mk (below_step B5.out hb); clear hb; have cgEw60 : w6.cell? ⟨gE, 0, none⟩ = some (.int .i64 s1) := (blk_cell S6.out 0).trans rfl; have cgEw61 : w6.cell? ⟨gE, 1, none⟩ = some (.int .i64 s2) := (blk_cell S6.out 1).trans rfl; have cgEw62 : w6.cell? ⟨gE, 2, none⟩ = some (.int .i64 s3) := (blk_cell S6.out 2).trans rfl; have cgEw63 : w6.cell? ⟨gE, 3, none⟩ = some (.string s4) := (blk_cell S6.out 3).trans rfl; have cgEw64 : w6.cell? ⟨gE, 4, none⟩ = some (.int .i64 s5) := (blk_cell S6.out 4).trans rfl; have cgEw65 : w6.cell? ⟨gE, 5, none⟩ = some (.int .i64 s6) := (blk_cell S6.out 5).trans rfl)
            | (go_at_call 20; (with_reducible refine (impl_EntryValid.calls k 0 1 s3 s4 s5 s6 true w6 X5.out).mono ?_); rintro e w7 ⟨rfl, hb⟩; have S7 := Aside0.mk (blk_below S6.out hb); have B7 := Aside0.mk (below_step B6.out hb); clear hb; have cgEw70 : w7.cell? ⟨gE, 0, none⟩ = some (.int .i64 s1) := (blk_cell S7.out 0).trans rfl; have cgEw71 : w7.cell? ⟨gE, 1, none⟩ = some (.int .i64 s2) := (blk_cell S7.out 1).trans rfl; have cgEw72 : w7.cell? ⟨gE, 2, none⟩ = some (.int .i64 s3) := (blk_cell S7.out 2).trans rfl; have cgEw73 : w7.cell? ⟨gE, 3, none⟩ = some (.string s4) := (blk_cell S7.out 3).trans rfl; have cgEw74 : w7.cell? ⟨gE, 4, none⟩ = some (.int .i64 s5) := (blk_cell S7.out 4).trans rfl; have cgEw75 : w7.cell? ⟨gE, 5, none⟩ = some (.int .i64 s6) := (blk_cell S7.out 5).trans rfl)
            | (go_at_call 14; (with_reducible refine (impl_CommandValid.calls k s3 s4 s5 s6 true w7 X6.out).mono ?_); rintro e w8 ⟨rfl, hb⟩; have B8 := Aside0.mk (below_step B7.out hb); clear hb)
            | (go_at_call 22; (with_reducible refine (laws_alive.calls k true _ XA.out).mono ?_); rintro e w9 ⟨rfl, hb⟩; have B9 := Aside0.mk (below_step B8.out hb); clear hb))
          go_ret
          exact ⟨rfl, B9.out⟩
        · rw [if_neg hj] at h
          cases h
      | false =>
        rw [if_neg (by simp)] at h
        obtain rfl := Option.some.inj h
        clear h
        go_enter Try.func8, Try.ntmps8
        go_wp2_with (first
          | (go_at_call 24; (with_reducible refine (spec_DrawEntryValid.calls k _ _ l0 s1 s2 s3 s4 s5 s6 _ ?side1 ?side2 X1.out).mono ?_); (case side1 => exact HR0.out); (case side2 => exact HC0.out); rintro e w1 ⟨rfl, hb⟩; have B1 := Aside0.mk hb; clear hb)
          | ((with_reducible refine gate_dst (N := 3) rfl ?_); refine box_event ?hg (N := 3) ?hd (cs := #[.int .i64 0, .int .i64 0, .int .i64 0, .string (⟨#[]⟩ : ByteArray), .int .i64 0, .int .i64 0]) (t := 34) ?hr ?_; (case hd => rfl); (case hg => rfl); (case hr => first | (go_simp; done) | (go_simp; rfl)); intro gE hgE w2 hc2 hb2; have S2 := Aside0.mk hc2; have B2 := Aside0.mk (below_step B1.out hb2); have L := Aside0.mk (Nat.le_trans (below_size B1.out) (Nat.le_of_eq hgE.symm)); clear hc2 hb2 hgE; have cgEw20 : w2.cell? ⟨gE, 0, none⟩ = some (.int .i64 0) := (blk_cell S2.out 0).trans rfl; have cgEw21 : w2.cell? ⟨gE, 1, none⟩ = some (.int .i64 0) := (blk_cell S2.out 1).trans rfl; have cgEw22 : w2.cell? ⟨gE, 2, none⟩ = some (.int .i64 0) := (blk_cell S2.out 2).trans rfl; have cgEw23 : w2.cell? ⟨gE, 3, none⟩ = some (.string (⟨#[]⟩ : ByteArray)) := (blk_cell S2.out 3).trans rfl; have cgEw24 : w2.cell? ⟨gE, 4, none⟩ = some (.int .i64 0) := (blk_cell S2.out 4).trans rfl; have cgEw25 : w2.cell? ⟨gE, 5, none⟩ = some (.int .i64 0) := (blk_cell S2.out 5).trans rfl; have fgEw20 := blk_frozen S2.out 0; have fgEw21 := blk_frozen S2.out 1; have fgEw22 := blk_frozen S2.out 2; have fgEw23 := blk_frozen S2.out 3; have fgEw24 := blk_frozen S2.out 4; have fgEw25 := blk_frozen S2.out 5)
          | ((with_reducible refine gate_store (t := 34) (p := 3) rfl ?_); refine store_event (t := 34) (p := 3) (v := ?vo) (w1 := ((((((w2.setCell ⟨gE, 0, none⟩ (.int .i64 s1)).setCell ⟨gE, 1, none⟩ (.int .i64 s2)).setCell ⟨gE, 2, none⟩ (.int .i64 s3)).setCell ⟨gE, 3, none⟩ (.string s4)).setCell ⟨gE, 4, none⟩ (.int .i64 s5)).setCell ⟨gE, 5, none⟩ (.int .i64 s6))) ?hg ?ho ?hn ?hr ?_; (case ho => rfl); (case hg => rfl); (case hn => rfl); (case hr => first | (go_simp; done) | (go_simp; rfl)); intro w3 hw; have S3 := Aside0.mk (show w3.heap[gE]? = _ from hw ▸ spec_l20Entry.filled S2.out s1 s2 s3 s4 s5 s6); have B3 := Aside0.mk (show Below w.heap.size w w3 from hw ▸ spec_DrawEntryValid.below6 B2.out L.out _ _ _ _ _ _); clear hw; have cgEw30 : w3.cell? ⟨gE, 0, none⟩ = some (.int .i64 s1) := (blk_cell S3.out 0).trans rfl; have cgEw31 : w3.cell? ⟨gE, 1, none⟩ = some (.int .i64 s2) := (blk_cell S3.out 1).trans rfl; have cgEw32 : w3.cell? ⟨gE, 2, none⟩ = some (.int .i64 s3) := (blk_cell S3.out 2).trans rfl; have cgEw33 : w3.cell? ⟨gE, 3, none⟩ = some (.string s4) := (blk_cell S3.out 3).trans rfl; have cgEw34 : w3.cell? ⟨gE, 4, none⟩ = some (.int .i64 s5) := (blk_cell S3.out 4).trans rfl; have cgEw35 : w3.cell? ⟨gE, 5, none⟩ = some (.int .i64 s6) := (blk_cell S3.out 5).trans rfl)
          | (go_at_call 20; (with_reducible refine (impl_EntryValid.calls k s1 s2 s3 s4 s5 s6 false w3 X2.out).mono ?_); rintro e w4 ⟨rfl, hb⟩; have S4 := Aside0.mk (blk_below S3.out hb); have B4 := Aside0.mk (below_step B3.out hb); clear hb; have cgEw40 : w4.cell? ⟨gE, 0, none⟩ = some (.int .i64 s1) := (blk_cell S4.out 0).trans rfl; have cgEw41 : w4.cell? ⟨gE, 1, none⟩ = some (.int .i64 s2) := (blk_cell S4.out 1).trans rfl; have cgEw42 : w4.cell? ⟨gE, 2, none⟩ = some (.int .i64 s3) := (blk_cell S4.out 2).trans rfl; have cgEw43 : w4.cell? ⟨gE, 3, none⟩ = some (.string s4) := (blk_cell S4.out 3).trans rfl; have cgEw44 : w4.cell? ⟨gE, 4, none⟩ = some (.int .i64 s5) := (blk_cell S4.out 4).trans rfl; have cgEw45 : w4.cell? ⟨gE, 5, none⟩ = some (.int .i64 s6) := (blk_cell S4.out 5).trans rfl)
          | (go_at_call 18; (with_reducible refine (spec_EntryValid.calls k s1 s2 s3 s4 s5 s6 false w4 X3.out).mono ?_); rintro e w5 ⟨rfl, hb⟩; have S5 := Aside0.mk (blk_below S4.out hb); have B5 := Aside0.mk (below_step B4.out hb); clear hb; have cgEw50 : w5.cell? ⟨gE, 0, none⟩ = some (.int .i64 s1) := (blk_cell S5.out 0).trans rfl; have cgEw51 : w5.cell? ⟨gE, 1, none⟩ = some (.int .i64 s2) := (blk_cell S5.out 1).trans rfl; have cgEw52 : w5.cell? ⟨gE, 2, none⟩ = some (.int .i64 s3) := (blk_cell S5.out 2).trans rfl; have cgEw53 : w5.cell? ⟨gE, 3, none⟩ = some (.string s4) := (blk_cell S5.out 3).trans rfl; have cgEw54 : w5.cell? ⟨gE, 4, none⟩ = some (.int .i64 s5) := (blk_cell S5.out 4).trans rfl; have cgEw55 : w5.cell? ⟨gE, 5, none⟩ = some (.int .i64 s6) := (blk_cell S5.out 5).trans rfl)
          | (go_at_call 20; (with_reducible refine (impl_EntryValid.calls k s1 0 s3 s4 s5 s6 false w5 X4.out).mono ?_); rintro e w6 ⟨rfl, hb⟩; have S6 := Aside0.mk (blk_below S5.out hb); have B6 := Aside0.mk (below_step B5.out hb); clear hb; have cgEw60 : w6.cell? ⟨gE, 0, none⟩ = some (.int .i64 s1) := (blk_cell S6.out 0).trans rfl; have cgEw61 : w6.cell? ⟨gE, 1, none⟩ = some (.int .i64 s2) := (blk_cell S6.out 1).trans rfl; have cgEw62 : w6.cell? ⟨gE, 2, none⟩ = some (.int .i64 s3) := (blk_cell S6.out 2).trans rfl; have cgEw63 : w6.cell? ⟨gE, 3, none⟩ = some (.string s4) := (blk_cell S6.out 3).trans rfl; have cgEw64 : w6.cell? ⟨gE, 4, none⟩ = some (.int .i64 s5) := (blk_cell S6.out 4).trans rfl; have cgEw65 : w6.cell? ⟨gE, 5, none⟩ = some (.int .i64 s6) := (blk_cell S6.out 5).trans rfl)
          | (go_at_call 22; (with_reducible refine (laws_alive.calls k true _ XA.out).mono ?_); rintro e w9 ⟨rfl, hb⟩; have B9 := Aside0.mk (below_step B6.out hb); clear hb))
        go_ret
        exact ⟨rfl, B9.out⟩
    · rw [if_neg hj] at h
      cases h
end Go.Proofs.Ytdamnfkpfhoahaa.PFnEntryValid
