/- spec_l20Entry by hand (the print does not take it): three draws into an entry; where the draw says so, one of six odd entries. -/
import Derived.Test.YtdamnfkpfhoahaaPFnEntryValidx0
import Derived.Test.YtdamnfkpfhoahaaPFnEntryValidx16
import Derived.Test.YtdamnfkpfhoahaaPFnEntryValidx17
import Derived.Test.YtdamnfkpfhoahaaPFnEntryValidx21
namespace Go.Proofs.Ytdamnfkpfhoahaa.PFnEntryValid
open Go.RowKit Go.Proofs.YtdamnfkpfhoahaaW.PrintWords Go.Proofs.YtdamnfkpfhoahaaW.PrintLast Go.Proofs.YtdamnfkpfhoahaaW.PrintMore
set_option linter.unusedVariables false
set_option linter.unusedSimpArgs false

/-- the six odd entries -/
def spec_l20Entry.odds (c : S26) : List S34 :=
  [⟨0, 0, ⟨0, ⟨#[]⟩, 0, 0⟩⟩, ⟨4, 1, c⟩, ⟨-1, 1, c⟩, ⟨1, 0, c⟩, ⟨1, 1000, c⟩, ⟨1, 1, ⟨0, ⟨#[]⟩, 0, 0⟩⟩]
def spec_l20Entry.one (c : S26) (i p : Int) : Option (Int × Int × Int × ByteArray × Int × Int × Int) :=
  if 0 ≤ i ∧ i < ((spec_l20Entry.odds c).length : Int) then
    some ((rd_T34 (spec_l20Entry.odds c) i).f0, (rd_T34 (spec_l20Entry.odds c) i).f1, (rd_T34 (spec_l20Entry.odds c) i).f2.f0, (rd_T34 (spec_l20Entry.odds c) i).f2.f1, (rd_T34 (spec_l20Entry.odds c) i).f2.f2, (rd_T34 (spec_l20Entry.odds c) i).f2.f3, p)
  else none
def spec_l20Entry.f (k : Nat) (b : List Int) (p : Int) (n : Int) : Option (Int × Int × Int × ByteArray × Int × Int × Int) :=
  (spec_l20Rd_pick.f k b p 4).bind fun x1 => (spec_l20Rd_pick.f k b x1.2 6).bind fun x2 => (spec_l20Any.f k b x2.2 0).bind fun x3 => (spec_l20Rd_odd.f k b x3.2.2.2.2 n).bind fun x4 =>
    if x4.1 = true then (spec_l20Rd_pick.f k b x4.2 6).bind fun x5 => spec_l20Entry.one ⟨x3.1, x3.2.1, x3.2.2.1, x3.2.2.2.1⟩ x5.1 x5.2
    else some (x1.1, wrap64 (1 + x2.1), x3.1, x3.2.1, x3.2.2.1, x3.2.2.2.1, x4.2)
theorem spec_l20Entry.mono : ∀ a0 a1 a2 k, LeO (spec_l20Entry.f k a0 a1 a2) (spec_l20Entry.f (k + 1) a0 a1 a2) := by
  intro a0 a1 a2 k
  unfold spec_l20Entry.f
  refine LeO.bind (spec_l20Rd_pick.mono _ _ _ _) fun _ => LeO.bind (spec_l20Rd_pick.mono _ _ _ _) fun _ => LeO.bind (spec_l20Any.mono _ _ _ _) fun _ => LeO.bind (spec_l20Rd_odd.mono _ _ _ _) fun _ => LeO.ite ?_ (LeO.refl _)
  exact LeO.bind (spec_l20Rd_pick.mono _ _ _ _) fun _ => LeO.refl _

/-- six cells of an entry -/
def spec_l20Entry.row (c s kd : Int) (t : ByteArray) (v o : Int) : Array Value := #[.int .i64 c, .int .i64 s, .int .i64 kd, .string t, .int .i64 v, .int .i64 o]
def spec_l20Entry.cells (c : S26) : List Value :=
  [.int .i64 0, .int .i64 0, .int .i64 0, .string (⟨#[]⟩ : ByteArray), .int .i64 0, .int .i64 0,
   .int .i64 4, .int .i64 1, .int .i64 c.f0, .string c.f1, .int .i64 c.f2, .int .i64 c.f3,
   .int .i64 (-1), .int .i64 1, .int .i64 c.f0, .string c.f1, .int .i64 c.f2, .int .i64 c.f3,
   .int .i64 1, .int .i64 0, .int .i64 c.f0, .string c.f1, .int .i64 c.f2, .int .i64 c.f3,
   .int .i64 1, .int .i64 1000, .int .i64 c.f0, .string c.f1, .int .i64 c.f2, .int .i64 c.f3,
   .int .i64 1, .int .i64 1, .int .i64 0, .string (⟨#[]⟩ : ByteArray), .int .i64 0, .int .i64 0]
theorem spec_l20Entry.reps (w : World) (base : Nat) (ok : Nat → Prop) (c : S26) : Reps (Kd.M k34 w base ok) (Kd.sz k34) (spec_l20Entry.odds c) (spec_l20Entry.cells c) :=
  Reps.c6 (k34_mkM w base ok ⟨0, 0, ⟨0, ⟨#[]⟩, 0, 0⟩⟩) (Reps.c6 (k34_mkM w base ok ⟨4, 1, c⟩) (Reps.c6 (k34_mkM w base ok ⟨-1, 1, c⟩) (Reps.c6 (k34_mkM w base ok ⟨1, 0, c⟩) (Reps.c6 (k34_mkM w base ok ⟨1, 1000, c⟩) (Reps.c6 (k34_mkM w base ok ⟨1, 1, ⟨0, ⟨#[]⟩, 0, 0⟩⟩) (Reps.none _ _))))))

/-- The reader stands at p; the place of the result holds zeros. -/
structure spec_l20Entry.At (w0 w W : World) (g : Nat) (b : List Int) (p : Int) (gR : Nat) : Prop where
  rd : IsS84 w0 W g b p
  bel : Below w0.heap.size w0 W
  keep : KeepBut w W g none
  res : W.heap[gR]? = some (.cells (spec_l20Entry.row 0 0 0 ⟨#[]⟩ 0 0) 34 (0, 0))
  low : w.heap.size ≤ gR
  low0 : w0.heap.size ≤ gR
  ne : g ≠ gR
theorem spec_l20Entry.At.on {w0 w W W' : World} {g : Nat} {b : List Int} {p p' : Int} {gR : Nat} (h : spec_l20Entry.At w0 w W g b p gR) (rd : IsS84 w0 W' g b p') (bel : Below w0.heap.size w0 W') (k : KeepBut W W' g none) : spec_l20Entry.At w0 w W' g b p' gR :=
  ⟨rd, bel, h.keep.trans k (.inl rfl), k.blk h.res h.ne.symm (by simp), h.low, h.low0, h.ne⟩
theorem spec_l20Entry.At.out_ {w0 w W : World} {g : Nat} {b : List Int} {p : Int} {gR : Nat} (h : spec_l20Entry.At w0 w W g b p gR) (a c d e f v : Value) :
    IsS84 w0 ((((((W.setCell ⟨gR, 0, none⟩ a).setCell ⟨gR, 1, none⟩ c).setCell ⟨gR, 2, none⟩ d).setCell ⟨gR, 3, none⟩ e).setCell ⟨gR, 4, none⟩ f).setCell ⟨gR, 5, none⟩ v) g b p ∧
    Below w0.heap.size w0 ((((((W.setCell ⟨gR, 0, none⟩ a).setCell ⟨gR, 1, none⟩ c).setCell ⟨gR, 2, none⟩ d).setCell ⟨gR, 3, none⟩ e).setCell ⟨gR, 4, none⟩ f).setCell ⟨gR, 5, none⟩ v) ∧
    KeepBut w ((((((W.setCell ⟨gR, 0, none⟩ a).setCell ⟨gR, 1, none⟩ c).setCell ⟨gR, 2, none⟩ d).setCell ⟨gR, 3, none⟩ e).setCell ⟨gR, 4, none⟩ f).setCell ⟨gR, 5, none⟩ v) g none :=
  ⟨(((((h.rd.far (p := ⟨gR, 0, none⟩) h.ne _).far (p := ⟨gR, 1, none⟩) h.ne _).far (p := ⟨gR, 2, none⟩) h.ne _).far (p := ⟨gR, 3, none⟩) h.ne _).far (p := ⟨gR, 4, none⟩) h.ne _).far (p := ⟨gR, 5, none⟩) h.ne _,
   below_set (below_set (below_set (below_set (below_set (below_set h.bel h.low0) h.low0) h.low0) h.low0) h.low0) h.low0,
   keep_far (keep_far (keep_far (keep_far (keep_far (keep_far h.keep (p := ⟨gR, 0, none⟩) h.low _) (p := ⟨gR, 1, none⟩) h.low _) (p := ⟨gR, 2, none⟩) h.low _) (p := ⟨gR, 3, none⟩) h.low _) (p := ⟨gR, 4, none⟩) h.low _) (p := ⟨gR, 5, none⟩) h.low _⟩
/-- six stores over a block of zeros -/
theorem spec_l20Entry.filled {W : World} {gR : Nat} (h : W.heap[gR]? = some (.cells (spec_l20Entry.row 0 0 0 ⟨#[]⟩ 0 0) 34 (0, 0))) (c s kd : Int) (t : ByteArray) (v o : Int) :
    ((((((W.setCell ⟨gR, 0, none⟩ (.int .i64 c)).setCell ⟨gR, 1, none⟩ (.int .i64 s)).setCell ⟨gR, 2, none⟩ (.int .i64 kd)).setCell ⟨gR, 3, none⟩ (.string t)).setCell ⟨gR, 4, none⟩ (.int .i64 v)).setCell ⟨gR, 5, none⟩ (.int .i64 o)).heap[gR]? =
      some (.cells #[.int .i64 c, .int .i64 s, .int .i64 kd, .string t, .int .i64 v, .int .i64 o] 34 (0, 0)) :=
  blk_put (blk_put (blk_put (blk_put (blk_put (blk_put h 0 _ rfl) 1 _ rfl) 2 _ rfl) 3 _ rfl) 4 _ rfl) 5 _ rfl
/-- six stores elsewhere -/
theorem spec_l20Entry.far {W : World} {gE gR : Nat} {o : Array Value} (h : W.heap[gE]? = some (.cells o 34 (0, 0))) (hn : gE ≠ gR) (a c d e f v : Value) :
    ((((((W.setCell ⟨gR, 0, none⟩ a).setCell ⟨gR, 1, none⟩ c).setCell ⟨gR, 2, none⟩ d).setCell ⟨gR, 3, none⟩ e).setCell ⟨gR, 4, none⟩ f).setCell ⟨gR, 5, none⟩ v).heap[gE]? = some (.cells o 34 (0, 0)) :=
  blk_far (blk_far (blk_far (blk_far (blk_far (blk_far h (p := ⟨gR, 0, none⟩) hn _) (p := ⟨gR, 1, none⟩) hn _) (p := ⟨gR, 2, none⟩) hn _) (p := ⟨gR, 3, none⟩) hn _) (p := ⟨gR, 4, none⟩) hn _) (p := ⟨gR, 5, none⟩) hn _

/-- And the entry lies in a block of its own. -/
structure spec_l20Entry.Et (w0 w W : World) (g : Nat) (b : List Int) (p : Int) (gR gE : Nat) (c s kd : Int) (t : ByteArray) (v o : Int) : Prop where
  at_ : spec_l20Entry.At w0 w W g b p gR
  ent : W.heap[gE]? = some (.cells (spec_l20Entry.row c s kd t v o) 34 (0, 0))
  lowE : w.heap.size ≤ gE
  low0E : w0.heap.size ≤ gE
  neE : g ≠ gE
  neR : gR ≠ gE
section
variable {w0 w W W' : World} {g : Nat} {b : List Int} {p p' : Int} {gR gE : Nat} {c s kd : Int} {t : ByteArray} {v o : Int}
theorem spec_l20Entry.Et.on (h : spec_l20Entry.Et w0 w W g b p gR gE c s kd t v o) (rd : IsS84 w0 W' g b p') (bel : Below w0.heap.size w0 W') (k : KeepBut W W' g none) : spec_l20Entry.Et w0 w W' g b p' gR gE c s kd t v o :=
  ⟨h.at_.on rd bel k, k.blk h.ent h.neE.symm (by simp), h.lowE, h.low0E, h.neE, h.neR⟩
theorem spec_l20Entry.Et.grown (h : spec_l20Entry.Et w0 w W g b p gR gE c s kd t v o) (hb : Below W.heap.size W W') : spec_l20Entry.Et w0 w W' g b p gR gE c s kd t v o :=
  h.on (h.at_.rd.below hb) (below_step h.at_.bel hb) (KeepBut.of_below hb g none)
theorem spec_l20Entry.Et.drew (h : spec_l20Entry.Et w0 w W g b p gR gE c s kd t v o) : spec_l20Entry.Et w0 w W.drew g b p gR gE c s kd t v o :=
  h.on h.at_.rd.drew (below_drew h.at_.bel) (keep_drew (KeepBut.refl _ _ _))
theorem spec_l20Entry.Et.fill (h : spec_l20Entry.Et w0 w W g b p gR gE 0 0 0 ⟨#[]⟩ 0 0) (c s kd : Int) (t : ByteArray) (v o : Int) :
    spec_l20Entry.Et w0 w ((((((W.setCell ⟨gE, 0, none⟩ (.int .i64 c)).setCell ⟨gE, 1, none⟩ (.int .i64 s)).setCell ⟨gE, 2, none⟩ (.int .i64 kd)).setCell ⟨gE, 3, none⟩ (.string t)).setCell ⟨gE, 4, none⟩ (.int .i64 v)).setCell ⟨gE, 5, none⟩ (.int .i64 o)) g b p gR gE c s kd t v o := by
  have hd := h.at_
  have hb := h.low0E
  refine ⟨⟨(((((hd.rd.far (p := ⟨gE, 0, none⟩) h.neE _).far (p := ⟨gE, 1, none⟩) h.neE _).far (p := ⟨gE, 2, none⟩) h.neE _).far (p := ⟨gE, 3, none⟩) h.neE _).far (p := ⟨gE, 4, none⟩) h.neE _).far (p := ⟨gE, 5, none⟩) h.neE _,
    below_set (below_set (below_set (below_set (below_set (below_set hd.bel hb) hb) hb) hb) hb) hb,
    keep_far (keep_far (keep_far (keep_far (keep_far (keep_far hd.keep (p := ⟨gE, 0, none⟩) h.lowE _) (p := ⟨gE, 1, none⟩) h.lowE _) (p := ⟨gE, 2, none⟩) h.lowE _) (p := ⟨gE, 3, none⟩) h.lowE _) (p := ⟨gE, 4, none⟩) h.lowE _) (p := ⟨gE, 5, none⟩) h.lowE _,
    spec_l20Entry.far hd.res h.neR _ _ _ _ _ _, hd.low, hd.low0, hd.ne⟩, spec_l20Entry.filled h.ent _ _ _ _ _ _, h.lowE, h.low0E, h.neE, h.neR⟩
end

def spec_l20Entry.T3 : Bool × List (List Nat × List Nat) := (true, [([], []), ([], []), ([1], [1]), ([2], [2]), ([], []), ([4], [4]), ([5], [5]), ([], []), ([7], [7]), ([8], [8]), ([], []), ([10], [10]), ([11], [11]), ([], []), ([0, 3, 6, 9, 12, 13], [0, 3, 6, 9, 12, 13]), ([], []), ([15], [15]), ([14, 16], [14, 16]), ([17], [17]), ([18, 16, 0, 1, 2, 3, 4, 5, 6, 7, 8, 9, 10, 11, 12, 13, 14, 15, 16, 17, 18], [18])])
def spec_l20Entry.B3 : List Nat := [0, 0, 2, 6, 0, 16, 48, 0, 128, 384, 0, 1024, 3072, 0, 16383, 0, 32768, 131071, 262143, 524287]
theorem spec_l20Entry.tab3 : rtab .any (opsOf Try.f45 3) = spec_l20Entry.T3 := by kernel_rfl
theorem spec_l20Entry.bits3 : waitsOk spec_l20Entry.T3.2 spec_l20Entry.B3 = true := by kernel_rfl

set_option maxHeartbeats 4000000 in
set_option maxRecDepth 100000 in
theorem spec_l20Entry.calls (k : Nat) (g : Nat) (b : List Int) (p : Int) (n : Int) (r1 : Int) (r2 : Int) (r3 : Int) (r4 : ByteArray) (r5 : Int) (r6 : Int) (r7 : Int) (w0 w : World) (hI : IsS84 w0 w g b p) (hB : Below w0.heap.size w0 w) (h : spec_l20Entry.f k b p n = some (r1, r2, r3, r4, r5, r6, r7)) :
    Calls Try.prog 45 #[.pointer (some ⟨g, 0, none⟩), .int .i64 n] w fun e w' => e = .returned (.agg #[.int .i64 r1, .int .i64 r2, .int .i64 r3, .string r4, .int .i64 r5, .int .i64 r6]) ∧ IsS84 w0 w' g b r7 ∧ Below w0.heap.size w0 w' ∧ KeepBut w w' g none := by
  have hu := Try.underlying34
  have huc := Try.underlying26
  have HI := Aside0.mk hI
  have HB := Aside0.mk hB
  clear hI hB
  unfold spec_l20Entry.f at h
  obtain ⟨⟨t1, p1⟩, h1, h⟩ := Option.bind_eq_some_iff.mp h
  obtain ⟨⟨t2, p2⟩, h2, h⟩ := Option.bind_eq_some_iff.mp h
  obtain ⟨⟨k1, k2, k3, k4, p3⟩, h3, h⟩ := Option.bind_eq_some_iff.mp h
  obtain ⟨⟨od, p4⟩, h4, h⟩ := Option.bind_eq_some_iff.mp h
  dsimp only at h2 h3 h4 h
  have X1 := Aside0.mk h1
  have X2 := Aside0.mk h2
  have X3 := Aside0.mk h3
  have X4 := Aside0.mk h4
  clear h1 h2 h3 h4
  cases od with
  | false =>
    rw [if_neg (by simp)] at h
    obtain ⟨rfl, rfl, rfl, rfl, rfl, rfl, rfl⟩ : t1 = r1 ∧ wrap64 (1 + t2) = r2 ∧ k1 = r3 ∧ k2 = r4 ∧ k3 = r5 ∧ k4 = r6 ∧ p4 = r7 := by simpa using h
    clear h
    go_enter Try.func45, Try.ntmps45
    go_wp2_with (first
      | ((with_reducible refine gate_dst (N := 4) rfl ?_); refine box_event ?hg (N := 4) ?hd (cs := #[.int .i64 0, .int .i64 0, .int .i64 0, .string (⟨#[]⟩ : ByteArray), .int .i64 0, .int .i64 0]) (t := 34) ?hr ?_; (case hd => rfl); (case hg => rfl); (case hr => first | (go_simp; done) | (go_simp; rfl)); intro gR hgR w1 hc1 hb1; have S1 := Aside0.mk (show spec_l20Entry.At w0 w w1 g b p gR from ⟨HI.out.below hb1, below_step HB.out hb1, KeepBut.of_below hb1 g none, hc1, Nat.le_of_eq hgR.symm, hgR ▸ HB.out.size, Nat.ne_of_lt (hgR ▸ HI.out.lt)⟩); clear hc1 hb1 hgR)
      | (go_at_call 64; (with_reducible refine (spec_l20Rd_pick.calls k g b p 4 t1 p1 w0 _ ?side1 ?side2 X1.out).mono ?_); (case side1 => exact S1.out.rd); (case side2 => exact S1.out.bel); rintro e w2 ⟨rfl, hi, hb, hk⟩; have S2 := Aside0.mk (S1.out.on hi hb hk); clear hi hb hk)
      | (go_at_call 64; (with_reducible refine (spec_l20Rd_pick.calls k g b p1 6 t2 p2 w0 _ ?side1 ?side2 X2.out).mono ?_); (case side1 => exact S2.out.rd); (case side2 => exact S2.out.bel); rintro e w3 ⟨rfl, hi, hb, hk⟩; have S3 := Aside0.mk (S2.out.on hi hb hk); clear hi hb hk)
      | (go_at_call 42; (with_reducible refine (spec_l20Any.calls k g b p2 0 k1 k2 k3 k4 p3 w0 _ ?side1 ?side2 X3.out).mono ?_); (case side1 => exact S3.out.rd); (case side2 => exact S3.out.bel); rintro e w4 ⟨rfl, hi, hb, hk⟩; have S4 := Aside0.mk (S3.out.on hi hb hk); clear hi hb hk)
      | ((with_reducible refine gate_dst (N := 5) rfl ?_); refine box_event ?hg (N := 5) ?hd (cs := #[.int .i64 0, .int .i64 0, .int .i64 0, .string (⟨#[]⟩ : ByteArray), .int .i64 0, .int .i64 0]) (t := 34) ?hr ?_; (case hd => rfl); (case hg => rfl); (case hr => first | (go_simp; done) | (go_simp; rfl)); intro gE hgE w5 hc5 hb5; have S5 := Aside0.mk (show spec_l20Entry.Et w0 w w5 g b p3 gR gE 0 0 0 ⟨#[]⟩ 0 0 from ⟨S4.out.on (S4.out.rd.below hb5) (below_step S4.out.bel hb5) (KeepBut.of_below hb5 g none), hc5, hgE ▸ keep_size S4.out.keep, hgE ▸ S4.out.bel.size, Nat.ne_of_lt (hgE ▸ S4.out.rd.lt), Nat.ne_of_lt (hgE ▸ blk_lt S4.out.res)⟩); clear hc5 hb5 hgE; have cgEw50 : w5.cell? ⟨gE, 0, none⟩ = some (.int .i64 0) := (blk_cell S5.out.ent 0).trans rfl; have fgEw50 := blk_frozen S5.out.ent 0; have cgEw51 : w5.cell? ⟨gE, 1, none⟩ = some (.int .i64 0) := (blk_cell S5.out.ent 1).trans rfl; have fgEw51 := blk_frozen S5.out.ent 1; have cgEw52 : w5.cell? ⟨gE, 2, none⟩ = some (.int .i64 0) := (blk_cell S5.out.ent 2).trans rfl; have fgEw52 := blk_frozen S5.out.ent 2; have cgEw53 : w5.cell? ⟨gE, 3, none⟩ = some (.string (⟨#[]⟩ : ByteArray)) := (blk_cell S5.out.ent 3).trans rfl; have fgEw53 := blk_frozen S5.out.ent 3; have cgEw54 : w5.cell? ⟨gE, 4, none⟩ = some (.int .i64 0) := (blk_cell S5.out.ent 4).trans rfl; have fgEw54 := blk_frozen S5.out.ent 4; have cgEw55 : w5.cell? ⟨gE, 5, none⟩ = some (.int .i64 0) := (blk_cell S5.out.ent 5).trans rfl; have fgEw55 := blk_frozen S5.out.ent 5)
      | (go_at_call 67; (with_reducible refine (spec_l20Rd_odd.calls k g b p3 n false p4 w0 _ ?side1 ?side2 X4.out).mono ?_); (case side1 => exact (S5.out.fill t1 (wrap64 (1 + t2)) k1 k2 k3 k4).at_.rd); (case side2 => exact (S5.out.fill t1 (wrap64 (1 + t2)) k1 k2 k3 k4).at_.bel); rintro e w6 ⟨rfl, hi, hb, hk⟩; have S6 := Aside0.mk ((S5.out.fill t1 (wrap64 (1 + t2)) k1 k2 k3 k4).on hi hb hk); clear hi hb hk; have cgEw60 : w6.cell? ⟨gE, 0, none⟩ = some (.int .i64 t1) := (blk_cell S6.out.ent 0).trans rfl; have fgEw60 := blk_frozen S6.out.ent 0; have cgEw61 : w6.cell? ⟨gE, 1, none⟩ = some (.int .i64 (wrap64 (1 + t2))) := (blk_cell S6.out.ent 1).trans rfl; have fgEw61 := blk_frozen S6.out.ent 1; have cgEw62 : w6.cell? ⟨gE, 2, none⟩ = some (.int .i64 k1) := (blk_cell S6.out.ent 2).trans rfl; have fgEw62 := blk_frozen S6.out.ent 2; have cgEw63 : w6.cell? ⟨gE, 3, none⟩ = some (.string k2) := (blk_cell S6.out.ent 3).trans rfl; have fgEw63 := blk_frozen S6.out.ent 3; have cgEw64 : w6.cell? ⟨gE, 4, none⟩ = some (.int .i64 k3) := (blk_cell S6.out.ent 4).trans rfl; have fgEw64 := blk_frozen S6.out.ent 4; have cgEw65 : w6.cell? ⟨gE, 5, none⟩ = some (.int .i64 k4) := (blk_cell S6.out.ent 5).trans rfl; have fgEw65 := blk_frozen S6.out.ent 5; have cgRw60 : w6.cell? ⟨gR, 0, none⟩ = some (.int .i64 0) := (blk_cell S6.out.at_.res 0).trans rfl; have fgRw60 := blk_frozen S6.out.at_.res 0; have cgRw61 : w6.cell? ⟨gR, 1, none⟩ = some (.int .i64 0) := (blk_cell S6.out.at_.res 1).trans rfl; have fgRw61 := blk_frozen S6.out.at_.res 1; have cgRw62 : w6.cell? ⟨gR, 2, none⟩ = some (.int .i64 0) := (blk_cell S6.out.at_.res 2).trans rfl; have fgRw62 := blk_frozen S6.out.at_.res 2; have cgRw63 : w6.cell? ⟨gR, 3, none⟩ = some (.string (⟨#[]⟩ : ByteArray)) := (blk_cell S6.out.at_.res 3).trans rfl; have fgRw63 := blk_frozen S6.out.at_.res 3; have cgRw64 : w6.cell? ⟨gR, 4, none⟩ = some (.int .i64 0) := (blk_cell S6.out.at_.res 4).trans rfl; have fgRw64 := blk_frozen S6.out.at_.res 4; have cgRw65 : w6.cell? ⟨gR, 5, none⟩ = some (.int .i64 0) := (blk_cell S6.out.at_.res 5).trans rfl; have fgRw65 := blk_frozen S6.out.at_.res 5; have nER := S6.out.neR; have nRE := S6.out.neR.symm))
    refine bodyPost_ret (results_cell_row rfl _ _ gR 34 _ (0, 0) _ rfl (spec_l20Entry.filled S6.out.at_.res t1 (wrap64 (1 + t2)) k1 k2 k3 k4) Try.underlying34 rfl (by kernel_rfl)) rfl ?_
    exact ⟨rfl, (S6.out.at_).out_ _ _ _ _ _ _⟩
  | true =>
    rw [if_pos rfl] at h
    obtain ⟨⟨i, p5⟩, h5, h⟩ := Option.bind_eq_some_iff.mp h
    dsimp only at h
    have X5 := Aside0.mk h5
    clear h5
    unfold spec_l20Entry.one at h
    by_cases hj : 0 ≤ i ∧ i < ((spec_l20Entry.odds ⟨k1, k2, k3, k4⟩).length : Int)
    · rw [if_pos hj] at h
      simp only [Option.some.injEq, Prod.mk.injEq] at h
      obtain ⟨rfl, rfl, rfl, rfl, rfl, rfl, rfl⟩ := h
      have J := Aside0.mk hj
      clear hj
      go_enter Try.func45, Try.ntmps45
      go_wp2_with (first
        | ((with_reducible refine gate_dst (N := 4) rfl ?_); refine box_event ?hg (N := 4) ?hd (cs := #[.int .i64 0, .int .i64 0, .int .i64 0, .string (⟨#[]⟩ : ByteArray), .int .i64 0, .int .i64 0]) (t := 34) ?hr ?_; (case hd => rfl); (case hg => rfl); (case hr => first | (go_simp; done) | (go_simp; rfl)); intro gR hgR w1 hc1 hb1; have S1 := Aside0.mk (show spec_l20Entry.At w0 w w1 g b p gR from ⟨HI.out.below hb1, below_step HB.out hb1, KeepBut.of_below hb1 g none, hc1, Nat.le_of_eq hgR.symm, hgR ▸ HB.out.size, Nat.ne_of_lt (hgR ▸ HI.out.lt)⟩); clear hc1 hb1 hgR)
        | (go_at_call 64; (with_reducible refine (spec_l20Rd_pick.calls k g b p 4 t1 p1 w0 _ ?side1 ?side2 X1.out).mono ?_); (case side1 => exact S1.out.rd); (case side2 => exact S1.out.bel); rintro e w2 ⟨rfl, hi, hb, hk⟩; have S2 := Aside0.mk (S1.out.on hi hb hk); clear hi hb hk)
        | (go_at_call 64; (with_reducible refine (spec_l20Rd_pick.calls k g b p1 6 t2 p2 w0 _ ?side1 ?side2 X2.out).mono ?_); (case side1 => exact S2.out.rd); (case side2 => exact S2.out.bel); rintro e w3 ⟨rfl, hi, hb, hk⟩; have S3 := Aside0.mk (S2.out.on hi hb hk); clear hi hb hk)
        | (go_at_call 42; (with_reducible refine (spec_l20Any.calls k g b p2 0 k1 k2 k3 k4 p3 w0 _ ?side1 ?side2 X3.out).mono ?_); (case side1 => exact S3.out.rd); (case side2 => exact S3.out.bel); rintro e w4 ⟨rfl, hi, hb, hk⟩; have S4 := Aside0.mk (S3.out.on hi hb hk); clear hi hb hk)
        | ((with_reducible refine gate_dst (N := 5) rfl ?_); refine box_event ?hg (N := 5) ?hd (cs := #[.int .i64 0, .int .i64 0, .int .i64 0, .string (⟨#[]⟩ : ByteArray), .int .i64 0, .int .i64 0]) (t := 34) ?hr ?_; (case hd => rfl); (case hg => rfl); (case hr => first | (go_simp; done) | (go_simp; rfl)); intro gE hgE w5 hc5 hb5; have S5 := Aside0.mk (show spec_l20Entry.Et w0 w w5 g b p3 gR gE 0 0 0 ⟨#[]⟩ 0 0 from ⟨S4.out.on (S4.out.rd.below hb5) (below_step S4.out.bel hb5) (KeepBut.of_below hb5 g none), hc5, hgE ▸ keep_size S4.out.keep, hgE ▸ S4.out.bel.size, Nat.ne_of_lt (hgE ▸ S4.out.rd.lt), Nat.ne_of_lt (hgE ▸ blk_lt S4.out.res)⟩); clear hc5 hb5 hgE; have cgEw50 : w5.cell? ⟨gE, 0, none⟩ = some (.int .i64 0) := (blk_cell S5.out.ent 0).trans rfl; have fgEw50 := blk_frozen S5.out.ent 0; have cgEw51 : w5.cell? ⟨gE, 1, none⟩ = some (.int .i64 0) := (blk_cell S5.out.ent 1).trans rfl; have fgEw51 := blk_frozen S5.out.ent 1; have cgEw52 : w5.cell? ⟨gE, 2, none⟩ = some (.int .i64 0) := (blk_cell S5.out.ent 2).trans rfl; have fgEw52 := blk_frozen S5.out.ent 2; have cgEw53 : w5.cell? ⟨gE, 3, none⟩ = some (.string (⟨#[]⟩ : ByteArray)) := (blk_cell S5.out.ent 3).trans rfl; have fgEw53 := blk_frozen S5.out.ent 3; have cgEw54 : w5.cell? ⟨gE, 4, none⟩ = some (.int .i64 0) := (blk_cell S5.out.ent 4).trans rfl; have fgEw54 := blk_frozen S5.out.ent 4; have cgEw55 : w5.cell? ⟨gE, 5, none⟩ = some (.int .i64 0) := (blk_cell S5.out.ent 5).trans rfl; have fgEw55 := blk_frozen S5.out.ent 5)
        | (go_at_call 67; (with_reducible refine (spec_l20Rd_odd.calls k g b p3 n true p4 w0 _ ?side1 ?side2 X4.out).mono ?_); (case side1 => exact (S5.out.fill t1 (wrap64 (1 + t2)) k1 k2 k3 k4).at_.rd); (case side2 => exact (S5.out.fill t1 (wrap64 (1 + t2)) k1 k2 k3 k4).at_.bel); rintro e w6 ⟨rfl, hi, hb, hk⟩; have S6 := Aside0.mk ((S5.out.fill t1 (wrap64 (1 + t2)) k1 k2 k3 k4).on hi hb hk); clear hi hb hk))
      refine start_ (n := 20) (S := fun W => W.heap[gE]? = some (.cells (spec_l20Entry.row t1 (wrap64 (1 + t2)) k1 k2 k3 k4) 34 (0, 0))) (ds := []) #[false, false, false, false, false, false, false, false, false, false, false, false, false, false, false, false, false, false, false, false] (by kernel_rfl) rfl rfl (blk_drew S6.out.ent) (fun hHeld => ?_); refine with_tabW spec_l20Entry.tab3 spec_l20Entry.bits3 (fun HT_ HW_ => ?_)
      have S7 := Aside0.mk S6.out.drew
      clear S6
      generalize w6.drew = w7 at S7 hHeld ⊢
      refine pure_ (i := 0) (N := some 17) (v := ?_) (a' := ?_) #[true, false, false, false, false, false, false, false, false, false, false, false, false, false, false, false, false, false, false, false] rfl rfl (any_of HT_.out (by kernel_rfl)) (fun _ _ _ h => h) (Or.inl ⟨by rfl, ?_⟩) ?_ ?_
      rotate_left
      · intro w'
        go_simp
        with_reducible rfl
      rotate_left
      · simp only [Act.put, List.setIfInBounds_toArray, List.set_cons_zero, List.set_cons_succ, i64_w, i32_w]
        rfl
      refine pure_ (i := 1) (N := some 18) (v := ?_) (a' := ?_) #[true, true, false, false, false, false, false, false, false, false, false, false, false, false, false, false, false, false, false, false] rfl rfl (any_of HT_.out (by kernel_rfl)) (fun _ _ _ h => h) (Or.inl ⟨by rfl, ?_⟩) ?_ ?_
      rotate_left
      · intro w'
        go_simp
        with_reducible rfl
      rotate_left
      · simp only [Act.put, List.setIfInBounds_toArray, List.set_cons_zero, List.set_cons_succ, i64_w, i32_w]
        rfl
      refine pure_ (i := 4) (N := some 21) (v := ?_) (a' := ?_) #[true, true, false, false, true, false, false, false, false, false, false, false, false, false, false, false, false, false, false, false] rfl rfl (any_of HT_.out (by kernel_rfl)) (fun _ _ _ h => h) (Or.inl ⟨by rfl, ?_⟩) ?_ ?_
      rotate_left
      · intro w'
        go_simp
        with_reducible rfl
      rotate_left
      · simp only [Act.put, List.setIfInBounds_toArray, List.set_cons_zero, List.set_cons_succ, i64_w, i32_w]
        rfl
      refine pure_ (i := 7) (N := some 24) (v := ?_) (a' := ?_) #[true, true, false, false, true, false, false, true, false, false, false, false, false, false, false, false, false, false, false, false] rfl rfl (any_of HT_.out (by kernel_rfl)) (fun _ _ _ h => h) (Or.inl ⟨by rfl, ?_⟩) ?_ ?_
      rotate_left
      · intro w'
        go_simp
        with_reducible rfl
      rotate_left
      · simp only [Act.put, List.setIfInBounds_toArray, List.set_cons_zero, List.set_cons_succ, i64_w, i32_w]
        rfl
      refine pure_ (i := 10) (N := some 27) (v := ?_) (a' := ?_) #[true, true, false, false, true, false, false, true, false, false, true, false, false, false, false, false, false, false, false, false] rfl rfl (any_of HT_.out (by kernel_rfl)) (fun _ _ _ h => h) (Or.inl ⟨by rfl, ?_⟩) ?_ ?_
      rotate_left
      · intro w'
        go_simp
        with_reducible rfl
      rotate_left
      · simp only [Act.put, List.setIfInBounds_toArray, List.set_cons_zero, List.set_cons_succ, i64_w, i32_w]
        rfl
      refine take_ (i := 2) (N := some 19) (v := ?_) (a' := ?_) #[true, true, true, false, true, false, false, true, false, false, true, false, false, false, false, false, false, false, false, false] rfl rfl (take_ofW HT_.out HW_.out (by kernel_rfl)) (fun _ _ _ h => h) (Or.inl ⟨by rfl, ?_⟩) hHeld ?_ ?_
      rotate_left
      · intro w' hS
        have h2 : w'.cell? ⟨gE, 2, none⟩ = some (.int .i64 k1) := (blk_cell hS 2).trans rfl
        have h3 : w'.cell? ⟨gE, 3, none⟩ = some (.string k2) := (blk_cell hS 3).trans rfl
        have h4 : w'.cell? ⟨gE, 4, none⟩ = some (.int .i64 k3) := (blk_cell hS 4).trans rfl
        have h5 : w'.cell? ⟨gE, 5, none⟩ = some (.int .i64 k4) := (blk_cell hS 5).trans rfl
        go_simp
        with_reducible rfl
      rotate_left
      · simp only [Act.put, List.setIfInBounds_toArray, List.set_cons_zero, List.set_cons_succ, i64_w, i32_w]
        rfl
      refine take_ (i := 5) (N := some 22) (v := ?_) (a' := ?_) #[true, true, true, false, true, true, false, true, false, false, true, false, false, false, false, false, false, false, false, false] rfl rfl (take_ofW HT_.out HW_.out (by kernel_rfl)) (fun _ _ _ h => h) (Or.inl ⟨by rfl, ?_⟩) hHeld ?_ ?_
      rotate_left
      · intro w' hS
        have h2 : w'.cell? ⟨gE, 2, none⟩ = some (.int .i64 k1) := (blk_cell hS 2).trans rfl
        have h3 : w'.cell? ⟨gE, 3, none⟩ = some (.string k2) := (blk_cell hS 3).trans rfl
        have h4 : w'.cell? ⟨gE, 4, none⟩ = some (.int .i64 k3) := (blk_cell hS 4).trans rfl
        have h5 : w'.cell? ⟨gE, 5, none⟩ = some (.int .i64 k4) := (blk_cell hS 5).trans rfl
        go_simp
        with_reducible rfl
      rotate_left
      · simp only [Act.put, List.setIfInBounds_toArray, List.set_cons_zero, List.set_cons_succ, i64_w, i32_w]
        rfl
      refine take_ (i := 8) (N := some 25) (v := ?_) (a' := ?_) #[true, true, true, false, true, true, false, true, true, false, true, false, false, false, false, false, false, false, false, false] rfl rfl (take_ofW HT_.out HW_.out (by kernel_rfl)) (fun _ _ _ h => h) (Or.inl ⟨by rfl, ?_⟩) hHeld ?_ ?_
      rotate_left
      · intro w' hS
        have h2 : w'.cell? ⟨gE, 2, none⟩ = some (.int .i64 k1) := (blk_cell hS 2).trans rfl
        have h3 : w'.cell? ⟨gE, 3, none⟩ = some (.string k2) := (blk_cell hS 3).trans rfl
        have h4 : w'.cell? ⟨gE, 4, none⟩ = some (.int .i64 k3) := (blk_cell hS 4).trans rfl
        have h5 : w'.cell? ⟨gE, 5, none⟩ = some (.int .i64 k4) := (blk_cell hS 5).trans rfl
        go_simp
        with_reducible rfl
      rotate_left
      · simp only [Act.put, List.setIfInBounds_toArray, List.set_cons_zero, List.set_cons_succ, i64_w, i32_w]
        rfl
      refine take_ (i := 11) (N := some 28) (v := ?_) (a' := ?_) #[true, true, true, false, true, true, false, true, true, false, true, true, false, false, false, false, false, false, false, false] rfl rfl (take_ofW HT_.out HW_.out (by kernel_rfl)) (fun _ _ _ h => h) (Or.inl ⟨by rfl, ?_⟩) hHeld ?_ ?_
      rotate_left
      · intro w' hS
        have h2 : w'.cell? ⟨gE, 2, none⟩ = some (.int .i64 k1) := (blk_cell hS 2).trans rfl
        have h3 : w'.cell? ⟨gE, 3, none⟩ = some (.string k2) := (blk_cell hS 3).trans rfl
        have h4 : w'.cell? ⟨gE, 4, none⟩ = some (.int .i64 k3) := (blk_cell hS 4).trans rfl
        have h5 : w'.cell? ⟨gE, 5, none⟩ = some (.int .i64 k4) := (blk_cell hS 5).trans rfl
        go_simp
        with_reducible rfl
      rotate_left
      · simp only [Act.put, List.setIfInBounds_toArray, List.set_cons_zero, List.set_cons_succ, i64_w, i32_w]
        rfl
      refine pure_ (i := 3) (N := some 20) (v := ?_) (a' := ?_) #[true, true, true, true, true, true, false, true, true, false, true, true, false, false, false, false, false, false, false, false] rfl rfl (any_of HT_.out (by kernel_rfl)) (fun _ _ _ h => h) (Or.inl ⟨by rfl, ?_⟩) ?_ ?_
      rotate_left
      · intro w'
        go_simp
        with_reducible rfl
      rotate_left
      · simp only [Act.put, List.setIfInBounds_toArray, List.set_cons_zero, List.set_cons_succ, i64_w, i32_w]
        rfl
      refine pure_ (i := 6) (N := some 23) (v := ?_) (a' := ?_) #[true, true, true, true, true, true, true, true, true, false, true, true, false, false, false, false, false, false, false, false] rfl rfl (any_of HT_.out (by kernel_rfl)) (fun _ _ _ h => h) (Or.inl ⟨by rfl, ?_⟩) ?_ ?_
      rotate_left
      · intro w'
        go_simp
        with_reducible rfl
      rotate_left
      · simp only [Act.put, List.setIfInBounds_toArray, List.set_cons_zero, List.set_cons_succ, i64_w, i32_w]
        rfl
      refine pure_ (i := 9) (N := some 26) (v := ?_) (a' := ?_) #[true, true, true, true, true, true, true, true, true, true, true, true, false, false, false, false, false, false, false, false] rfl rfl (any_of HT_.out (by kernel_rfl)) (fun _ _ _ h => h) (Or.inl ⟨by rfl, ?_⟩) ?_ ?_
      rotate_left
      · intro w'
        go_simp
        with_reducible rfl
      rotate_left
      · simp only [Act.put, List.setIfInBounds_toArray, List.set_cons_zero, List.set_cons_succ, i64_w, i32_w]
        rfl
      refine pure_ (i := 12) (N := some 29) (v := ?_) (a' := ?_) #[true, true, true, true, true, true, true, true, true, true, true, true, true, false, false, false, false, false, false, false] rfl rfl (any_of HT_.out (by kernel_rfl)) (fun _ _ _ h => h) (Or.inl ⟨by rfl, ?_⟩) ?_ ?_
      rotate_left
      · intro w'
        go_simp
        with_reducible rfl
      rotate_left
      · simp only [Act.put, List.setIfInBounds_toArray, List.set_cons_zero, List.set_cons_succ, i64_w, i32_w]
        rfl
      refine pure_ (i := 13) (N := some 30) (v := ?_) (a' := ?_) #[true, true, true, true, true, true, true, true, true, true, true, true, true, true, false, false, false, false, false, false] rfl rfl (any_of HT_.out (by kernel_rfl)) (fun _ _ _ h => h) (Or.inl ⟨by rfl, ?_⟩) ?_ ?_
      rotate_left
      · intro w'
        go_simp
        with_reducible rfl
      rotate_left
      · simp only [Act.put, List.setIfInBounds_toArray, List.set_cons_zero, List.set_cons_succ, i64_w, i32_w]
        rfl
      refine pure_ (i := 15) (N := some 32) (v := ?_) (a' := ?_) #[true, true, true, true, true, true, true, true, true, true, true, true, true, true, false, true, false, false, false, false] rfl rfl (any_of HT_.out (by kernel_rfl)) (fun _ _ _ h => h) (Or.inl ⟨by rfl, ?_⟩) ?_ ?_
      rotate_left
      · intro w'
        go_simp
        with_reducible rfl
      rotate_left
      · simp only [Act.put, List.setIfInBounds_toArray, List.set_cons_zero, List.set_cons_succ, i64_w, i32_w]
        rfl
      refine join_ (σ := Value) 3 #[true, true, true, true, true, true, true, true, true, true, true, true, true, true, true, true, true, false, false, false] (fun v => [(31, v), (33, .int .i64 i)]) (fun v W => spec_l20Entry.Et w0 w W g b p5 gR gE t1 (wrap64 (1 + t2)) k1 k2 k3 k4 ∧ Kd.R k34 34 W w.heap.size (fun k => True ∧ k ≠ g) v (spec_l20Entry.odds ⟨k1, k2, k3, k4⟩)) ?cont ?both
      case cont =>
        intro v W ⟨S8, HO⟩
        have hHeld := S8.ent
        refine norm_ (a' := ?_) ?_ ?_
        rotate_left
        · simp only [putAll]
          simp only [Act.put, List.setIfInBounds_toArray, List.set_cons_zero, List.set_cons_succ, i64_w, i32_w]
          rfl
        obtain ⟨Ao, co, rfl⟩ := Kd.R_slice HO
        obtain ⟨ad, hA, x0, x1, x2, x3, x4, x5⟩ := at_T34 (Kd.R_reads' HO).2.2 i J.out.1 J.out.2
        subst hA
        have q0 : (0 ≤ i) = True := eq_true J.out.1
        have q1 : (i < ((spec_l20Entry.odds ⟨k1, k2, k3, k4⟩).length : Int)) = True := eq_true J.out.2
        refine pure_ (i := 17) (N := some 34) (v := ?_) (a' := ?_) #[true, true, true, true, true, true, true, true, true, true, true, true, true, true, true, true, true, true, false, false] rfl rfl (any_of HT_.out (by kernel_rfl)) (fun _ _ _ h => h) (Or.inl ⟨by rfl, ?_⟩) ?_ ?_
        rotate_left
        · intro w'
          go_simp
          with_reducible rfl
        rotate_left
        · simp only [Act.put, List.setIfInBounds_toArray, List.set_cons_zero, List.set_cons_succ, i64_w, i32_w]
          rfl
        refine one_ (i := 18) (N := some 35) #[true, true, true, true, true, true, true, true, true, true, true, true, true, true, true, true, true, true, true, false] rfl rfl (one_of HT_.out (by kernel_rfl)) (by decide) (fun K hK => ?_)
        refine value_ (v := .agg #[.int .i64 (rd_T34 (spec_l20Entry.odds ⟨k1, k2, k3, k4⟩) i).f0, .int .i64 (rd_T34 (spec_l20Entry.odds ⟨k1, k2, k3, k4⟩) i).f1, .int .i64 (rd_T34 (spec_l20Entry.odds ⟨k1, k2, k3, k4⟩) i).f2.f0, .string (rd_T34 (spec_l20Entry.odds ⟨k1, k2, k3, k4⟩) i).f2.f1, .int .i64 (rd_T34 (spec_l20Entry.odds ⟨k1, k2, k3, k4⟩) i).f2.f2, .int .i64 (rd_T34 (spec_l20Entry.odds ⟨k1, k2, k3, k4⟩) i).f2.f3]) (w1 := W) rfl rfl ?hr ?_
        (case hr => first | (go_simp; done) | (go_simp; rfl))
        refine hK.out _ _ hHeld (fun hHeld => ?_)
        clear hK K
        refine norm_ (a' := ?_) ?_ ?_
        rotate_left
        · show Act.put _ (some 35) _ = _
          simp only [Act.put, List.setIfInBounds_toArray, List.set_cons_zero, List.set_cons_succ, i64_w, i32_w]
          rfl
        have nER := S8.neR
        have nRE := S8.neR.symm
        have cR0 : W.cell? ⟨gR, 0, none⟩ = some (.int .i64 0) := (blk_cell S8.at_.res 0).trans rfl
        have cR1 : W.cell? ⟨gR, 1, none⟩ = some (.int .i64 0) := (blk_cell S8.at_.res 1).trans rfl
        have cR2 : W.cell? ⟨gR, 2, none⟩ = some (.int .i64 0) := (blk_cell S8.at_.res 2).trans rfl
        have cR3 : W.cell? ⟨gR, 3, none⟩ = some (.string (⟨#[]⟩ : ByteArray)) := (blk_cell S8.at_.res 3).trans rfl
        have cR4 : W.cell? ⟨gR, 4, none⟩ = some (.int .i64 0) := (blk_cell S8.at_.res 4).trans rfl
        have cR5 : W.cell? ⟨gR, 5, none⟩ = some (.int .i64 0) := (blk_cell S8.at_.res 5).trans rfl
        have fR0 := blk_frozen S8.at_.res 0
        have fR1 := blk_frozen S8.at_.res 1
        have fR2 := blk_frozen S8.at_.res 2
        have fR3 := blk_frozen S8.at_.res 3
        have fR4 := blk_frozen S8.at_.res 4
        have fR5 := blk_frozen S8.at_.res 5
        refine one_ (i := 19) (N := none) #[true, true, true, true, true, true, true, true, true, true, true, true, true, true, true, true, true, true, true, true] rfl rfl (one_of HT_.out (by kernel_rfl)) (by decide) (fun K hK => ?_)
        refine skip_ (w1 := ((((((W.setCell ⟨gR, 0, none⟩ (.int .i64 (rd_T34 (spec_l20Entry.odds ⟨k1, k2, k3, k4⟩) i).f0)).setCell ⟨gR, 1, none⟩ (.int .i64 (rd_T34 (spec_l20Entry.odds ⟨k1, k2, k3, k4⟩) i).f1)).setCell ⟨gR, 2, none⟩ (.int .i64 (rd_T34 (spec_l20Entry.odds ⟨k1, k2, k3, k4⟩) i).f2.f0)).setCell ⟨gR, 3, none⟩ (.string (rd_T34 (spec_l20Entry.odds ⟨k1, k2, k3, k4⟩) i).f2.f1)).setCell ⟨gR, 4, none⟩ (.int .i64 (rd_T34 (spec_l20Entry.odds ⟨k1, k2, k3, k4⟩) i).f2.f2)).setCell ⟨gR, 5, none⟩ (.int .i64 (rd_T34 (spec_l20Entry.odds ⟨k1, k2, k3, k4⟩) i).f2.f3))) rfl rfl ?hr ?_
        (case hr => first | (go_simp; done) | (go_simp; rfl))
        refine hK.out _ _ (spec_l20Entry.far S8.ent nRE _ _ _ _ _ _) (fun hHeld => ?_)
        clear hK K
        refine done_ (done_of HT_.out (by kernel_rfl)) ?_
        try go_wp2
        refine bodyPost_ret (results_cell_row rfl _ _ gR 34 _ (0, 0) _ rfl (spec_l20Entry.filled S8.at_.res (rd_T34 (spec_l20Entry.odds ⟨k1, k2, k3, k4⟩) i).f0 (rd_T34 (spec_l20Entry.odds ⟨k1, k2, k3, k4⟩) i).f1 (rd_T34 (spec_l20Entry.odds ⟨k1, k2, k3, k4⟩) i).f2.f0 (rd_T34 (spec_l20Entry.odds ⟨k1, k2, k3, k4⟩) i).f2.f1 (rd_T34 (spec_l20Entry.odds ⟨k1, k2, k3, k4⟩) i).f2.f2 (rd_T34 (spec_l20Entry.odds ⟨k1, k2, k3, k4⟩) i).f2.f3) Try.underlying34 rfl (by kernel_rfl)) rfl ?_
        exact ⟨rfl, (S8.at_).out_ _ _ _ _ _ _⟩
      case both =>
        intro hjoin
        refine two_ (i := 14) (j := 16) (Ni := some 31) (Nj := some 33) #[true, true, true, true, true, true, true, true, true, true, true, true, true, true, true, true, false, false, false, false] #[true, true, true, true, true, true, true, true, true, true, true, true, true, true, false, true, true, false, false, false] rfl rfl rfl rfl (two_of HT_.out (by kernel_rfl)) (by decide) (by decide) (fun K hK => ?_) (fun K hK => ?_)
        · refine Kd.R_lit_step k34 _ 34 rfl (N := 31) rfl (xs := spec_l20Entry.odds ⟨k1, k2, k3, k4⟩) (inner := spec_l20Entry.cells ⟨k1, k2, k3, k4⟩) (ok := fun _ => True) (okp := fun _ => True) ?hr (spec_l20Entry.reps _ _ _ _) (fun _ hk => hk) trivial (Below.refl _ _) (Nat.le_refl _) (by unfold spec_l20Entry.odds; simp) ?_
          (case hr => unfold spec_l20Entry.cells spec_l20Entry.odds; first | (go_simp; done) | (go_simp; rfl))
          intro v W ho hbel hg _
          have S9 := Aside0.mk (S7.out.grown hbel)
          have HO := Aside0.mk (S9.out.at_.rd.apart (Kd.R_lower ho (keep_size S7.out.at_.keep)) (by decide))
          clear ho hg hbel
          refine hK.out _ _ S9.out.ent (fun hHeld => ?_)
          clear hK K
          refine norm_ (a' := ?_) ?_ ?_
          rotate_left
          · show Act.put _ (some 31) _ = _
            simp only [Act.put, List.setIfInBounds_toArray, List.set_cons_zero, List.set_cons_succ, i64_w, i32_w]
            rfl
          refine one_ (i := 16) (N := some 33) #[true, true, true, true, true, true, true, true, true, true, true, true, true, true, true, true, true, false, false, false] rfl rfl (one_of HT_.out (by kernel_rfl)) (by decide) (fun K hK => ?_)
          refine goes_ Try.func64 (by kernel_rfl) rfl #[.pointer (some ⟨g, 0, none⟩), .int .i64 6] (by rfl) rfl rfl (by (try simp only [List.map_toArray, List.map_cons, List.map_nil]); rfl) ?_
          with_reducible refine (spec_l20Rd_pick.calls k g b p4 6 i p5 w0 _ S9.out.at_.rd S9.out.at_.bel X5.out).mono ?_
          rintro e W2 ⟨rfl, hi, hb, hk⟩
          refine ⟨_, rfl, ?_⟩
          have S10 := Aside0.mk (S9.out.on hi hb hk)
          refine hK.out _ _ S10.out.ent (fun _ => ?_)
          exact hjoin v W2 ⟨S10.out, Kd.R_keep HO.out hk (fun _ h => h.2)⟩
        · refine goes_ Try.func64 (by kernel_rfl) rfl #[.pointer (some ⟨g, 0, none⟩), .int .i64 6] (by rfl) rfl rfl (by (try simp only [List.map_toArray, List.map_cons, List.map_nil]); rfl) ?_
          with_reducible refine (spec_l20Rd_pick.calls k g b p4 6 i p5 w0 _ S7.out.at_.rd S7.out.at_.bel X5.out).mono ?_
          rintro e W2 ⟨rfl, hi, hb, hk⟩
          refine ⟨_, rfl, ?_⟩
          have S10 := Aside0.mk (S7.out.on hi hb hk)
          clear hi hb hk
          refine hK.out _ _ S10.out.ent (fun hHeld => ?_)
          clear hK K
          refine norm_ (a' := ?_) ?_ ?_
          rotate_left
          · show Act.put _ (some 33) _ = _
            simp only [Act.put, List.setIfInBounds_toArray, List.set_cons_zero, List.set_cons_succ, i64_w, i32_w]
            rfl
          refine one_ (i := 14) (N := some 31) #[true, true, true, true, true, true, true, true, true, true, true, true, true, true, true, true, true, false, false, false] rfl rfl (one_of HT_.out (by kernel_rfl)) (by decide) (fun K hK => ?_)
          refine Kd.R_lit_step k34 _ 34 rfl (N := 31) rfl (xs := spec_l20Entry.odds ⟨k1, k2, k3, k4⟩) (inner := spec_l20Entry.cells ⟨k1, k2, k3, k4⟩) (ok := fun _ => True) (okp := fun _ => True) ?hr (spec_l20Entry.reps _ _ _ _) (fun _ hk => hk) trivial (Below.refl _ _) (Nat.le_refl _) (by unfold spec_l20Entry.odds; simp) ?_
          (case hr => unfold spec_l20Entry.cells spec_l20Entry.odds; first | (go_simp; done) | (go_simp; rfl))
          intro v W ho hbel hg _
          have S9 := Aside0.mk (S10.out.grown hbel)
          have HO := Aside0.mk (S9.out.at_.rd.apart (Kd.R_lower ho (keep_size S10.out.at_.keep)) (by decide))
          clear ho hg hbel
          refine hK.out _ _ S9.out.ent (fun _ => ?_)
          exact hjoin v W ⟨S9.out, HO.out⟩
    · rw [if_neg hj] at h
      cases h
end Go.Proofs.Ytdamnfkpfhoahaa.PFnEntryValid
