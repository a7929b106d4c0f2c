/- spec_l20Entry by hand (the print does not take it): three draws into an entry; where the draw says so, one of six odd entries. spec_DrawEncodeEntry by hand (the print does not take it): an entry is drawn, and now and then one of three numbers. spec_DrawFrameEntry by hand (the print does not take it): an entry and a number are drawn. Words for rows of whole numbers of a call's own, and for boxes of six cells. Equality of entries, as the machine tells it: an entry equals itself. laws_FnFrameEntry by hand (the print does not take it): the ways on which the law answers true. -/
import Derived.Test.YtlimhkjnnpmpkaaPFnFrameEntryx0
import Derived.Test.YtlimhkjnnpmpkaaPFnFrameEntryx1
import Derived.Test.YtlimhkjnnpmpkaaPFnFrameEntryx12
import Derived.Test.YtlimhkjnnpmpkaaPFnFrameEntryx17
import Derived.Test.YtlimhkjnnpmpkaaPFnFrameEntryx22
import Derived.Test.YtlimhkjnnpmpkaaPFnFrameEntryx23
import Derived.Test.YtlimhkjnnpmpkaaPFnFrameEntryx24
import Derived.Test.YtlimhkjnnpmpkaaPFnFrameEntryx25
import Derived.Test.YtlimhkjnnpmpkaaPFnFrameEntryx29
import Derived.Test.YtlimhkjnnpmpkaaPFnFrameEntryx4
import Derived.Test.YtlimhkjnnpmpkaaPFnFrameEntryx6
namespace Go.Proofs.Ytlimhkjnnpmpkaa.PFnFrameEntry
open Go.RowKit Go.Proofs.YtlimhkjnnpmpkaaW.PrintWords Go.Proofs.YtlimhkjnnpmpkaaW.PrintLast Go.Proofs.YtlimhkjnnpmpkaaW.PrintMore
set_option linter.unusedVariables false
set_option linter.unusedSimpArgs false

/-- which of n operations have come up -/
def bits (n m : Nat) : Array Bool := ((List.range n).map fun i => m.testBit i).toArray
/-- the six odd entries -/
def spec_l20Entry.odds (c : S29) : List S31 :=
  [⟨0, 0, ⟨0, ⟨#[]⟩, 0, 0⟩⟩, ⟨4, 1, c⟩, ⟨-1, 1, c⟩, ⟨1, 0, c⟩, ⟨1, 1000, c⟩, ⟨1, 1, ⟨0, ⟨#[]⟩, 0, 0⟩⟩]
def spec_l20Entry.one (c : S29) (i p : Int) : Option (Int × Int × Int × ByteArray × Int × Int × Int) :=
  if 0 ≤ i ∧ i < ((spec_l20Entry.odds c).length : Int) then
    some ((rd_T31 (spec_l20Entry.odds c) i).f0, (rd_T31 (spec_l20Entry.odds c) i).f1, (rd_T31 (spec_l20Entry.odds c) i).f2.f0, (rd_T31 (spec_l20Entry.odds c) i).f2.f1, (rd_T31 (spec_l20Entry.odds c) i).f2.f2, (rd_T31 (spec_l20Entry.odds c) i).f2.f3, p)
  else none
def spec_l20Entry.f (k : Nat) (b : List Int) (p : Int) (n : Int) : Option (Int × Int × Int × ByteArray × Int × Int × Int) :=
  (spec_l20Rd_pick.f k b p 4).bind fun x1 => (spec_l20Rd_pick.f k b x1.2 6).bind fun x2 => (spec_l20Any.f k b x2.2 0).bind fun x3 => (spec_l20Rd_odd.f k b x3.2.2.2.2 n).bind fun x4 =>
    if x4.1 = true then (spec_l20Rd_pick.f k b x4.2 6).bind fun x5 => spec_l20Entry.one ⟨x3.1, x3.2.1, x3.2.2.1, x3.2.2.2.1⟩ x5.1 x5.2
    else some (x1.1, wrap64 (1 + x2.1), x3.1, x3.2.1, x3.2.2.1, x3.2.2.2.1, x4.2)
/-- six cells of an entry -/
def spec_l20Entry.row (c s kd : Int) (t : ByteArray) (v o : Int) : Array Value := #[.int .i64 c, .int .i64 s, .int .i64 kd, .string t, .int .i64 v, .int .i64 o]
def spec_l20Entry.cells (c : S29) : List Value :=
  [.int .i64 0, .int .i64 0, .int .i64 0, .string (⟨#[]⟩ : ByteArray), .int .i64 0, .int .i64 0,
   .int .i64 4, .int .i64 1, .int .i64 c.f0, .string c.f1, .int .i64 c.f2, .int .i64 c.f3,
   .int .i64 (-1), .int .i64 1, .int .i64 c.f0, .string c.f1, .int .i64 c.f2, .int .i64 c.f3,
   .int .i64 1, .int .i64 0, .int .i64 c.f0, .string c.f1, .int .i64 c.f2, .int .i64 c.f3,
   .int .i64 1, .int .i64 1000, .int .i64 c.f0, .string c.f1, .int .i64 c.f2, .int .i64 c.f3,
   .int .i64 1, .int .i64 1, .int .i64 0, .string (⟨#[]⟩ : ByteArray), .int .i64 0, .int .i64 0]
theorem spec_l20Entry.reps (w : World) (base : Nat) (ok : Nat → Prop) (c : S29) : Reps (Kd.M k31 w base ok) (Kd.sz k31) (spec_l20Entry.odds c) (spec_l20Entry.cells c) :=
  Reps.c6 (k31_mkM w base ok ⟨0, 0, ⟨0, ⟨#[]⟩, 0, 0⟩⟩) (Reps.c6 (k31_mkM w base ok ⟨4, 1, c⟩) (Reps.c6 (k31_mkM w base ok ⟨-1, 1, c⟩) (Reps.c6 (k31_mkM w base ok ⟨1, 0, c⟩) (Reps.c6 (k31_mkM w base ok ⟨1, 1000, c⟩) (Reps.c6 (k31_mkM w base ok ⟨1, 1, ⟨0, ⟨#[]⟩, 0, 0⟩⟩) (Reps.none _ _))))))

/-- the cells of a block of six -/
theorem spec_l20Entry.cells6 {W : World} {g : Nat} {c s kd : Int} {t : ByteArray} {v o : Int} (h : W.heap[g]? = some (.cells #[.int .i64 c, .int .i64 s, .int .i64 kd, .string t, .int .i64 v, .int .i64 o] 31 (0, 0))) :
    W.cell? ⟨g, 0, none⟩ = some (.int .i64 c) ∧ W.cell? ⟨g, 1, none⟩ = some (.int .i64 s) ∧ W.cell? ⟨g, 2, none⟩ = some (.int .i64 kd) ∧ W.cell? ⟨g, 3, none⟩ = some (.string t) ∧ W.cell? ⟨g, 4, none⟩ = some (.int .i64 v) ∧ W.cell? ⟨g, 5, none⟩ = some (.int .i64 o) ∧
      W.frozen? ⟨g, 0, none⟩ = false ∧ W.frozen? ⟨g, 1, none⟩ = false ∧ W.frozen? ⟨g, 2, none⟩ = false ∧ W.frozen? ⟨g, 3, none⟩ = false ∧ W.frozen? ⟨g, 4, none⟩ = false ∧ W.frozen? ⟨g, 5, none⟩ = false :=
  ⟨(blk_cell h 0).trans rfl, (blk_cell h 1).trans rfl, (blk_cell h 2).trans rfl, (blk_cell h 3).trans rfl, (blk_cell h 4).trans rfl, (blk_cell h 5).trans rfl, blk_frozen h 0, blk_frozen h 1, blk_frozen h 2, blk_frozen h 3, blk_frozen h 4, blk_frozen h 5⟩

/-- The reader stands at p; the place of the result holds zeros. -/
structure spec_l20Entry.At (w0 w W : World) (g : Nat) (b : List Int) (p : Int) (gR : Nat) : Prop where
  rd : IsS77 w0 W g b p
  bel : Below w0.heap.size w0 W
  keep : KeepBut w W g none
  res : W.heap[gR]? = some (.cells (spec_l20Entry.row 0 0 0 ⟨#[]⟩ 0 0) 31 (0, 0))
  low : w.heap.size ≤ gR
  low0 : w0.heap.size ≤ gR
  ne : g ≠ gR
theorem spec_l20Entry.At.on {w0 w W W' : World} {g : Nat} {b : List Int} {p p' : Int} {gR : Nat} (h : spec_l20Entry.At w0 w W g b p gR) (rd : IsS77 w0 W' g b p') (bel : Below w0.heap.size w0 W') (k : KeepBut W W' g none) : spec_l20Entry.At w0 w W' g b p' gR :=
  ⟨rd, bel, h.keep.trans k (.inl rfl), k.blk h.res h.ne.symm (by simp), h.low, h.low0, h.ne⟩
theorem spec_l20Entry.At.out_ {w0 w W : World} {g : Nat} {b : List Int} {p : Int} {gR : Nat} (h : spec_l20Entry.At w0 w W g b p gR) (a c d e f v : Value) :
    IsS77 w0 ((((((W.setCell ⟨gR, 0, none⟩ a).setCell ⟨gR, 1, none⟩ c).setCell ⟨gR, 2, none⟩ d).setCell ⟨gR, 3, none⟩ e).setCell ⟨gR, 4, none⟩ f).setCell ⟨gR, 5, none⟩ v) g b p ∧
    Below w0.heap.size w0 ((((((W.setCell ⟨gR, 0, none⟩ a).setCell ⟨gR, 1, none⟩ c).setCell ⟨gR, 2, none⟩ d).setCell ⟨gR, 3, none⟩ e).setCell ⟨gR, 4, none⟩ f).setCell ⟨gR, 5, none⟩ v) ∧
    KeepBut w ((((((W.setCell ⟨gR, 0, none⟩ a).setCell ⟨gR, 1, none⟩ c).setCell ⟨gR, 2, none⟩ d).setCell ⟨gR, 3, none⟩ e).setCell ⟨gR, 4, none⟩ f).setCell ⟨gR, 5, none⟩ v) g none :=
  ⟨(((((h.rd.far (p := ⟨gR, 0, none⟩) h.ne _).far (p := ⟨gR, 1, none⟩) h.ne _).far (p := ⟨gR, 2, none⟩) h.ne _).far (p := ⟨gR, 3, none⟩) h.ne _).far (p := ⟨gR, 4, none⟩) h.ne _).far (p := ⟨gR, 5, none⟩) h.ne _,
   below_set (below_set (below_set (below_set (below_set (below_set h.bel h.low0) h.low0) h.low0) h.low0) h.low0) h.low0,
   keep_far (keep_far (keep_far (keep_far (keep_far (keep_far h.keep (p := ⟨gR, 0, none⟩) h.low _) (p := ⟨gR, 1, none⟩) h.low _) (p := ⟨gR, 2, none⟩) h.low _) (p := ⟨gR, 3, none⟩) h.low _) (p := ⟨gR, 4, none⟩) h.low _) (p := ⟨gR, 5, none⟩) h.low _⟩
/-- six stores over a block of zeros -/
theorem spec_l20Entry.filled {W : World} {gR : Nat} (h : W.heap[gR]? = some (.cells (spec_l20Entry.row 0 0 0 ⟨#[]⟩ 0 0) 31 (0, 0))) (c s kd : Int) (t : ByteArray) (v o : Int) :
    ((((((W.setCell ⟨gR, 0, none⟩ (.int .i64 c)).setCell ⟨gR, 1, none⟩ (.int .i64 s)).setCell ⟨gR, 2, none⟩ (.int .i64 kd)).setCell ⟨gR, 3, none⟩ (.string t)).setCell ⟨gR, 4, none⟩ (.int .i64 v)).setCell ⟨gR, 5, none⟩ (.int .i64 o)).heap[gR]? =
      some (.cells #[.int .i64 c, .int .i64 s, .int .i64 kd, .string t, .int .i64 v, .int .i64 o] 31 (0, 0)) :=
  blk_put (blk_put (blk_put (blk_put (blk_put (blk_put h 0 _ rfl) 1 _ rfl) 2 _ rfl) 3 _ rfl) 4 _ rfl) 5 _ rfl
/-- six stores elsewhere -/
theorem spec_l20Entry.far {W : World} {gE gR : Nat} {o : Array Value} (h : W.heap[gE]? = some (.cells o 31 (0, 0))) (hn : gE ≠ gR) (a c d e f v : Value) :
    ((((((W.setCell ⟨gR, 0, none⟩ a).setCell ⟨gR, 1, none⟩ c).setCell ⟨gR, 2, none⟩ d).setCell ⟨gR, 3, none⟩ e).setCell ⟨gR, 4, none⟩ f).setCell ⟨gR, 5, none⟩ v).heap[gE]? = some (.cells o 31 (0, 0)) :=
  blk_far (blk_far (blk_far (blk_far (blk_far (blk_far h (p := ⟨gR, 0, none⟩) hn _) (p := ⟨gR, 1, none⟩) hn _) (p := ⟨gR, 2, none⟩) hn _) (p := ⟨gR, 3, none⟩) hn _) (p := ⟨gR, 4, none⟩) hn _) (p := ⟨gR, 5, none⟩) hn _

/-- And the entry lies in a block of its own. -/
structure spec_l20Entry.Et (w0 w W : World) (g : Nat) (b : List Int) (p : Int) (gR gE : Nat) (c s kd : Int) (t : ByteArray) (v o : Int) : Prop where
  at_ : spec_l20Entry.At w0 w W g b p gR
  ent : W.heap[gE]? = some (.cells (spec_l20Entry.row c s kd t v o) 31 (0, 0))
  lowE : w.heap.size ≤ gE
  low0E : w0.heap.size ≤ gE
  neE : g ≠ gE
  neR : gR ≠ gE
section
variable {w0 w W W' : World} {g : Nat} {b : List Int} {p p' : Int} {gR gE : Nat} {c s kd : Int} {t : ByteArray} {v o : Int}
theorem spec_l20Entry.Et.on (h : spec_l20Entry.Et w0 w W g b p gR gE c s kd t v o) (rd : IsS77 w0 W' g b p') (bel : Below w0.heap.size w0 W') (k : KeepBut W W' g none) : spec_l20Entry.Et w0 w W' g b p' gR gE c s kd t v o :=
  ⟨h.at_.on rd bel k, k.blk h.ent h.neE.symm (by simp), h.lowE, h.low0E, h.neE, h.neR⟩
theorem spec_l20Entry.Et.grown (h : spec_l20Entry.Et w0 w W g b p gR gE c s kd t v o) (hb : Below W.heap.size W W') : spec_l20Entry.Et w0 w W' g b p gR gE c s kd t v o :=
  h.on (h.at_.rd.below hb) (below_step h.at_.bel hb) (KeepBut.of_below hb g none)
theorem spec_l20Entry.Et.drew (h : spec_l20Entry.Et w0 w W g b p gR gE c s kd t v o) : spec_l20Entry.Et w0 w W.drew g b p gR gE c s kd t v o :=
  h.on h.at_.rd.drew (below_drew h.at_.bel) (keep_drew (KeepBut.refl _ _ _))
theorem spec_l20Entry.Et.fill (h : spec_l20Entry.Et w0 w W g b p gR gE 0 0 0 ⟨#[]⟩ 0 0) (c s kd : Int) (t : ByteArray) (v o : Int) :
    spec_l20Entry.Et w0 w ((((((W.setCell ⟨gE, 0, none⟩ (.int .i64 c)).setCell ⟨gE, 1, none⟩ (.int .i64 s)).setCell ⟨gE, 2, none⟩ (.int .i64 kd)).setCell ⟨gE, 3, none⟩ (.string t)).setCell ⟨gE, 4, none⟩ (.int .i64 v)).setCell ⟨gE, 5, none⟩ (.int .i64 o)) g b p gR gE c s kd t v o := by
  have hd := h.at_
  have hb := h.low0E
  refine ⟨⟨(((((hd.rd.far (p := ⟨gE, 0, none⟩) h.neE _).far (p := ⟨gE, 1, none⟩) h.neE _).far (p := ⟨gE, 2, none⟩) h.neE _).far (p := ⟨gE, 3, none⟩) h.neE _).far (p := ⟨gE, 4, none⟩) h.neE _).far (p := ⟨gE, 5, none⟩) h.neE _,
    below_set (below_set (below_set (below_set (below_set (below_set hd.bel hb) hb) hb) hb) hb) hb,
    keep_far (keep_far (keep_far (keep_far (keep_far (keep_far hd.keep (p := ⟨gE, 0, none⟩) h.lowE _) (p := ⟨gE, 1, none⟩) h.lowE _) (p := ⟨gE, 2, none⟩) h.lowE _) (p := ⟨gE, 3, none⟩) h.lowE _) (p := ⟨gE, 4, none⟩) h.lowE _) (p := ⟨gE, 5, none⟩) h.lowE _,
    spec_l20Entry.far hd.res h.neR _ _ _ _ _ _, hd.low, hd.low0, hd.ne⟩, spec_l20Entry.filled h.ent _ _ _ _ _ _, h.lowE, h.low0E, h.neE, h.neR⟩
end

def spec_l20Entry.T3 : Bool × List (List Nat × List Nat) := (true, [([], []), ([], []), ([1], [1]), ([2], [2]), ([], []), ([4], [4]), ([5], [5]), ([], []), ([7], [7]), ([8], [8]), ([], []), ([10], [10]), ([11], [11]), ([], []), ([0, 3, 6, 9, 12, 13], [0, 3, 6, 9, 12, 13]), ([], []), ([15], [15]), ([14, 16], [14, 16]), ([17], [17]), ([18, 16, 0, 1, 2, 3, 4, 5, 6, 7, 8, 9, 10, 11, 12, 13, 14, 15, 16, 17, 18], [18])])
def spec_l20Entry.B3 : List Nat := [0, 0, 2, 6, 0, 16, 48, 0, 128, 384, 0, 1024, 3072, 0, 16383, 0, 32768, 131071, 262143, 524287]
theorem spec_l20Entry.tab3 : rtab .any (opsOf Try.f47 3) = spec_l20Entry.T3 := by kernel_rfl
theorem spec_l20Entry.bits3 : waitsOk spec_l20Entry.T3.2 spec_l20Entry.B3 = true := by kernel_rfl

set_option maxHeartbeats 4000000 in
set_option maxRecDepth 100000 in
theorem spec_l20Entry.calls (k : Nat) (g : Nat) (b : List Int) (p : Int) (n : Int) (r1 : Int) (r2 : Int) (r3 : Int) (r4 : ByteArray) (r5 : Int) (r6 : Int) (r7 : Int) (w0 w : World) (hI : IsS77 w0 w g b p) (hB : Below w0.heap.size w0 w) (h : spec_l20Entry.f k b p n = some (r1, r2, r3, r4, r5, r6, r7)) :
    Calls Try.prog 47 #[.pointer (some ⟨g, 0, none⟩), .int .i64 n] w fun e w' => e = .returned (.agg #[.int .i64 r1, .int .i64 r2, .int .i64 r3, .string r4, .int .i64 r5, .int .i64 r6]) ∧ IsS77 w0 w' g b r7 ∧ Below w0.heap.size w0 w' ∧ KeepBut w w' g none := by
  have hu := Try.underlying31
  have huc := Try.underlying29
  have HI := Aside0.mk hI
  have HB := Aside0.mk hB
  clear hI hB
  unfold spec_l20Entry.f at h
  obtain ⟨⟨t1, p1⟩, h1, h⟩ := Option.bind_eq_some_iff.mp h
  obtain ⟨⟨t2, p2⟩, h2, h⟩ := Option.bind_eq_some_iff.mp h
  obtain ⟨⟨k1, k2, k3, k4, p3⟩, h3, h⟩ := Option.bind_eq_some_iff.mp h
  obtain ⟨⟨od, p4⟩, h4, h⟩ := Option.bind_eq_some_iff.mp h
  dsimp only at h2 h3 h4 h
  have X1 := Aside0.mk h1
  have X2 := Aside0.mk h2
  have X3 := Aside0.mk h3
  have X4 := Aside0.mk h4
  clear h1 h2 h3 h4
  cases od with
  | false =>
    rw [if_neg (by simp)] at h
    obtain ⟨rfl, rfl, rfl, rfl, rfl, rfl, rfl⟩ : t1 = r1 ∧ wrap64 (1 + t2) = r2 ∧ k1 = r3 ∧ k2 = r4 ∧ k3 = r5 ∧ k4 = r6 ∧ p4 = r7 := by simpa using h
    clear h
    go_enter Try.func47, Try.ntmps47
    go_wp2_with (first
      | ((with_reducible refine gate_dst (N := 4) rfl ?_); refine box_event ?hg (N := 4) ?hd (cs := #[.int .i64 0, .int .i64 0, .int .i64 0, .string (⟨#[]⟩ : ByteArray), .int .i64 0, .int .i64 0]) (t := 31) ?hr ?_; (case hd => rfl); (case hg => rfl); (case hr => first | (go_simp; done) | (go_simp; rfl)); intro gR hgR w1 hc1 hb1; have S1 := Aside0.mk (show spec_l20Entry.At w0 w w1 g b p gR from ⟨HI.out.below hb1, below_step HB.out hb1, KeepBut.of_below hb1 g none, hc1, Nat.le_of_eq hgR.symm, hgR ▸ HB.out.size, Nat.ne_of_lt (hgR ▸ HI.out.lt)⟩); clear hc1 hb1 hgR)
      | (go_at_call 48; (with_reducible refine (spec_l20Rd_pick.calls k g b p 4 t1 p1 w0 _ ?side1 ?side2 X1.out).mono ?_); (case side1 => exact S1.out.rd); (case side2 => exact S1.out.bel); rintro e w2 ⟨rfl, hi, hb, hk⟩; have S2 := Aside0.mk (S1.out.on hi hb hk); clear hi hb hk)
      | (go_at_call 48; (with_reducible refine (spec_l20Rd_pick.calls k g b p1 6 t2 p2 w0 _ ?side1 ?side2 X2.out).mono ?_); (case side1 => exact S2.out.rd); (case side2 => exact S2.out.bel); rintro e w3 ⟨rfl, hi, hb, hk⟩; have S3 := Aside0.mk (S2.out.on hi hb hk); clear hi hb hk)
      | (go_at_call 59; (with_reducible refine (spec_l20Any.calls k g b p2 0 k1 k2 k3 k4 p3 w0 _ ?side1 ?side2 X3.out).mono ?_); (case side1 => exact S3.out.rd); (case side2 => exact S3.out.bel); rintro e w4 ⟨rfl, hi, hb, hk⟩; have S4 := Aside0.mk (S3.out.on hi hb hk); clear hi hb hk)
      | ((with_reducible refine gate_dst (N := 5) rfl ?_); refine box_event ?hg (N := 5) ?hd (cs := #[.int .i64 0, .int .i64 0, .int .i64 0, .string (⟨#[]⟩ : ByteArray), .int .i64 0, .int .i64 0]) (t := 31) ?hr ?_; (case hd => rfl); (case hg => rfl); (case hr => first | (go_simp; done) | (go_simp; rfl)); intro gE hgE w5 hc5 hb5; have S5 := Aside0.mk (show spec_l20Entry.Et w0 w w5 g b p3 gR gE 0 0 0 ⟨#[]⟩ 0 0 from ⟨S4.out.on (S4.out.rd.below hb5) (below_step S4.out.bel hb5) (KeepBut.of_below hb5 g none), hc5, hgE ▸ keep_size S4.out.keep, hgE ▸ S4.out.bel.size, Nat.ne_of_lt (hgE ▸ S4.out.rd.lt), Nat.ne_of_lt (hgE ▸ blk_lt S4.out.res)⟩); clear hc5 hb5 hgE; obtain ⟨cgEw50, cgEw51, cgEw52, cgEw53, cgEw54, cgEw55, fgEw50, fgEw51, fgEw52, fgEw53, fgEw54, fgEw55⟩ := spec_l20Entry.cells6 S5.out.ent)
      | (go_at_call 60; (with_reducible refine (spec_l20Rd_odd.calls k g b p3 n false p4 w0 _ ?side1 ?side2 X4.out).mono ?_); (case side1 => exact (S5.out.fill t1 (wrap64 (1 + t2)) k1 k2 k3 k4).at_.rd); (case side2 => exact (S5.out.fill t1 (wrap64 (1 + t2)) k1 k2 k3 k4).at_.bel); rintro e w6 ⟨rfl, hi, hb, hk⟩; have S6 := Aside0.mk ((S5.out.fill t1 (wrap64 (1 + t2)) k1 k2 k3 k4).on hi hb hk); clear hi hb hk; obtain ⟨cgEw60, cgEw61, cgEw62, cgEw63, cgEw64, cgEw65, fgEw60, fgEw61, fgEw62, fgEw63, fgEw64, fgEw65⟩ := spec_l20Entry.cells6 S6.out.ent; obtain ⟨cgRw60, cgRw61, cgRw62, cgRw63, cgRw64, cgRw65, fgRw60, fgRw61, fgRw62, fgRw63, fgRw64, fgRw65⟩ := spec_l20Entry.cells6 S6.out.at_.res; have nER := S6.out.neR; have nRE := S6.out.neR.symm))
    refine bodyPost_ret (results_cell_row rfl _ _ gR 31 _ (0, 0) _ rfl (spec_l20Entry.filled S6.out.at_.res t1 (wrap64 (1 + t2)) k1 k2 k3 k4) Try.underlying31 rfl (by kernel_rfl)) rfl ?_
    exact ⟨rfl, (S6.out.at_).out_ _ _ _ _ _ _⟩
  | true =>
    rw [if_pos rfl] at h
    obtain ⟨⟨i, p5⟩, h5, h⟩ := Option.bind_eq_some_iff.mp h
    dsimp only at h
    have X5 := Aside0.mk h5
    clear h5
    unfold spec_l20Entry.one at h
    by_cases hj : 0 ≤ i ∧ i < ((spec_l20Entry.odds ⟨k1, k2, k3, k4⟩).length : Int)
    · rw [if_pos hj] at h
      simp only [Option.some.injEq, Prod.mk.injEq] at h
      obtain ⟨rfl, rfl, rfl, rfl, rfl, rfl, rfl⟩ := h
      have J := Aside0.mk hj
      clear hj
      go_enter Try.func47, Try.ntmps47
      go_wp2_with (first
        | ((with_reducible refine gate_dst (N := 4) rfl ?_); refine box_event ?hg (N := 4) ?hd (cs := #[.int .i64 0, .int .i64 0, .int .i64 0, .string (⟨#[]⟩ : ByteArray), .int .i64 0, .int .i64 0]) (t := 31) ?hr ?_; (case hd => rfl); (case hg => rfl); (case hr => first | (go_simp; done) | (go_simp; rfl)); intro gR hgR w1 hc1 hb1; have S1 := Aside0.mk (show spec_l20Entry.At w0 w w1 g b p gR from ⟨HI.out.below hb1, below_step HB.out hb1, KeepBut.of_below hb1 g none, hc1, Nat.le_of_eq hgR.symm, hgR ▸ HB.out.size, Nat.ne_of_lt (hgR ▸ HI.out.lt)⟩); clear hc1 hb1 hgR)
        | (go_at_call 48; (with_reducible refine (spec_l20Rd_pick.calls k g b p 4 t1 p1 w0 _ ?side1 ?side2 X1.out).mono ?_); (case side1 => exact S1.out.rd); (case side2 => exact S1.out.bel); rintro e w2 ⟨rfl, hi, hb, hk⟩; have S2 := Aside0.mk (S1.out.on hi hb hk); clear hi hb hk)
        | (go_at_call 48; (with_reducible refine (spec_l20Rd_pick.calls k g b p1 6 t2 p2 w0 _ ?side1 ?side2 X2.out).mono ?_); (case side1 => exact S2.out.rd); (case side2 => exact S2.out.bel); rintro e w3 ⟨rfl, hi, hb, hk⟩; have S3 := Aside0.mk (S2.out.on hi hb hk); clear hi hb hk)
        | (go_at_call 59; (with_reducible refine (spec_l20Any.calls k g b p2 0 k1 k2 k3 k4 p3 w0 _ ?side1 ?side2 X3.out).mono ?_); (case side1 => exact S3.out.rd); (case side2 => exact S3.out.bel); rintro e w4 ⟨rfl, hi, hb, hk⟩; have S4 := Aside0.mk (S3.out.on hi hb hk); clear hi hb hk)
        | ((with_reducible refine gate_dst (N := 5) rfl ?_); refine box_event ?hg (N := 5) ?hd (cs := #[.int .i64 0, .int .i64 0, .int .i64 0, .string (⟨#[]⟩ : ByteArray), .int .i64 0, .int .i64 0]) (t := 31) ?hr ?_; (case hd => rfl); (case hg => rfl); (case hr => first | (go_simp; done) | (go_simp; rfl)); intro gE hgE w5 hc5 hb5; have S5 := Aside0.mk (show spec_l20Entry.Et w0 w w5 g b p3 gR gE 0 0 0 ⟨#[]⟩ 0 0 from ⟨S4.out.on (S4.out.rd.below hb5) (below_step S4.out.bel hb5) (KeepBut.of_below hb5 g none), hc5, hgE ▸ keep_size S4.out.keep, hgE ▸ S4.out.bel.size, Nat.ne_of_lt (hgE ▸ S4.out.rd.lt), Nat.ne_of_lt (hgE ▸ blk_lt S4.out.res)⟩); clear hc5 hb5 hgE; obtain ⟨cgEw50, cgEw51, cgEw52, cgEw53, cgEw54, cgEw55, fgEw50, fgEw51, fgEw52, fgEw53, fgEw54, fgEw55⟩ := spec_l20Entry.cells6 S5.out.ent)
        | (go_at_call 60; (with_reducible refine (spec_l20Rd_odd.calls k g b p3 n true p4 w0 _ ?side1 ?side2 X4.out).mono ?_); (case side1 => exact (S5.out.fill t1 (wrap64 (1 + t2)) k1 k2 k3 k4).at_.rd); (case side2 => exact (S5.out.fill t1 (wrap64 (1 + t2)) k1 k2 k3 k4).at_.bel); rintro e w6 ⟨rfl, hi, hb, hk⟩; have S6 := Aside0.mk ((S5.out.fill t1 (wrap64 (1 + t2)) k1 k2 k3 k4).on hi hb hk); clear hi hb hk))
      refine start_ (n := 20) (S := fun W => W.heap[gE]? = some (.cells (spec_l20Entry.row t1 (wrap64 (1 + t2)) k1 k2 k3 k4) 31 (0, 0))) (ds := []) #[false, false, false, false, false, false, false, false, false, false, false, false, false, false, false, false, false, false, false, false] (by kernel_rfl) rfl rfl (blk_drew S6.out.ent) (fun hHeld => ?_); refine with_tabW spec_l20Entry.tab3 spec_l20Entry.bits3 (fun HT_ HW_ => ?_)
      have S7 := Aside0.mk S6.out.drew
      clear S6
      generalize w6.drew = w7 at S7 hHeld ⊢
      refine pure_ (i := 0) (N := some 17) (v := ?_) (a' := ?_) (bits 20 1) rfl rfl (any_of HT_.out (by kernel_rfl)) (fun _ _ _ h => h) (Or.inl ⟨by rfl, ?_⟩) ?_ ?_
      rotate_left
      · intro w'
        go_simp
        with_reducible rfl
      rotate_left
      · simp only [Act.put, List.setIfInBounds_toArray, List.set_cons_zero, List.set_cons_succ, i64_w, i32_w]
        rfl
      refine pure_ (i := 1) (N := some 18) (v := ?_) (a' := ?_) (bits 20 3) rfl rfl (any_of HT_.out (by kernel_rfl)) (fun _ _ _ h => h) (Or.inl ⟨by rfl, ?_⟩) ?_ ?_
      rotate_left
      · intro w'
        go_simp
        with_reducible rfl
      rotate_left
      · simp only [Act.put, List.setIfInBounds_toArray, List.set_cons_zero, List.set_cons_succ, i64_w, i32_w]
        rfl
      refine pure_ (i := 4) (N := some 21) (v := ?_) (a' := ?_) (bits 20 19) rfl rfl (any_of HT_.out (by kernel_rfl)) (fun _ _ _ h => h) (Or.inl ⟨by rfl, ?_⟩) ?_ ?_
      rotate_left
      · intro w'
        go_simp
        with_reducible rfl
      rotate_left
      · simp only [Act.put, List.setIfInBounds_toArray, List.set_cons_zero, List.set_cons_succ, i64_w, i32_w]
        rfl
      refine pure_ (i := 7) (N := some 24) (v := ?_) (a' := ?_) (bits 20 147) rfl rfl (any_of HT_.out (by kernel_rfl)) (fun _ _ _ h => h) (Or.inl ⟨by rfl, ?_⟩) ?_ ?_
      rotate_left
      · intro w'
        go_simp
        with_reducible rfl
      rotate_left
      · simp only [Act.put, List.setIfInBounds_toArray, List.set_cons_zero, List.set_cons_succ, i64_w, i32_w]
        rfl
      refine pure_ (i := 10) (N := some 27) (v := ?_) (a' := ?_) (bits 20 1171) rfl rfl (any_of HT_.out (by kernel_rfl)) (fun _ _ _ h => h) (Or.inl ⟨by rfl, ?_⟩) ?_ ?_
      rotate_left
      · intro w'
        go_simp
        with_reducible rfl
      rotate_left
      · simp only [Act.put, List.setIfInBounds_toArray, List.set_cons_zero, List.set_cons_succ, i64_w, i32_w]
        rfl
      refine take_ (i := 2) (N := some 19) (v := ?_) (a' := ?_) (bits 20 1175) rfl rfl (take_ofW HT_.out HW_.out (by kernel_rfl)) (fun _ _ _ h => h) (Or.inl ⟨by rfl, ?_⟩) hHeld ?_ ?_
      rotate_left
      · intro w' hS
        have h2 : w'.cell? ⟨gE, 2, none⟩ = some (.int .i64 k1) := (blk_cell hS 2).trans rfl
        have h3 : w'.cell? ⟨gE, 3, none⟩ = some (.string k2) := (blk_cell hS 3).trans rfl
        have h4 : w'.cell? ⟨gE, 4, none⟩ = some (.int .i64 k3) := (blk_cell hS 4).trans rfl
        have h5 : w'.cell? ⟨gE, 5, none⟩ = some (.int .i64 k4) := (blk_cell hS 5).trans rfl
        go_simp
        with_reducible rfl
      rotate_left
      · simp only [Act.put, List.setIfInBounds_toArray, List.set_cons_zero, List.set_cons_succ, i64_w, i32_w]
        rfl
      refine take_ (i := 5) (N := some 22) (v := ?_) (a' := ?_) (bits 20 1207) rfl rfl (take_ofW HT_.out HW_.out (by kernel_rfl)) (fun _ _ _ h => h) (Or.inl ⟨by rfl, ?_⟩) hHeld ?_ ?_
      rotate_left
      · intro w' hS
        have h2 : w'.cell? ⟨gE, 2, none⟩ = some (.int .i64 k1) := (blk_cell hS 2).trans rfl
        have h3 : w'.cell? ⟨gE, 3, none⟩ = some (.string k2) := (blk_cell hS 3).trans rfl
        have h4 : w'.cell? ⟨gE, 4, none⟩ = some (.int .i64 k3) := (blk_cell hS 4).trans rfl
        have h5 : w'.cell? ⟨gE, 5, none⟩ = some (.int .i64 k4) := (blk_cell hS 5).trans rfl
        go_simp
        with_reducible rfl
      rotate_left
      · simp only [Act.put, List.setIfInBounds_toArray, List.set_cons_zero, List.set_cons_succ, i64_w, i32_w]
        rfl
      refine take_ (i := 8) (N := some 25) (v := ?_) (a' := ?_) (bits 20 1463) rfl rfl (take_ofW HT_.out HW_.out (by kernel_rfl)) (fun _ _ _ h => h) (Or.inl ⟨by rfl, ?_⟩) hHeld ?_ ?_
      rotate_left
      · intro w' hS
        have h2 : w'.cell? ⟨gE, 2, none⟩ = some (.int .i64 k1) := (blk_cell hS 2).trans rfl
        have h3 : w'.cell? ⟨gE, 3, none⟩ = some (.string k2) := (blk_cell hS 3).trans rfl
        have h4 : w'.cell? ⟨gE, 4, none⟩ = some (.int .i64 k3) := (blk_cell hS 4).trans rfl
        have h5 : w'.cell? ⟨gE, 5, none⟩ = some (.int .i64 k4) := (blk_cell hS 5).trans rfl
        go_simp
        with_reducible rfl
      rotate_left
      · simp only [Act.put, List.setIfInBounds_toArray, List.set_cons_zero, List.set_cons_succ, i64_w, i32_w]
        rfl
      refine take_ (i := 11) (N := some 28) (v := ?_) (a' := ?_) (bits 20 3511) rfl rfl (take_ofW HT_.out HW_.out (by kernel_rfl)) (fun _ _ _ h => h) (Or.inl ⟨by rfl, ?_⟩) hHeld ?_ ?_
      rotate_left
      · intro w' hS
        have h2 : w'.cell? ⟨gE, 2, none⟩ = some (.int .i64 k1) := (blk_cell hS 2).trans rfl
        have h3 : w'.cell? ⟨gE, 3, none⟩ = some (.string k2) := (blk_cell hS 3).trans rfl
        have h4 : w'.cell? ⟨gE, 4, none⟩ = some (.int .i64 k3) := (blk_cell hS 4).trans rfl
        have h5 : w'.cell? ⟨gE, 5, none⟩ = some (.int .i64 k4) := (blk_cell hS 5).trans rfl
        go_simp
        with_reducible rfl
      rotate_left
      · simp only [Act.put, List.setIfInBounds_toArray, List.set_cons_zero, List.set_cons_succ, i64_w, i32_w]
        rfl
      refine pure_ (i := 3) (N := some 20) (v := ?_) (a' := ?_) (bits 20 3519) rfl rfl (any_of HT_.out (by kernel_rfl)) (fun _ _ _ h => h) (Or.inl ⟨by rfl, ?_⟩) ?_ ?_
      rotate_left
      · intro w'
        go_simp
        with_reducible rfl
      rotate_left
      · simp only [Act.put, List.setIfInBounds_toArray, List.set_cons_zero, List.set_cons_succ, i64_w, i32_w]
        rfl
      refine pure_ (i := 6) (N := some 23) (v := ?_) (a' := ?_) (bits 20 3583) rfl rfl (any_of HT_.out (by kernel_rfl)) (fun _ _ _ h => h) (Or.inl ⟨by rfl, ?_⟩) ?_ ?_
      rotate_left
      · intro w'
        go_simp
        with_reducible rfl
      rotate_left
      · simp only [Act.put, List.setIfInBounds_toArray, List.set_cons_zero, List.set_cons_succ, i64_w, i32_w]
        rfl
      refine pure_ (i := 9) (N := some 26) (v := ?_) (a' := ?_) (bits 20 4095) rfl rfl (any_of HT_.out (by kernel_rfl)) (fun _ _ _ h => h) (Or.inl ⟨by rfl, ?_⟩) ?_ ?_
      rotate_left
      · intro w'
        go_simp
        with_reducible rfl
      rotate_left
      · simp only [Act.put, List.setIfInBounds_toArray, List.set_cons_zero, List.set_cons_succ, i64_w, i32_w]
        rfl
      refine pure_ (i := 12) (N := some 29) (v := ?_) (a' := ?_) (bits 20 8191) rfl rfl (any_of HT_.out (by kernel_rfl)) (fun _ _ _ h => h) (Or.inl ⟨by rfl, ?_⟩) ?_ ?_
      rotate_left
      · intro w'
        go_simp
        with_reducible rfl
      rotate_left
      · simp only [Act.put, List.setIfInBounds_toArray, List.set_cons_zero, List.set_cons_succ, i64_w, i32_w]
        rfl
      refine pure_ (i := 13) (N := some 30) (v := ?_) (a' := ?_) (bits 20 16383) rfl rfl (any_of HT_.out (by kernel_rfl)) (fun _ _ _ h => h) (Or.inl ⟨by rfl, ?_⟩) ?_ ?_
      rotate_left
      · intro w'
        go_simp
        with_reducible rfl
      rotate_left
      · simp only [Act.put, List.setIfInBounds_toArray, List.set_cons_zero, List.set_cons_succ, i64_w, i32_w]
        rfl
      refine pure_ (i := 15) (N := some 32) (v := ?_) (a' := ?_) (bits 20 49151) rfl rfl (any_of HT_.out (by kernel_rfl)) (fun _ _ _ h => h) (Or.inl ⟨by rfl, ?_⟩) ?_ ?_
      rotate_left
      · intro w'
        go_simp
        with_reducible rfl
      rotate_left
      · simp only [Act.put, List.setIfInBounds_toArray, List.set_cons_zero, List.set_cons_succ, i64_w, i32_w]
        rfl
      refine join_ (σ := Value) 3 (bits 20 131071) (fun v => [(31, v), (33, .int .i64 i)]) (fun v W => spec_l20Entry.Et w0 w W g b p5 gR gE t1 (wrap64 (1 + t2)) k1 k2 k3 k4 ∧ Kd.R k31 31 W w.heap.size (fun k => True ∧ k ≠ g) v (spec_l20Entry.odds ⟨k1, k2, k3, k4⟩)) ?cont ?both
      case cont =>
        intro v W ⟨S8, HO⟩
        have hHeld := S8.ent
        refine norm_ (a' := ?_) ?_ ?_
        rotate_left
        · simp only [putAll]
          simp only [Act.put, List.setIfInBounds_toArray, List.set_cons_zero, List.set_cons_succ, i64_w, i32_w]
          rfl
        obtain ⟨Ao, co, rfl⟩ := Kd.R_slice HO
        obtain ⟨ad, hA, x0, x1, x2, x3, x4, x5⟩ := at_T31 (Kd.R_reads' HO).2.2 i J.out.1 J.out.2
        subst hA
        have q0 : (0 ≤ i) = True := eq_true J.out.1
        have q1 : (i < ((spec_l20Entry.odds ⟨k1, k2, k3, k4⟩).length : Int)) = True := eq_true J.out.2
        refine pure_ (i := 17) (N := some 34) (v := ?_) (a' := ?_) (bits 20 262143) rfl rfl (any_of HT_.out (by kernel_rfl)) (fun _ _ _ h => h) (Or.inl ⟨by rfl, ?_⟩) ?_ ?_
        rotate_left
        · intro w'
          go_simp
          with_reducible rfl
        rotate_left
        · simp only [Act.put, List.setIfInBounds_toArray, List.set_cons_zero, List.set_cons_succ, i64_w, i32_w]
          rfl
        refine one_ (i := 18) (N := some 35) (bits 20 524287) rfl rfl (one_of HT_.out (by kernel_rfl)) (by decide) (fun K hK => ?_)
        refine value_ (v := .agg #[.int .i64 (rd_T31 (spec_l20Entry.odds ⟨k1, k2, k3, k4⟩) i).f0, .int .i64 (rd_T31 (spec_l20Entry.odds ⟨k1, k2, k3, k4⟩) i).f1, .int .i64 (rd_T31 (spec_l20Entry.odds ⟨k1, k2, k3, k4⟩) i).f2.f0, .string (rd_T31 (spec_l20Entry.odds ⟨k1, k2, k3, k4⟩) i).f2.f1, .int .i64 (rd_T31 (spec_l20Entry.odds ⟨k1, k2, k3, k4⟩) i).f2.f2, .int .i64 (rd_T31 (spec_l20Entry.odds ⟨k1, k2, k3, k4⟩) i).f2.f3]) (w1 := W) rfl rfl ?hr ?_
        (case hr => first | (go_simp; done) | (go_simp; rfl))
        refine hK.out _ _ hHeld (fun hHeld => ?_)
        clear hK K
        refine norm_ (a' := ?_) ?_ ?_
        rotate_left
        · show Act.put _ (some 35) _ = _
          simp only [Act.put, List.setIfInBounds_toArray, List.set_cons_zero, List.set_cons_succ, i64_w, i32_w]
          rfl
        have nER := S8.neR
        have nRE := S8.neR.symm
        have cR0 : W.cell? ⟨gR, 0, none⟩ = some (.int .i64 0) := (blk_cell S8.at_.res 0).trans rfl
        have cR1 : W.cell? ⟨gR, 1, none⟩ = some (.int .i64 0) := (blk_cell S8.at_.res 1).trans rfl
        have cR2 : W.cell? ⟨gR, 2, none⟩ = some (.int .i64 0) := (blk_cell S8.at_.res 2).trans rfl
        have cR3 : W.cell? ⟨gR, 3, none⟩ = some (.string (⟨#[]⟩ : ByteArray)) := (blk_cell S8.at_.res 3).trans rfl
        have cR4 : W.cell? ⟨gR, 4, none⟩ = some (.int .i64 0) := (blk_cell S8.at_.res 4).trans rfl
        have cR5 : W.cell? ⟨gR, 5, none⟩ = some (.int .i64 0) := (blk_cell S8.at_.res 5).trans rfl
        have fR0 := blk_frozen S8.at_.res 0
        have fR1 := blk_frozen S8.at_.res 1
        have fR2 := blk_frozen S8.at_.res 2
        have fR3 := blk_frozen S8.at_.res 3
        have fR4 := blk_frozen S8.at_.res 4
        have fR5 := blk_frozen S8.at_.res 5
        refine one_ (i := 19) (N := none) (bits 20 1048575) rfl rfl (one_of HT_.out (by kernel_rfl)) (by decide) (fun K hK => ?_)
        refine skip_ (w1 := ((((((W.setCell ⟨gR, 0, none⟩ (.int .i64 (rd_T31 (spec_l20Entry.odds ⟨k1, k2, k3, k4⟩) i).f0)).setCell ⟨gR, 1, none⟩ (.int .i64 (rd_T31 (spec_l20Entry.odds ⟨k1, k2, k3, k4⟩) i).f1)).setCell ⟨gR, 2, none⟩ (.int .i64 (rd_T31 (spec_l20Entry.odds ⟨k1, k2, k3, k4⟩) i).f2.f0)).setCell ⟨gR, 3, none⟩ (.string (rd_T31 (spec_l20Entry.odds ⟨k1, k2, k3, k4⟩) i).f2.f1)).setCell ⟨gR, 4, none⟩ (.int .i64 (rd_T31 (spec_l20Entry.odds ⟨k1, k2, k3, k4⟩) i).f2.f2)).setCell ⟨gR, 5, none⟩ (.int .i64 (rd_T31 (spec_l20Entry.odds ⟨k1, k2, k3, k4⟩) i).f2.f3))) rfl rfl ?hr ?_
        (case hr => first | (go_simp; done) | (go_simp; rfl))
        refine hK.out _ _ (spec_l20Entry.far S8.ent nRE _ _ _ _ _ _) (fun hHeld => ?_)
        clear hK K
        refine done_ (done_of HT_.out (by kernel_rfl)) ?_
        try go_wp2
        refine bodyPost_ret (results_cell_row rfl _ _ gR 31 _ (0, 0) _ rfl (spec_l20Entry.filled S8.at_.res (rd_T31 (spec_l20Entry.odds ⟨k1, k2, k3, k4⟩) i).f0 (rd_T31 (spec_l20Entry.odds ⟨k1, k2, k3, k4⟩) i).f1 (rd_T31 (spec_l20Entry.odds ⟨k1, k2, k3, k4⟩) i).f2.f0 (rd_T31 (spec_l20Entry.odds ⟨k1, k2, k3, k4⟩) i).f2.f1 (rd_T31 (spec_l20Entry.odds ⟨k1, k2, k3, k4⟩) i).f2.f2 (rd_T31 (spec_l20Entry.odds ⟨k1, k2, k3, k4⟩) i).f2.f3) Try.underlying31 rfl (by kernel_rfl)) rfl ?_
        exact ⟨rfl, (S8.at_).out_ _ _ _ _ _ _⟩
      case both =>
        intro hjoin
        refine two_ (i := 14) (j := 16) (Ni := some 31) (Nj := some 33) (bits 20 65535) (bits 20 114687) rfl rfl rfl rfl (two_of HT_.out (by kernel_rfl)) (by decide) (by decide) (fun K hK => ?_) (fun K hK => ?_)
        · refine Kd.R_lit_step k31 _ 31 rfl (N := 31) rfl (xs := spec_l20Entry.odds ⟨k1, k2, k3, k4⟩) (inner := spec_l20Entry.cells ⟨k1, k2, k3, k4⟩) (ok := fun _ => True) (okp := fun _ => True) ?hr (spec_l20Entry.reps _ _ _ _) (fun _ hk => hk) trivial (Below.refl _ _) (Nat.le_refl _) (by unfold spec_l20Entry.odds; simp) ?_
          (case hr => unfold spec_l20Entry.cells spec_l20Entry.odds; first | (go_simp; done) | (go_simp; rfl))
          intro v W ho hbel hg _
          have S9 := Aside0.mk (S7.out.grown hbel)
          have HO := Aside0.mk (S9.out.at_.rd.apart (Kd.R_lower ho (keep_size S7.out.at_.keep)) (by decide))
          clear ho hg hbel
          refine hK.out _ _ S9.out.ent (fun hHeld => ?_)
          clear hK K
          refine norm_ (a' := ?_) ?_ ?_
          rotate_left
          · show Act.put _ (some 31) _ = _
            simp only [Act.put, List.setIfInBounds_toArray, List.set_cons_zero, List.set_cons_succ, i64_w, i32_w]
            rfl
          refine one_ (i := 16) (N := some 33) (bits 20 131071) rfl rfl (one_of HT_.out (by kernel_rfl)) (by decide) (fun K hK => ?_)
          refine goes_ Try.func48 (by kernel_rfl) rfl #[.pointer (some ⟨g, 0, none⟩), .int .i64 6] (by rfl) rfl rfl (by (try simp only [List.map_toArray, List.map_cons, List.map_nil]); rfl) ?_
          with_reducible refine (spec_l20Rd_pick.calls k g b p4 6 i p5 w0 _ S9.out.at_.rd S9.out.at_.bel X5.out).mono ?_
          rintro e W2 ⟨rfl, hi, hb, hk⟩
          refine ⟨_, rfl, ?_⟩
          have S10 := Aside0.mk (S9.out.on hi hb hk)
          refine hK.out _ _ S10.out.ent (fun _ => ?_)
          exact hjoin v W2 ⟨S10.out, Kd.R_keep HO.out hk (fun _ h => h.2)⟩
        · refine goes_ Try.func48 (by kernel_rfl) rfl #[.pointer (some ⟨g, 0, none⟩), .int .i64 6] (by rfl) rfl rfl (by (try simp only [List.map_toArray, List.map_cons, List.map_nil]); rfl) ?_
          with_reducible refine (spec_l20Rd_pick.calls k g b p4 6 i p5 w0 _ S7.out.at_.rd S7.out.at_.bel X5.out).mono ?_
          rintro e W2 ⟨rfl, hi, hb, hk⟩
          refine ⟨_, rfl, ?_⟩
          have S10 := Aside0.mk (S7.out.on hi hb hk)
          clear hi hb hk
          refine hK.out _ _ S10.out.ent (fun hHeld => ?_)
          clear hK K
          refine norm_ (a' := ?_) ?_ ?_
          rotate_left
          · show Act.put _ (some 33) _ = _
            simp only [Act.put, List.setIfInBounds_toArray, List.set_cons_zero, List.set_cons_succ, i64_w, i32_w]
            rfl
          refine one_ (i := 14) (N := some 31) (bits 20 131071) rfl rfl (one_of HT_.out (by kernel_rfl)) (by decide) (fun K hK => ?_)
          refine Kd.R_lit_step k31 _ 31 rfl (N := 31) rfl (xs := spec_l20Entry.odds ⟨k1, k2, k3, k4⟩) (inner := spec_l20Entry.cells ⟨k1, k2, k3, k4⟩) (ok := fun _ => True) (okp := fun _ => True) ?hr (spec_l20Entry.reps _ _ _ _) (fun _ hk => hk) trivial (Below.refl _ _) (Nat.le_refl _) (by unfold spec_l20Entry.odds; simp) ?_
          (case hr => unfold spec_l20Entry.cells spec_l20Entry.odds; first | (go_simp; done) | (go_simp; rfl))
          intro v W ho hbel hg _
          have S9 := Aside0.mk (S10.out.grown hbel)
          have HO := Aside0.mk (S9.out.at_.rd.apart (Kd.R_lower ho (keep_size S10.out.at_.keep)) (by decide))
          clear ho hg hbel
          refine hK.out _ _ S9.out.ent (fun _ => ?_)
          exact hjoin v W ⟨S9.out, HO.out⟩
    · rw [if_neg hj] at h
      cases h



def spec_DrawEncodeEntry.f (k : Nat) (l : List Int) : Option (Int × Int × Int × ByteArray × Int × Int) :=
  (spec_l20Open.f l).bind fun x => (spec_l20Entry.f k x.1 x.2 6).bind fun e => (spec_l20Rd_pick.f k x.1 e.2.2.2.2.2.2 4).bind fun t =>
    if t.1 = 0 then (spec_l20Rd_pick.f k x.1 t.2 3).bind fun i => if 0 ≤ i.1 ∧ i.1 < (([999, 127, 128] : List Int).length : Int) then some (e.1, rd [999, 127, 128] i.1, e.2.2.1, e.2.2.2.1, e.2.2.2.2.1, e.2.2.2.2.2.1) else none
    else some (e.1, e.2.1, e.2.2.1, e.2.2.2.1, e.2.2.2.2.1, e.2.2.2.2.2.1)
theorem spec_DrawEncodeEntry.below6 {w W : World} {g : Nat} (h : Below w.heap.size w W) (hg : w.heap.size ≤ g) (a c d e f v : Value) :
    Below w.heap.size w ((((((W.setCell ⟨g, 0, none⟩ a).setCell ⟨g, 1, none⟩ c).setCell ⟨g, 2, none⟩ d).setCell ⟨g, 3, none⟩ e).setCell ⟨g, 4, none⟩ f).setCell ⟨g, 5, none⟩ v) :=
  below_set (below_set (below_set (below_set (below_set (below_set h hg) hg) hg) hg) hg) hg

set_option maxHeartbeats 2000000 in
set_option maxRecDepth 100000 in
theorem spec_DrawEncodeEntry.calls (k : Nat) (A0 : Option Addr) (c0 : Nat) (l0 : List Int) (r1 r2 r3 : Int) (r4 : ByteArray) (r5 r6 : Int) (w : World) (hr0 : Kd.C (Kd.int .u8) w A0 l0.length l0) (hc0 : l0.length ≤ c0) (h : spec_DrawEncodeEntry.f k l0 = some (r1, r2, r3, r4, r5, r6)) :
    Calls Try.prog 22 #[.slice A0 l0.length c0] w fun e w' => e = .returned (.agg #[.int .i64 r1, .int .i64 r2, .int .i64 r3, .string r4, .int .i64 r5, .int .i64 r6]) ∧ Below w.heap.size w w' := by
  have hu := Try.underlying31
  have huc := Try.underlying29
  have HR0 := Aside0.mk hr0
  have HC0 := Aside0.mk hc0
  clear hr0 hc0
  unfold spec_DrawEncodeEntry.f at h
  replace h := Option.bind_eq_some_iff.mp h
  obtain ⟨⟨b, p⟩, h1, h⟩ := h
  replace h := Option.bind_eq_some_iff.mp h
  obtain ⟨⟨s1, s2, s3, s4, s5, s6, q⟩, h2, h⟩ := h
  replace h := Option.bind_eq_some_iff.mp h
  obtain ⟨⟨t, q2⟩, h3, h⟩ := h
  dsimp only at h2 h3 h
  have X1 := Aside0.mk h1
  have X2 := Aside0.mk h2
  clear h1 h2
  by_cases ht : t = 0
  · rw [if_pos ht] at h
    subst ht
    have X3 := Aside0.mk h3
    clear h3
    replace h := Option.bind_eq_some_iff.mp h
    obtain ⟨⟨i, q3⟩, h4, h⟩ := h
    dsimp only at h
    by_cases hj : 0 ≤ i ∧ i < (([999, 127, 128] : List Int).length : Int)
    · rw [if_pos hj] at h
      obtain ⟨rfl, rfl, rfl, rfl, rfl, rfl⟩ : s1 = r1 ∧ rd [999, 127, 128] i = r2 ∧ s3 = r3 ∧ s4 = r4 ∧ s5 = r5 ∧ s6 = r6 := by simpa using h
      have J := Aside0.mk hj
      have X4 := Aside0.mk h4
      clear h hj h4
      go_enter Try.func22, Try.ntmps22
      go_wp2_with (first
        | ((with_reducible refine gate_dst (N := 2) rfl ?_); refine box_event ?hg (N := 2) ?hd (cs := #[.int .i64 0, .int .i64 0, .int .i64 0, .string (⟨#[]⟩ : ByteArray), .int .i64 0, .int .i64 0]) (t := 31) ?hr ?_; (case hd => rfl); (case hg => rfl); (case hr => first | (go_simp; done) | (go_simp; rfl)); intro gR hgR w1 hc1 hb1; have R1 := Aside0.mk hc1; have B1 := Aside0.mk hb1; have L := Aside0.mk (Nat.le_of_eq hgR.symm); clear hc1 hb1 hgR)
        | (go_at_call 46; (with_reducible refine (spec_l20Open.calls _ _ l0 b p w _ ?side1 ?side2 ?side3 X1.out).mono ?_); (case side1 => exact B1.out); (case side2 => exact HR0.out); (case side3 => exact HC0.out); rintro e w2 ⟨g, rfl, hi, hb, hb1⟩; have R2 := Aside0.mk (blk_below R1.out hb1); have I2 := Aside0.mk hi; have B2 := Aside0.mk hb; have NR := Aside0.mk (hi.ne_blk (blk_below R1.out hb1) (by decide)); clear hi hb hb1)
        | (go_at_call 47; (with_reducible refine (spec_l20Entry.calls k g b p 6 s1 s2 s3 s4 s5 s6 q w _ ?side1 ?side2 X2.out).mono ?_); (case side1 => exact I2.out); (case side2 => exact B2.out); rintro e w3 ⟨rfl, hi, hb, hk⟩; have R3 := Aside0.mk (hk.blk R2.out NR.out.symm (by simp)); have I3 := Aside0.mk hi; have B3 := Aside0.mk hb; clear hi hb hk)
        | ((with_reducible refine gate_dst (N := 4) rfl ?_); refine box_event ?hg (N := 4) ?hd (cs := #[.int .i64 0, .int .i64 0, .int .i64 0, .string (⟨#[]⟩ : ByteArray), .int .i64 0, .int .i64 0]) (t := 31) ?hr ?_; (case hd => rfl); (case hg => rfl); (case hr => first | (go_simp; done) | (go_simp; rfl)); intro gE hgE w4 hc4 hb4; have R4 := Aside0.mk (blk_below R3.out hb4); have E4 := Aside0.mk hc4; have I4 := Aside0.mk (I3.out.below hb4); have B4 := Aside0.mk (below_step B3.out hb4); have LE := Aside0.mk (Nat.le_trans (below_size B3.out) (Nat.le_of_eq hgE.symm)); have NE := Aside0.mk (I4.out.ne_blk hc4 (by decide)); have RE := Aside0.mk (show gR ≠ gE from Nat.ne_of_lt (hgE ▸ blk_lt R3.out)); clear hc4 hb4 hgE; obtain ⟨cgEw40, cgEw41, cgEw42, cgEw43, cgEw44, cgEw45, fgEw40, fgEw41, fgEw42, fgEw43, fgEw44, fgEw45⟩ := spec_l20Entry.cells6 E4.out)
        | ((with_reducible refine gate_store (t := 31) (p := 4) rfl ?_); refine store_event (t := 31) (p := 4) (v := ?vo_w4) (w1 := ((((((w4.setCell ⟨gE, 0, none⟩ (.int .i64 s1)).setCell ⟨gE, 1, none⟩ (.int .i64 s2)).setCell ⟨gE, 2, none⟩ (.int .i64 s3)).setCell ⟨gE, 3, none⟩ (.string s4)).setCell ⟨gE, 4, none⟩ (.int .i64 s5)).setCell ⟨gE, 5, none⟩ (.int .i64 s6))) ?hg ?ho ?hn ?hr ?_; (case ho => rfl); (case hg => rfl); (case hn => rfl); (case hr => first | (go_simp; done) | (go_simp; rfl)); intro w5 hw; have E5 := Aside0.mk (show w5.heap[gE]? = _ from hw ▸ spec_l20Entry.filled E4.out s1 s2 s3 s4 s5 s6); have R5 := Aside0.mk (show w5.heap[gR]? = _ from hw ▸ spec_l20Entry.far R4.out RE.out _ _ _ _ _ _); have I5 := Aside0.mk (show IsS77 w w5 g b q from hw ▸ (((((I4.out.far (p := ⟨gE, 0, none⟩) NE.out _).far (p := ⟨gE, 1, none⟩) NE.out _).far (p := ⟨gE, 2, none⟩) NE.out _).far (p := ⟨gE, 3, none⟩) NE.out _).far (p := ⟨gE, 4, none⟩) NE.out _).far (p := ⟨gE, 5, none⟩) NE.out _); have B5 := Aside0.mk (show Below w.heap.size w w5 from hw ▸ spec_DrawEncodeEntry.below6 B4.out LE.out _ _ _ _ _ _); clear hw)
        | (go_at_call 48; (with_reducible refine (spec_l20Rd_pick.calls k g b q 4 0 q2 w _ ?side1 ?side2 X3.out).mono ?_); (case side1 => exact I5.out); (case side2 => exact B5.out); rintro e w6 ⟨rfl, hi, hb, hk⟩; have R6 := Aside0.mk (hk.blk R5.out NR.out.symm (by simp)); have E6 := Aside0.mk (hk.blk E5.out NE.out.symm (by simp)); have I6 := Aside0.mk hi; have B6 := Aside0.mk hb; clear hi hb hk)
        | ((with_reducible refine gate_dst (N := 12) rfl ?_); refine Kd.R_lit (Kd.int .i64) _ 3 ?hg (N := 12) ?hd (xs := ([(999), (127), (128)] : List Int)) (inner := [.int .i64 (999), .int .i64 (127), .int .i64 (128)]) (ok := fun _ => True) (okp := fun _ => True) ?hr ?hp (fun _ hk => hk) trivial (Below.refl _ _) (Nat.le_refl _) (by simp) ?_; (case hd => rfl); (case hg => rfl); (case hr => first | (go_simp; done) | (go_simp; rfl)); (case hp => exact (Reps.one (show Kd.M (Kd.int .i64) _ _ _ (999) [.int .i64 (999)] from rfl) (Reps.one (show Kd.M (Kd.int .i64) _ _ _ (127) [.int .i64 (127)] from rfl) (Reps.one (show Kd.M (Kd.int .i64) _ _ _ (128) [.int .i64 (128)] from rfl) (Reps.none _ _))))); intro v w7 ho hb hg _; have O7 := Aside0.mk (I6.out.below hb |>.apart ho (by decide)); have R7 := Aside0.mk (blk_below R6.out hb); have E7 := Aside0.mk (blk_below E6.out hb); have I7 := Aside0.mk (I6.out.below hb); have B7 := Aside0.mk (below_step B6.out hb); clear ho hb hg)
        | (go_at_call 48; (with_reducible refine (spec_l20Rd_pick.calls k g b q2 3 i q3 w _ ?side1 ?side2 X4.out).mono ?_); (case side1 => exact I7.out); (case side2 => exact B7.out); rintro e w8 ⟨rfl, hi, hb, hk⟩; have R8 := Aside0.mk (hk.blk R7.out NR.out.symm (by simp)); have E8 := Aside0.mk (hk.blk E7.out NE.out.symm (by simp)); have I8 := Aside0.mk hi; have B8 := Aside0.mk hb; have O8 := Aside0.mk (Kd.R_keep O7.out hk (fun _ h => h.2)); clear hi hb hk; obtain ⟨Ao, co, ho⟩ := Kd.R_slice O8.out; subst ho; obtain ⟨ad, hA, x0⟩ := Kd.at_int (Kd.R_reads' O8.out).2.2 i J.out.1 J.out.2; cases hA; have j0 := eq_true J.out.1; have j1 := eq_true (show i < 3 by simpa using J.out.2); obtain ⟨cgEw80, cgEw81, cgEw82, cgEw83, cgEw84, cgEw85, fgEw80, fgEw81, fgEw82, fgEw83, fgEw84, fgEw85⟩ := spec_l20Entry.cells6 E8.out)
        | ((with_reducible refine gate_store (t := 3) (p := 17) rfl ?_); refine store_event (t := 3) (p := 17) (v := ?vo_w8) (w1 := w8.setCell ⟨gE, 1, none⟩ (.int .i64 (rd [999, 127, 128] i))) ?hg ?ho ?hn ?hr ?_; (case ho => rfl); (case hg => rfl); (case hn => rfl); (case hr => first | (go_simp; done) | (go_simp; rfl)); intro w9 hw; have E9 := Aside0.mk (show w9.heap[gE]? = _ from hw ▸ blk_put E8.out 1 _ (show _ = spec_l20Entry.row s1 (rd [999, 127, 128] i) s3 s4 s5 s6 from rfl)); have R9 := Aside0.mk (show w9.heap[gR]? = _ from hw ▸ blk_far R8.out (p := ⟨gE, 1, none⟩) RE.out _); have B9 := Aside0.mk (show Below w.heap.size w w9 from hw ▸ below_set B8.out LE.out); clear hw; obtain ⟨cgEw90, cgEw91, cgEw92, cgEw93, cgEw94, cgEw95, fgEw90, fgEw91, fgEw92, fgEw93, fgEw94, fgEw95⟩ := spec_l20Entry.cells6 E9.out; obtain ⟨cgRw90, cgRw91, cgRw92, cgRw93, cgRw94, cgRw95, fgRw90, fgRw91, fgRw92, fgRw93, fgRw94, fgRw95⟩ := spec_l20Entry.cells6 R9.out))
      refine bodyPost_ret (results_cell_row rfl _ _ gR 31 _ (0, 0) _ rfl (spec_l20Entry.filled R9.out s1 (rd [999, 127, 128] i) s3 s4 s5 s6) Try.underlying31 rfl (by kernel_rfl)) rfl ?_
      exact ⟨rfl, spec_DrawEncodeEntry.below6 B9.out L.out _ _ _ _ _ _⟩
    · rw [if_neg hj] at h
      cases h
  · rw [if_neg ht] at h
    obtain ⟨rfl, rfl, rfl, rfl, rfl, rfl⟩ : s1 = r1 ∧ s2 = r2 ∧ s3 = r3 ∧ s4 = r4 ∧ s5 = r5 ∧ s6 = r6 := by simpa using h
    have X3 := Aside0.mk h3
    have ct : (t == 0) = false := beq_eq_false_iff_ne.mpr ht
    clear h h3 ht
    go_enter Try.func22, Try.ntmps22
    go_wp2_with (first
      | ((with_reducible refine gate_dst (N := 2) rfl ?_); refine box_event ?hg (N := 2) ?hd (cs := #[.int .i64 0, .int .i64 0, .int .i64 0, .string (⟨#[]⟩ : ByteArray), .int .i64 0, .int .i64 0]) (t := 31) ?hr ?_; (case hd => rfl); (case hg => rfl); (case hr => first | (go_simp; done) | (go_simp; rfl)); intro gR hgR w1 hc1 hb1; have R1 := Aside0.mk hc1; have B1 := Aside0.mk hb1; have L := Aside0.mk (Nat.le_of_eq hgR.symm); clear hc1 hb1 hgR)
      | (go_at_call 46; (with_reducible refine (spec_l20Open.calls _ _ l0 b p w _ ?side1 ?side2 ?side3 X1.out).mono ?_); (case side1 => exact B1.out); (case side2 => exact HR0.out); (case side3 => exact HC0.out); rintro e w2 ⟨g, rfl, hi, hb, hb1⟩; have R2 := Aside0.mk (blk_below R1.out hb1); have I2 := Aside0.mk hi; have B2 := Aside0.mk hb; have NR := Aside0.mk (hi.ne_blk (blk_below R1.out hb1) (by decide)); clear hi hb hb1)
      | (go_at_call 47; (with_reducible refine (spec_l20Entry.calls k g b p 6 s1 s2 s3 s4 s5 s6 q w _ ?side1 ?side2 X2.out).mono ?_); (case side1 => exact I2.out); (case side2 => exact B2.out); rintro e w3 ⟨rfl, hi, hb, hk⟩; have R3 := Aside0.mk (hk.blk R2.out NR.out.symm (by simp)); have I3 := Aside0.mk hi; have B3 := Aside0.mk hb; clear hi hb hk)
      | ((with_reducible refine gate_dst (N := 4) rfl ?_); refine box_event ?hg (N := 4) ?hd (cs := #[.int .i64 0, .int .i64 0, .int .i64 0, .string (⟨#[]⟩ : ByteArray), .int .i64 0, .int .i64 0]) (t := 31) ?hr ?_; (case hd => rfl); (case hg => rfl); (case hr => first | (go_simp; done) | (go_simp; rfl)); intro gE hgE w4 hc4 hb4; have R4 := Aside0.mk (blk_below R3.out hb4); have E4 := Aside0.mk hc4; have I4 := Aside0.mk (I3.out.below hb4); have B4 := Aside0.mk (below_step B3.out hb4); have LE := Aside0.mk (Nat.le_trans (below_size B3.out) (Nat.le_of_eq hgE.symm)); have NE := Aside0.mk (I4.out.ne_blk hc4 (by decide)); have RE := Aside0.mk (show gR ≠ gE from Nat.ne_of_lt (hgE ▸ blk_lt R3.out)); clear hc4 hb4 hgE; obtain ⟨cgEw40, cgEw41, cgEw42, cgEw43, cgEw44, cgEw45, fgEw40, fgEw41, fgEw42, fgEw43, fgEw44, fgEw45⟩ := spec_l20Entry.cells6 E4.out)
      | ((with_reducible refine gate_store (t := 31) (p := 4) rfl ?_); refine store_event (t := 31) (p := 4) (v := ?vo_w4) (w1 := ((((((w4.setCell ⟨gE, 0, none⟩ (.int .i64 s1)).setCell ⟨gE, 1, none⟩ (.int .i64 s2)).setCell ⟨gE, 2, none⟩ (.int .i64 s3)).setCell ⟨gE, 3, none⟩ (.string s4)).setCell ⟨gE, 4, none⟩ (.int .i64 s5)).setCell ⟨gE, 5, none⟩ (.int .i64 s6))) ?hg ?ho ?hn ?hr ?_; (case ho => rfl); (case hg => rfl); (case hn => rfl); (case hr => first | (go_simp; done) | (go_simp; rfl)); intro w5 hw; have E5 := Aside0.mk (show w5.heap[gE]? = _ from hw ▸ spec_l20Entry.filled E4.out s1 s2 s3 s4 s5 s6); have R5 := Aside0.mk (show w5.heap[gR]? = _ from hw ▸ spec_l20Entry.far R4.out RE.out _ _ _ _ _ _); have I5 := Aside0.mk (show IsS77 w w5 g b q from hw ▸ (((((I4.out.far (p := ⟨gE, 0, none⟩) NE.out _).far (p := ⟨gE, 1, none⟩) NE.out _).far (p := ⟨gE, 2, none⟩) NE.out _).far (p := ⟨gE, 3, none⟩) NE.out _).far (p := ⟨gE, 4, none⟩) NE.out _).far (p := ⟨gE, 5, none⟩) NE.out _); have B5 := Aside0.mk (show Below w.heap.size w w5 from hw ▸ spec_DrawEncodeEntry.below6 B4.out LE.out _ _ _ _ _ _); clear hw)
      | (go_at_call 48; (with_reducible refine (spec_l20Rd_pick.calls k g b q 4 t q2 w _ ?side1 ?side2 X3.out).mono ?_); (case side1 => exact I5.out); (case side2 => exact B5.out); rintro e w6 ⟨rfl, hi, hb, hk⟩; have R6 := Aside0.mk (hk.blk R5.out NR.out.symm (by simp)); have E6 := Aside0.mk (hk.blk E5.out NE.out.symm (by simp)); have I6 := Aside0.mk hi; have B6 := Aside0.mk hb; clear hi hb hk; obtain ⟨cgEw60, cgEw61, cgEw62, cgEw63, cgEw64, cgEw65, fgEw60, fgEw61, fgEw62, fgEw63, fgEw64, fgEw65⟩ := spec_l20Entry.cells6 E6.out; obtain ⟨cgRw60, cgRw61, cgRw62, cgRw63, cgRw64, cgRw65, fgRw60, fgRw61, fgRw62, fgRw63, fgRw64, fgRw65⟩ := spec_l20Entry.cells6 R6.out))
    refine bodyPost_ret (results_cell_row rfl _ _ gR 31 _ (0, 0) _ rfl (spec_l20Entry.filled R6.out s1 s2 s3 s4 s5 s6) Try.underlying31 rfl (by kernel_rfl)) rfl ?_
    exact ⟨rfl, spec_DrawEncodeEntry.below6 B6.out L.out _ _ _ _ _ _⟩



def spec_DrawFrameEntry.f (k : Nat) (l : List Int) : Option (Int × Int × Int × Int × ByteArray × Int × Int) :=
  (spec_DrawEncodeEntry.f k l).bind fun e => (spec_l20Open.f l).bind fun x => (spec_l20Rd_pick.f k x.1 x.2 26).bind fun t => some (wrap64 (t.1 - wrap64 (Int.tdiv (Int.tmod (l.length : Int) 9) 8)), e.1, e.2.1, e.2.2.1, e.2.2.2.1, e.2.2.2.2.1, e.2.2.2.2.2)
def spec_DrawFrameEntry.T2 : Bool × List (List Nat × List Nat) := (true, [([], []), ([0], [0]), ([1, 1], [1]), ([], []), ([3], [3]), ([4], [4]), ([5], [5]), ([2, 6], [2, 6]), ([], []), ([7, 2, 0, 1, 2, 3, 4, 5, 6, 7], [7]), ([8, 9, 0, 1, 2, 3, 4, 5, 6, 7, 8, 9], [8])])
def spec_DrawFrameEntry.B2 : List Nat := [0, 1, 3, 0, 8, 24, 56, 127, 0, 255, 1023]
theorem spec_DrawFrameEntry.tab2 : rtab .any (opsOf Try.f31 2) = spec_DrawFrameEntry.T2 := by kernel_rfl
theorem spec_DrawFrameEntry.bits2 : waitsOk spec_DrawFrameEntry.T2.2 spec_DrawFrameEntry.B2 = true := by kernel_rfl

set_option maxHeartbeats 4000000 in
set_option maxRecDepth 100000 in
theorem spec_DrawFrameEntry.calls (k : Nat) (A0 : Option Addr) (c0 : Nat) (l0 : List Int) (r0 r1 r2 r3 : Int) (r4 : ByteArray) (r5 r6 : Int) (w : World) (hr0 : Kd.C (Kd.int .u8) w A0 l0.length l0) (hc0 : l0.length ≤ c0) (h : spec_DrawFrameEntry.f k l0 = some (r0, r1, r2, r3, r4, r5, r6)) :
    Calls Try.prog 31 #[.slice A0 l0.length c0] w fun e w' => e = .returned (.tuple #[.int .i64 r0, .agg #[.int .i64 r1, .int .i64 r2, .int .i64 r3, .string r4, .int .i64 r5, .int .i64 r6]]) ∧ Below w.heap.size w w' := by
  have hu := Try.underlying31
  have HR0 := Aside0.mk hr0
  have HC0 := Aside0.mk hc0
  clear hr0 hc0
  unfold spec_DrawFrameEntry.f at h
  replace h := Option.bind_eq_some_iff.mp h
  obtain ⟨⟨s1, s2, s3, s4, s5, s6⟩, h1, h⟩ := h
  replace h := Option.bind_eq_some_iff.mp h
  obtain ⟨⟨b, p⟩, h2, h⟩ := h
  replace h := Option.bind_eq_some_iff.mp h
  obtain ⟨⟨t, q⟩, h3, h⟩ := h
  dsimp only at h3 h
  obtain ⟨rfl, rfl, rfl, rfl, rfl, rfl, rfl⟩ : wrap64 (t - wrap64 (Int.tdiv (Int.tmod (l0.length : Int) 9) 8)) = r0 ∧ s1 = r1 ∧ s2 = r2 ∧ s3 = r3 ∧ s4 = r4 ∧ s5 = r5 ∧ s6 = r6 := by simpa using h
  have X1 := Aside0.mk h1
  have X2 := Aside0.mk h2
  have X3 := Aside0.mk h3
  clear h1 h2 h3 h
  go_enter Try.func31, Try.ntmps31
  go_wp2_with (first
    | ((with_reducible refine gate_dst (N := 3) rfl ?_); refine box_event ?hg (N := 3) ?hd (cs := #[.int .i64 0, .int .i64 0, .int .i64 0, .string (⟨#[]⟩ : ByteArray), .int .i64 0, .int .i64 0]) (t := 31) ?hr ?_; (case hd => rfl); (case hg => rfl); (case hr => first | (go_simp; done) | (go_simp; rfl)); intro gR hgR w1 hc1 hb1; have R1 := Aside0.mk hc1; have B1 := Aside0.mk hb1; have L := Aside0.mk (Nat.le_of_eq hgR.symm); clear hc1 hb1 hgR)
    | (go_at_call 22; (with_reducible refine (spec_DrawEncodeEntry.calls k _ _ l0 s1 s2 s3 s4 s5 s6 w1 ?side1 ?side2 X1.out).mono ?_); (case side1 => exact Kd.C_below HR0.out B1.out); (case side2 => exact HC0.out); rintro e w2 ⟨rfl, hb⟩; have R2 := Aside0.mk (blk_below R1.out hb); have B2 := Aside0.mk (below_step B1.out hb); clear hb)
    | ((with_reducible refine gate_dst (N := 4) rfl ?_); refine box_event ?hg (N := 4) ?hd (cs := #[.int .i64 0, .int .i64 0, .int .i64 0, .string (⟨#[]⟩ : ByteArray), .int .i64 0, .int .i64 0]) (t := 31) ?hr ?_; (case hd => rfl); (case hg => rfl); (case hr => first | (go_simp; done) | (go_simp; rfl)); intro gE hgE w3 hc hbb; have E3 := Aside0.mk hc; have HB3 := Aside0.mk hbb; have LgE := Aside0.mk (Nat.le_of_eq hgE.symm); have NRE := Aside0.mk (Nat.ne_of_lt (hgE ▸ blk_lt R2.out)); clear hc hbb hgE; obtain ⟨cgEw30, cgEw31, cgEw32, cgEw33, cgEw34, cgEw35, fgEw30, fgEw31, fgEw32, fgEw33, fgEw34, fgEw35⟩ := spec_l20Entry.cells6 E3.out)
    | ((with_reducible refine gate_store (t := 31) (p := 4) rfl ?_); refine store_event (t := 31) (p := 4) (v := ?vo_w3) (w1 := ((((((w3.setCell ⟨gE, 0, none⟩ (.int .i64 s1)).setCell ⟨gE, 1, none⟩ (.int .i64 s2)).setCell ⟨gE, 2, none⟩ (.int .i64 s3)).setCell ⟨gE, 3, none⟩ (.string s4)).setCell ⟨gE, 4, none⟩ (.int .i64 s5)).setCell ⟨gE, 5, none⟩ (.int .i64 s6))) ?hg ?ho ?hn ?hr ?_; (case ho => rfl); (case hg => rfl); (case hn => rfl); (case hr => first | (go_simp; done) | (go_simp; rfl)); intro w4 hw; have E4 := Aside0.mk (show w4.heap[gE]? = _ from hw ▸ spec_l20Entry.filled E3.out _ _ _ _ _ _); have hb := (show Below w2.heap.size w2 w4 from hw ▸ spec_DrawEncodeEntry.below6 HB3.out LgE.out _ _ _ _ _ _); clear hw; have R4 := Aside0.mk (blk_below R2.out hb); have B4 := Aside0.mk (below_step B2.out hb); clear hb))
  refine start_ (n := 11) (S := fun W => W.heap[gE]? = some (.cells (spec_l20Entry.row s1 s2 s3 s4 s5 s6) 31 (0, 0)) ∧ W.heap[gR]? = some (.cells (spec_l20Entry.row 0 0 0 ⟨#[]⟩ 0 0) 31 (0, 0))) (ds := [10]) #[false, false, false, false, false, false, false, false, false, false, false] (by kernel_rfl) rfl rfl (⟨blk_drew E4.out, blk_drew R4.out⟩) (fun hHeld => ?_); refine with_tabW spec_DrawFrameEntry.tab2 spec_DrawFrameEntry.bits2 (fun HT_ HW_ => ?_)
  have B5 := Aside0.mk (below_drew B4.out)
  generalize w4.drew = w5 at B5 hHeld ⊢
  refine take_ (i := 8) (N := some 15) (v := ?_) (a' := ?_) (bits 11 256) rfl rfl (take_ofW HT_.out HW_.out (by kernel_rfl)) (fun _ _ _ h => h) (Or.inl ⟨by rfl, ?_⟩) hHeld ?_ ?_
  rotate_left
  · intro w' hS
    have hS := hS.1
    have h0 : w'.cell? ⟨gE, 0, none⟩ = some (.int .i64 s1) := (blk_cell hS 0).trans rfl
    have h1 : w'.cell? ⟨gE, 1, none⟩ = some (.int .i64 s2) := (blk_cell hS 1).trans rfl
    have h2 : w'.cell? ⟨gE, 2, none⟩ = some (.int .i64 s3) := (blk_cell hS 2).trans rfl
    have h3 : w'.cell? ⟨gE, 3, none⟩ = some (.string s4) := (blk_cell hS 3).trans rfl
    have h4 : w'.cell? ⟨gE, 4, none⟩ = some (.int .i64 s5) := (blk_cell hS 4).trans rfl
    have h5 : w'.cell? ⟨gE, 5, none⟩ = some (.int .i64 s6) := (blk_cell hS 5).trans rfl
    go_simp
    with_reducible rfl
  rotate_left
  · simp only [Act.put, List.setIfInBounds_toArray, List.set_cons_zero, List.set_cons_succ, i64_w, i32_w]
    rfl
  refine pure_ (i := 0) (N := some 7) (v := ?_) (a' := ?_) (bits 11 257) rfl rfl (any_of HT_.out (by kernel_rfl)) (fun _ _ _ h => h) (Or.inl ⟨by rfl, ?_⟩) ?_ ?_
  rotate_left
  · intro w'
    go_simp
    with_reducible rfl
  rotate_left
  · simp only [Act.put, List.setIfInBounds_toArray, List.set_cons_zero, List.set_cons_succ, i64_w, i32_w]
    rfl
  refine pure_ (i := 3) (N := some 10) (v := ?_) (a' := ?_) (bits 11 265) rfl rfl (any_of HT_.out (by kernel_rfl)) (fun _ _ _ h => h) (Or.inl ⟨by rfl, ?_⟩) ?_ ?_
  rotate_left
  · intro w'
    go_simp
    with_reducible rfl
  rotate_left
  · simp only [Act.put, List.setIfInBounds_toArray, List.set_cons_zero, List.set_cons_succ, i64_w, i32_w]
    rfl
  refine pure_ (i := 4) (N := some 11) (v := ?_) (a' := ?_) (bits 11 281) rfl rfl (any_of HT_.out (by kernel_rfl)) (fun _ _ _ h => h) (Or.inl ⟨by rfl, ?_⟩) ?_ ?_
  rotate_left
  · intro w'
    go_simp
    with_reducible rfl
  rotate_left
  · simp only [Act.put, List.setIfInBounds_toArray, List.set_cons_zero, List.set_cons_succ, i64_w, i32_w]
    rfl
  refine pure_ (i := 5) (N := some 12) (v := ?_) (a' := ?_) (bits 11 313) rfl rfl (any_of HT_.out (by kernel_rfl)) (fun _ _ _ h => h) (Or.inl ⟨by rfl, ?_⟩) ?_ ?_
  rotate_left
  · intro w'
    go_simp
    with_reducible rfl
  rotate_left
  · simp only [Act.put, List.setIfInBounds_toArray, List.set_cons_zero, List.set_cons_succ, i64_w, i32_w]
    rfl
  refine pure_ (i := 6) (N := some 13) (v := ?_) (a' := ?_) (bits 11 377) rfl rfl (any_of HT_.out (by kernel_rfl)) (fun _ _ _ h => h) (Or.inl ⟨by rfl, ?_⟩) ?_ ?_
  rotate_left
  · intro w'
    go_simp
    with_reducible rfl
  rotate_left
  · simp only [Act.put, List.setIfInBounds_toArray, List.set_cons_zero, List.set_cons_succ, i64_w, i32_w]
    rfl
  refine one_ (i := 1) (N := some 8) (bits 11 379) rfl rfl (one_of HT_.out (by kernel_rfl)) (by decide) (fun K hK => ?_)
  refine goes_ Try.func46 (by kernel_rfl) rfl #[.slice A0 l0.length c0] (by rfl) rfl rfl (by (try simp only [List.map_toArray, List.map_cons, List.map_nil]); rfl) ?_
  with_reducible refine (spec_l20Open.calls _ _ l0 b p w w5 B5.out HR0.out HC0.out X2.out).mono ?_
  rintro e w6 ⟨g, rfl, hi, hb, hb1⟩
  refine ⟨_, rfl, ?_⟩
  have I6 := Aside0.mk hi
  have B6 := Aside0.mk hb
  have hE6 := blk_below hHeld.1 hb1
  have hR6 := blk_below hHeld.2 hb1
  have NE := hi.ne_blk hE6 (by decide)
  have NR := hi.ne_blk hR6 (by decide)
  clear hi hb hb1 hHeld
  refine hK.out _ _ ⟨hE6, hR6⟩ (fun hHeld => ?_)
  clear hK K
  refine norm_ (a' := ?_) ?_ ?_
  rotate_left
  · show Act.put _ (some 8) _ = _
    simp only [Act.put, List.setIfInBounds_toArray, List.set_cons_zero, List.set_cons_succ, i64_w, i32_w]
    rfl
  refine one_ (i := 2) (N := some 9) (bits 11 383) rfl rfl (one_of HT_.out (by kernel_rfl)) (by decide) (fun K hK => ?_)
  refine goes_ Try.func48 (by kernel_rfl) rfl #[.pointer (some ⟨g, 0, none⟩), .int .i64 26] (by rfl) rfl rfl (by (try simp only [List.map_toArray, List.map_cons, List.map_nil]); rfl) ?_
  with_reducible refine (spec_l20Rd_pick.calls k g b p 26 t q w w6 I6.out B6.out X3.out).mono ?_
  rintro e w7 ⟨rfl, hi, hb, hk⟩
  refine ⟨_, rfl, ?_⟩
  have B7 := Aside0.mk hb
  have hE7 := hk.blk hHeld.1 NE.symm (by simp)
  have hR7 := hk.blk hHeld.2 NR.symm (by simp)
  clear hi hb hk hHeld
  refine hK.out _ _ ⟨hE7, hR7⟩ (fun hHeld => ?_)
  clear hK K
  refine norm_ (a' := ?_) ?_ ?_
  rotate_left
  · show Act.put _ (some 9) _ = _
    simp only [Act.put, List.setIfInBounds_toArray, List.set_cons_zero, List.set_cons_succ, i64_w, i32_w]
    rfl
  refine pure_ (i := 7) (N := some 14) (v := ?_) (a' := ?_) (bits 11 511) rfl rfl (any_of HT_.out (by kernel_rfl)) (fun _ _ _ h => h) (Or.inl ⟨by rfl, ?_⟩) ?_ ?_
  rotate_left
  · intro w'
    go_simp
    with_reducible rfl
  rotate_left
  · simp only [Act.put, List.setIfInBounds_toArray, List.set_cons_zero, List.set_cons_succ, i64_w, i32_w]
    rfl
  refine pure_ (i := 9) (N := some 2) (v := ?_) (a' := ?_) (bits 11 1023) rfl rfl (any_of HT_.out (by kernel_rfl)) (fun _ _ _ h => h) (Or.inl ⟨by rfl, ?_⟩) ?_ ?_
  rotate_left
  · intro w'
    go_simp
    with_reducible rfl
  rotate_left
  · simp only [Act.put, List.setIfInBounds_toArray, List.set_cons_zero, List.set_cons_succ, i64_w, i32_w]
    rfl
  have nER := NRE.out.symm
  have nRE := NRE.out
  have cR0 : w7.cell? ⟨gR, 0, none⟩ = some (.int .i64 0) := (blk_cell hHeld.2 0).trans rfl
  have cR1 : w7.cell? ⟨gR, 1, none⟩ = some (.int .i64 0) := (blk_cell hHeld.2 1).trans rfl
  have cR2 : w7.cell? ⟨gR, 2, none⟩ = some (.int .i64 0) := (blk_cell hHeld.2 2).trans rfl
  have cR3 : w7.cell? ⟨gR, 3, none⟩ = some (.string (⟨#[]⟩ : ByteArray)) := (blk_cell hHeld.2 3).trans rfl
  have cR4 : w7.cell? ⟨gR, 4, none⟩ = some (.int .i64 0) := (blk_cell hHeld.2 4).trans rfl
  have cR5 : w7.cell? ⟨gR, 5, none⟩ = some (.int .i64 0) := (blk_cell hHeld.2 5).trans rfl
  have fR0 := blk_frozen hHeld.2 0
  have fR1 := blk_frozen hHeld.2 1
  have fR2 := blk_frozen hHeld.2 2
  have fR3 := blk_frozen hHeld.2 3
  have fR4 := blk_frozen hHeld.2 4
  have fR5 := blk_frozen hHeld.2 5
  refine last_ (i := 10) (N := none) (bits 11 2047) rfl rfl (one_of HT_.out (by kernel_rfl)) (by decide) (fun K hK => ?_)
  refine skip_ (w1 := ((((((w7.setCell ⟨gR, 0, none⟩ (.int .i64 s1)).setCell ⟨gR, 1, none⟩ (.int .i64 s2)).setCell ⟨gR, 2, none⟩ (.int .i64 s3)).setCell ⟨gR, 3, none⟩ (.string s4)).setCell ⟨gR, 4, none⟩ (.int .i64 s5)).setCell ⟨gR, 5, none⟩ (.int .i64 s6))) rfl rfl ?hr ?_
  (case hr => first | (go_simp; done) | (go_simp; rfl))
  have hF := spec_l20Entry.filled hHeld.2 s1 s2 s3 s4 s5 s6
  refine hK.out _ _ ?_
  clear hK K
  refine done_ (done_of HT_.out (by kernel_rfl)) ?_
  try go_wp2
  refine bodyPost_ret (results_tc rfl _ _ gR 31 _ (0, 0) _ rfl hF Try.underlying31 rfl (by kernel_rfl)) rfl ?_
  exact ⟨rfl, spec_DrawEncodeEntry.below6 B7.out L.out _ _ _ _ _ _⟩



/-- One number of a row is written. -/
theorem row_put {W : World} {base e g n cap : Nat} {ok : Nat → Prop} {xs : List Int} (h : Kd.R (Kd.int .i64) e W base ok (.slice (some ⟨g, 0, none⟩) n cap) xs) {i : Int} (h0 : 0 ≤ i) (h1 : i < n) (x : Int) :
    Kd.R (Kd.int .i64) e (W.setCell ⟨g, i.toNat, none⟩ (.int .i64 x)) base ok (.slice (some ⟨g, 0, none⟩) n cap) (xs.set i.toNat x) ∧ W.grownBy (W.setCell ⟨g, i.toNat, none⟩ (.int .i64 x)) (some g) := by
  obtain ⟨c, hcl, hM, hcc, _⟩ := Kd.R_elem h 0 i h0 h1
  have hP := Kd.R_seg h i h0 h1 (seg := [.int .i64 x]) (j := 0) (x' := x) (okp := fun _ => False) hcl hcc (show 0 + 1 ≤ 1 by decide)
    (by
      have e : c.take 0 ++ [Value.int .i64 x] ++ c.drop (0 + [Value.int .i64 x].length) = [Value.int .i64 x] := by
        have hl : c.length = 1 := hcl
        rw [List.take_zero, List.nil_append, List.drop_of_length_le (by simp [hl]), List.append_nil]
      rw [e]
      rfl) (fun _ hk => hk.elim)
  have e : W.setCells g (i.toNat * 1 + 0) [.int .i64 x] = W.setCell ⟨g, i.toNat, none⟩ (.int .i64 x) := by
    rw [Nat.mul_one, Nat.add_zero]
    rfl
  rw [← e]
  exact hP
theorem row_cell {W : World} {base e g n cap : Nat} {ok : Nat → Prop} {xs : List Int} (h : Kd.R (Kd.int .i64) e W base ok (.slice (some ⟨g, 0, none⟩) n cap) xs) {i : Int} (h0 : 0 ≤ i) (h1 : i < n) :
    W.cell? ⟨g, i.toNat, none⟩ = some (.int .i64 (xs.getD i.toNat 0)) ∧ W.frozen? ⟨g, i.toNat, none⟩ = false := by
  obtain ⟨c, hcl, hM, hcc, hfr⟩ := Kd.R_elem h 0 i h0 h1
  have hM' : c = [.int .i64 (xs.getD i.toNat 0)] := hM
  subst hM'
  have a := hcc 0 _ rfl
  have f := hfr 0
  rw [show (Kd.int .i64).sz = 1 from rfl, Nat.mul_one, Nat.add_zero] at a f
  exact ⟨a, f⟩
/-- A reader goes on: a row of the call's own stays. -/
theorem row_read {w0 W w' : World} {g base e : Nat} {b : List Int} {p : Int} {ok : Nat → Prop} {v : Value} {xs : List Int} (h : Kd.R (Kd.int .i64) e W base ok v xs) (hI : IsS77 w0 W g b p) (he : ∀ q, q ∈ e :: (Kd.int .i64).E → q ≠ 77) (hk : KeepBut W w' g none) :
    Kd.R (Kd.int .i64) e w' base ok v xs := Kd.R_mono (Kd.R_keep (hI.apart h he) hk (fun _ h => h.2)) (fun _ h => h.1)


theorem same_command (d : Nat) (w : World) (x0 : Int) (x1 : ByteArray) (x2 x3 : Int) :
    (Op.equalIn (d + 2) 29 (.agg #[.int .i64 x0, .string x1, .int .i64 x2, .int .i64 x3]) (.agg #[.int .i64 x0, .string x1, .int .i64 x2, .int .i64 x3])).run Try.prog w = .ok true w := by
  have h : (Op.equalIn (d + 2) 29 (.agg #[.int .i64 x0, .string x1, .int .i64 x2, .int .i64 x3]) (.agg #[.int .i64 x0, .string x1, .int .i64 x2, .int .i64 x3])).run Try.prog w = .ok (x0 == x0 && (x1.toList == x1.toList && (x2 == x2 && x3 == x3))) w := by
    refine eqA_of Try.underlying29 (by kernel_rfl) ?_
    refine eqf_cons (by rfl) (by first | (go_simp; done) | (go_simp; rfl)) (by first | (go_simp; done) | (go_simp; rfl)) (by go_simp) ?_
    refine eqf_cons (by rfl) (by first | (go_simp; done) | (go_simp; rfl)) (by first | (go_simp; done) | (go_simp; rfl)) (by go_simp) ?_
    refine eqf_cons (by rfl) (by first | (go_simp; done) | (go_simp; rfl)) (by first | (go_simp; done) | (go_simp; rfl)) (by go_simp) ?_
    exact eqf_last (by rfl) (by first | (go_simp; done) | (go_simp; rfl)) (by first | (go_simp; done) | (go_simp; rfl)) (by go_simp)
  rwa [show (x0 == x0 && (x1.toList == x1.toList && (x2 == x2 && x3 == x3))) = true by simp] at h
theorem same_entry (d : Nat) (w : World) (c s x0 : Int) (x1 : ByteArray) (x2 x3 : Int) :
    (Op.equalIn (d + 3) 31 (.agg #[.int .i64 c, .int .i64 s, .int .i64 x0, .string x1, .int .i64 x2, .int .i64 x3]) (.agg #[.int .i64 c, .int .i64 s, .int .i64 x0, .string x1, .int .i64 x2, .int .i64 x3])).run Try.prog w = .ok true w := by
  have h : (Op.equalIn (d + 3) 31 (.agg #[.int .i64 c, .int .i64 s, .int .i64 x0, .string x1, .int .i64 x2, .int .i64 x3]) (.agg #[.int .i64 c, .int .i64 s, .int .i64 x0, .string x1, .int .i64 x2, .int .i64 x3])).run Try.prog w = .ok (c == c && (s == s && true)) w := by
    refine eqA_of Try.underlying31 (by kernel_rfl) ?_
    refine eqf_cons (by rfl) (by first | (go_simp; done) | (go_simp; rfl)) (by first | (go_simp; done) | (go_simp; rfl)) (by go_simp) ?_
    refine eqf_cons (by rfl) (by first | (go_simp; done) | (go_simp; rfl)) (by first | (go_simp; done) | (go_simp; rfl)) (by go_simp) ?_
    exact eqf_last (by rfl) (by first | (go_simp; done) | (go_simp; rfl)) (by first | (go_simp; done) | (go_simp; rfl)) (same_command d w x0 x1 x2 x3)
  rwa [show (c == c && (s == s && true)) = true by simp] at h
/-- six stores into a new block -/
theorem below6 {w W : World} {g : Nat} (h : Below w.heap.size w W) (hg : w.heap.size ≤ g) (a c d e f v : Value) :
    Below w.heap.size w ((((((W.setCell ⟨g, 0, none⟩ a).setCell ⟨g, 1, none⟩ c).setCell ⟨g, 2, none⟩ d).setCell ⟨g, 3, none⟩ e).setCell ⟨g, 4, none⟩ f).setCell ⟨g, 5, none⟩ v) :=
  below_set (below_set (below_set (below_set (below_set (below_set h hg) hg) hg) hg) hg) hg



/-- the byte that stands for byte i -/
def laws_FnFrameEntry.other (fb : List Int) (len : Nat) (i : Nat) : Int := Int.tmod (wrap64 (wrap64 (Go.Proofs.YtlimhkjnnpmpkaaW.PrintWords.rd fb (i : Int) + 1) + Int.tmod (len : Int) 255)) 256
/-- No beginning of the frame, shorter than d, is read, nor is it with another byte at a place before d. -/
def laws_FnFrameEntry.cuts (k : Nat) (fb : List Int) (n : Int) (len : Nat) : Nat → Option Bool
  | 0 => some true
  | d + 1 => (impl_ReadFrame.f k (fb.take d) 0 n).bind fun y => (impl_ReadFrame.f k (fb.set d (laws_FnFrameEntry.other fb len d)) 0 n).bind fun z =>
      if y.2.2.2.2.2.2 = -1 ∧ z.2.2.2.2.2.2 = -1 then laws_FnFrameEntry.cuts k fb n len d else none
theorem laws_FnFrameEntry.cuts_at {k : Nat} {fb : List Int} {n : Int} {len : Nat} {r : Bool} : ∀ {m : Nat}, laws_FnFrameEntry.cuts k fb n len m = some r → r = true ∧ ∀ d, d < m →
    (∃ y1 y2 y3 y4 y5 y6, impl_ReadFrame.f k (fb.take d) 0 n = some (y1, y2, y3, y4, y5, y6, -1)) ∧ (∃ y1 y2 y3 y4 y5 y6, impl_ReadFrame.f k (fb.set d (laws_FnFrameEntry.other fb len d)) 0 n = some (y1, y2, y3, y4, y5, y6, -1))
  | 0, h => ⟨(Option.some.inj h).symm, fun d hd => absurd hd (Nat.not_lt_zero _)⟩
  | m + 1, h => by
    unfold laws_FnFrameEntry.cuts at h
    replace h := Option.bind_eq_some_iff.mp h
    obtain ⟨⟨y1, y2, y3, y4, y5, y6, y7⟩, hy, h⟩ := h
    replace h := Option.bind_eq_some_iff.mp h
    obtain ⟨⟨z1, z2, z3, z4, z5, z6, z7⟩, hz, h⟩ := h
    dsimp only at h
    by_cases h7 : y7 = -1 ∧ z7 = -1
    · rw [if_pos h7] at h
      obtain ⟨e, ih⟩ := laws_FnFrameEntry.cuts_at h
      refine ⟨e, fun d hd => ?_⟩
      by_cases hdn : d = m
      · subst hdn
        obtain ⟨rfl, rfl⟩ := h7
        exact ⟨⟨y1, y2, y3, y4, y5, y6, hy⟩, ⟨z1, z2, z3, z4, z5, z6, hz⟩⟩
      · exact ih d (by omega)
    · rw [if_neg h7] at h
      cases h
theorem laws_FnFrameEntry.readAt {m : Nat} {A : Option Addr} {c : Nat} {l : List Int} {a n : Int} {w : World} {Q : Ending → World → Prop} (hm : m = l.length)
    (h : Calls Try.prog 30 #[.slice A l.length c, .int .i64 a, .int .i64 n] w Q) : Calls Try.prog 30 #[.slice A m c, .int .i64 a, .int .i64 n] w Q := by
  subst hm
  exact h
theorem laws_FnFrameEntry.same_len {W : World} {A : Option Addr} {m : Nat} {l : List Int} (h : Kd.C (Kd.int .i64) W A m l) : Kd.C (Kd.int .i64) W A l.length l := by
  have e : l.length = m := (Kd.reads_of_C (enc := Value.int .i64) (d := (0 : Int)) (h1 := fun _ => rfl) h).1
  rw [e]
  exact h
/-- What is asked of the drawn entry: 'some true' where the law answers true. -/
def laws_FnFrameEntry.judge (k : Nat) (len : Nat) (n s1 s2 s3 : Int) (s4 : ByteArray) (s5 s6 : Int) : Option Bool :=
  (impl_FrameEntry.f k n s1 s2 s3 s4 s5 s6).bind fun fb => (spec_FrameEntry.f k n s1 s2 s3 s4 s5 s6).bind fun sb => (laws_sameInts.f k fb sb).bind fun t =>
    if t = true then
      if fb.length = 0 then (impl_EntryValid.f k s1 s2 s3 s4 s5 s6).bind fun v => (laws_alive.f k).bind fun a => if a = true ∧ (n < 0 ∨ n ≥ 24 ∨ v = false) then some true else none
      else (impl_ReadFrame.f k fb 0 n).bind fun x => (impl_ReadFrame.f k fb 0 (wrap64 (n + 1))).bind fun o =>
        if x = (s1, s2, s3, s4, s5, s6, (fb.length : Int)) ∧ o.2.2.2.2.2.2 = -1 ∧ fb.length ≤ 2000 then laws_FnFrameEntry.cuts k fb n len fb.length else none
    else none
def laws_FnFrameEntry.f (k : Nat) (l : List Int) : Option Bool :=
  if (l.length : Int) > 1048576 then some true else (spec_DrawFrameEntry.f k l).bind fun x => laws_FnFrameEntry.judge k l.length x.1 x.2.1 x.2.2.1 x.2.2.2.1 x.2.2.2.2.1 x.2.2.2.2.2.1 x.2.2.2.2.2.2

set_option maxHeartbeats 8000000 in
set_option maxRecDepth 100000 in
theorem laws_FnFrameEntry.calls (k : Nat) (A0 : Option Addr) (c0 : Nat) (l0 : List Int) (r : Bool) (w : World) (hr0 : Kd.C (Kd.int .u8) w A0 l0.length l0) (hc0 : l0.length ≤ c0) (h : laws_FnFrameEntry.f k l0 = some r) :
    Calls Try.prog 9 #[.slice A0 l0.length c0] w fun e w' => e = .returned (.bool r) ∧ Below w.heap.size w w' := by
  have hu := Try.underlying31
  have huc := Try.underlying29
  have HR0 := Aside0.mk hr0
  have HC0 := Aside0.mk hc0
  clear hr0 hc0
  unfold laws_FnFrameEntry.f at h
  by_cases hl : (l0.length : Int) > 1048576
  · rw [if_pos hl] at h
    obtain rfl := Option.some.inj h
    have cl : decide ((l0.length : Int) > 1048576) = true := decide_eq_true hl
    clear h hl
    go_enter Try.func9, Try.ntmps9
    go_wp2
    go_ret
    exact ⟨rfl, Below.refl _ _⟩
  · rw [if_neg hl] at h
    have cl : decide ((l0.length : Int) > 1048576) = false := decide_eq_false hl
    clear hl
    replace h := Option.bind_eq_some_iff.mp h
    obtain ⟨⟨n, s1, s2, s3, s4, s5, s6⟩, h1, h⟩ := h
    have X1 := Aside0.mk h1
    clear h1
    unfold laws_FnFrameEntry.judge at h
    dsimp only at h
    replace h := Option.bind_eq_some_iff.mp h
    obtain ⟨fb, h2, h⟩ := h
    replace h := Option.bind_eq_some_iff.mp h
    obtain ⟨sb, h3, h⟩ := h
    replace h := Option.bind_eq_some_iff.mp h
    obtain ⟨t, h4, h⟩ := h
    by_cases ht : t = true
    · rw [if_pos ht] at h
      subst ht
      have X2 := Aside0.mk h2
      have X3 := Aside0.mk h3
      have X4 := Aside0.mk h4
      clear h2 h3 h4
      by_cases hb0 : fb.length = 0
      · rw [if_pos hb0] at h
        replace h := Option.bind_eq_some_iff.mp h
        obtain ⟨v, h5, h⟩ := h
        replace h := Option.bind_eq_some_iff.mp h
        obtain ⟨al, h6, h⟩ := h
        by_cases hj : al = true ∧ (n < 0 ∨ n ≥ 24 ∨ v = false)
        · rw [if_pos hj] at h
          obtain ⟨rfl, hj⟩ := hj
          obtain rfl := Option.some.inj h
          have X6 := Aside0.mk h6
          have cz : ((fb.length : Int) == 0) = true := by simp [hb0]
          have BL := Aside0.mk hb0
          clear h6 h hb0
          by_cases n0 : n < 0
          · have d0 : decide (n < 0) = true := decide_eq_true n0
            clear n0 hj h5
            go_enter Try.func9, Try.ntmps9
            go_wp2_with (first
              | (go_at_call 31; (with_reducible refine (spec_DrawFrameEntry.calls k _ _ l0 n s1 s2 s3 s4 s5 s6 w ?side1 ?side2 X1.out).mono ?_); (case side1 => exact HR0.out); (case side2 => exact HC0.out); rintro e w1 ⟨rfl, hb⟩; have B1 := Aside0.mk hb; clear hb)
              | ((with_reducible refine gate_dst (N := 4) rfl ?_); refine box_event ?hg (N := 4) ?hd (cs := #[.int .i64 0, .int .i64 0, .int .i64 0, .string (⟨#[]⟩ : ByteArray), .int .i64 0, .int .i64 0]) (t := 31) ?hr ?_; (case hd => rfl); (case hg => rfl); (case hr => first | (go_simp; done) | (go_simp; rfl)); intro gE hgE w2 hc hbb; have E2 := Aside0.mk hc; have HB2 := Aside0.mk hbb; have LgE := Aside0.mk (Nat.le_of_eq hgE.symm); clear hc hbb hgE; obtain ⟨cgEw20, cgEw21, cgEw22, cgEw23, cgEw24, cgEw25, fgEw20, fgEw21, fgEw22, fgEw23, fgEw24, fgEw25⟩ := spec_l20Entry.cells6 E2.out)
              | ((with_reducible refine gate_store (t := 31) (p := 4) rfl ?_); refine store_event (t := 31) (p := 4) (v := ?vo_w2) (w1 := ((((((w2.setCell ⟨gE, 0, none⟩ (.int .i64 s1)).setCell ⟨gE, 1, none⟩ (.int .i64 s2)).setCell ⟨gE, 2, none⟩ (.int .i64 s3)).setCell ⟨gE, 3, none⟩ (.string s4)).setCell ⟨gE, 4, none⟩ (.int .i64 s5)).setCell ⟨gE, 5, none⟩ (.int .i64 s6))) ?hg ?ho ?hn ?hr ?_; (case ho => rfl); (case hg => rfl); (case hn => rfl); (case hr => first | (go_simp; done) | (go_simp; rfl)); intro w3 hw; have E3 := Aside0.mk (show w3.heap[gE]? = _ from hw ▸ spec_l20Entry.filled E2.out _ _ _ _ _ _); have hb := (show Below w1.heap.size w1 w3 from hw ▸ below6 HB2.out LgE.out _ _ _ _ _ _); clear hw; have B3 := Aside0.mk (below_step B1.out hb); clear hb; obtain ⟨cgEw30, cgEw31, cgEw32, cgEw33, cgEw34, cgEw35, fgEw30, fgEw31, fgEw32, fgEw33, fgEw34, fgEw35⟩ := spec_l20Entry.cells6 E3.out)
              | (go_at_call 28; (with_reducible refine (impl_FrameEntry.calls k n s1 s2 s3 s4 s5 s6 fb w3 X2.out).mono ?_); rintro e w4 ⟨v4, rfl, ho, hb⟩; obtain ⟨Ab, cb, eo⟩ := Kd.R_slice ho; subst eo; have CB4 := Aside0.mk (Kd.R_reads' ho).2.2; have CC := Aside0.mk (Kd.R_reads' ho).2.1; have E4 := Aside0.mk (blk_below E3.out hb); have B4 := Aside0.mk (below_step B3.out hb); clear ho hb; obtain ⟨cgEw40, cgEw41, cgEw42, cgEw43, cgEw44, cgEw45, fgEw40, fgEw41, fgEw42, fgEw43, fgEw44, fgEw45⟩ := spec_l20Entry.cells6 E4.out)
              | (go_at_call 27; (with_reducible refine (spec_FrameEntry.calls k n s1 s2 s3 s4 s5 s6 sb w4 X3.out).mono ?_); rintro e w5 ⟨v5, rfl, ho, hb⟩; obtain ⟨As, cs, eo⟩ := Kd.R_slice ho; subst eo; have CS5 := Aside0.mk (Kd.R_reads' ho).2.2; have CCS := Aside0.mk (Kd.R_reads' ho).2.1; have E5 := Aside0.mk (blk_below E4.out hb); have CB5 := Aside0.mk (Kd.C_below CB4.out hb); have B5 := Aside0.mk (below_step B4.out hb); clear ho hb)
              | (go_at_call 23; (with_reducible refine (laws_sameInts.calls k _ _ fb _ _ sb true w5 ?side1 ?side2 ?side3 ?side4 X4.out).mono ?_); (case side1 => exact CB5.out); (case side2 => exact CC.out); (case side3 => exact CS5.out); (case side4 => exact CCS.out); rintro e w6 ⟨rfl, ⟨nd, hw⟩⟩; have hb := (show Below w5.heap.size w5 w6 from hw ▸ pw_below_drewN (Below.refl _ _) nd); clear hw; have E6 := Aside0.mk (blk_below E5.out hb); have CB6 := Aside0.mk (Kd.C_below CB5.out hb); have B6 := Aside0.mk (below_step B5.out hb); clear hb; obtain ⟨cgEw60, cgEw61, cgEw62, cgEw63, cgEw64, cgEw65, fgEw60, fgEw61, fgEw62, fgEw63, fgEw64, fgEw65⟩ := spec_l20Entry.cells6 E6.out)
              | (go_at_call 25; (with_reducible refine (laws_alive.calls k true w6 X6.out).mono ?_); rintro e w7 ⟨rfl, hb⟩; have B7 := Aside0.mk (below_step B6.out hb); clear hb))
            go_ret
            exact ⟨rfl, B7.out⟩
          · have d0 : decide (n < 0) = false := decide_eq_false n0
            by_cases n1 : n ≥ 24
            · have d1 : decide (n ≥ 24) = true := decide_eq_true n1
              clear n0 n1 hj h5
              go_enter Try.func9, Try.ntmps9
              go_wp2_with (first
                | (go_at_call 31; (with_reducible refine (spec_DrawFrameEntry.calls k _ _ l0 n s1 s2 s3 s4 s5 s6 w ?side1 ?side2 X1.out).mono ?_); (case side1 => exact HR0.out); (case side2 => exact HC0.out); rintro e w1 ⟨rfl, hb⟩; have B1 := Aside0.mk hb; clear hb)
                | ((with_reducible refine gate_dst (N := 4) rfl ?_); refine box_event ?hg (N := 4) ?hd (cs := #[.int .i64 0, .int .i64 0, .int .i64 0, .string (⟨#[]⟩ : ByteArray), .int .i64 0, .int .i64 0]) (t := 31) ?hr ?_; (case hd => rfl); (case hg => rfl); (case hr => first | (go_simp; done) | (go_simp; rfl)); intro gE hgE w2 hc hbb; have E2 := Aside0.mk hc; have HB2 := Aside0.mk hbb; have LgE := Aside0.mk (Nat.le_of_eq hgE.symm); clear hc hbb hgE; obtain ⟨cgEw20, cgEw21, cgEw22, cgEw23, cgEw24, cgEw25, fgEw20, fgEw21, fgEw22, fgEw23, fgEw24, fgEw25⟩ := spec_l20Entry.cells6 E2.out)
                | ((with_reducible refine gate_store (t := 31) (p := 4) rfl ?_); refine store_event (t := 31) (p := 4) (v := ?vo_w2) (w1 := ((((((w2.setCell ⟨gE, 0, none⟩ (.int .i64 s1)).setCell ⟨gE, 1, none⟩ (.int .i64 s2)).setCell ⟨gE, 2, none⟩ (.int .i64 s3)).setCell ⟨gE, 3, none⟩ (.string s4)).setCell ⟨gE, 4, none⟩ (.int .i64 s5)).setCell ⟨gE, 5, none⟩ (.int .i64 s6))) ?hg ?ho ?hn ?hr ?_; (case ho => rfl); (case hg => rfl); (case hn => rfl); (case hr => first | (go_simp; done) | (go_simp; rfl)); intro w3 hw; have E3 := Aside0.mk (show w3.heap[gE]? = _ from hw ▸ spec_l20Entry.filled E2.out _ _ _ _ _ _); have hb := (show Below w1.heap.size w1 w3 from hw ▸ below6 HB2.out LgE.out _ _ _ _ _ _); clear hw; have B3 := Aside0.mk (below_step B1.out hb); clear hb; obtain ⟨cgEw30, cgEw31, cgEw32, cgEw33, cgEw34, cgEw35, fgEw30, fgEw31, fgEw32, fgEw33, fgEw34, fgEw35⟩ := spec_l20Entry.cells6 E3.out)
                | (go_at_call 28; (with_reducible refine (impl_FrameEntry.calls k n s1 s2 s3 s4 s5 s6 fb w3 X2.out).mono ?_); rintro e w4 ⟨v4, rfl, ho, hb⟩; obtain ⟨Ab, cb, eo⟩ := Kd.R_slice ho; subst eo; have CB4 := Aside0.mk (Kd.R_reads' ho).2.2; have CC := Aside0.mk (Kd.R_reads' ho).2.1; have E4 := Aside0.mk (blk_below E3.out hb); have B4 := Aside0.mk (below_step B3.out hb); clear ho hb; obtain ⟨cgEw40, cgEw41, cgEw42, cgEw43, cgEw44, cgEw45, fgEw40, fgEw41, fgEw42, fgEw43, fgEw44, fgEw45⟩ := spec_l20Entry.cells6 E4.out)
                | (go_at_call 27; (with_reducible refine (spec_FrameEntry.calls k n s1 s2 s3 s4 s5 s6 sb w4 X3.out).mono ?_); rintro e w5 ⟨v5, rfl, ho, hb⟩; obtain ⟨As, cs, eo⟩ := Kd.R_slice ho; subst eo; have CS5 := Aside0.mk (Kd.R_reads' ho).2.2; have CCS := Aside0.mk (Kd.R_reads' ho).2.1; have E5 := Aside0.mk (blk_below E4.out hb); have CB5 := Aside0.mk (Kd.C_below CB4.out hb); have B5 := Aside0.mk (below_step B4.out hb); clear ho hb)
                | (go_at_call 23; (with_reducible refine (laws_sameInts.calls k _ _ fb _ _ sb true w5 ?side1 ?side2 ?side3 ?side4 X4.out).mono ?_); (case side1 => exact CB5.out); (case side2 => exact CC.out); (case side3 => exact CS5.out); (case side4 => exact CCS.out); rintro e w6 ⟨rfl, ⟨nd, hw⟩⟩; have hb := (show Below w5.heap.size w5 w6 from hw ▸ pw_below_drewN (Below.refl _ _) nd); clear hw; have E6 := Aside0.mk (blk_below E5.out hb); have CB6 := Aside0.mk (Kd.C_below CB5.out hb); have B6 := Aside0.mk (below_step B5.out hb); clear hb; obtain ⟨cgEw60, cgEw61, cgEw62, cgEw63, cgEw64, cgEw65, fgEw60, fgEw61, fgEw62, fgEw63, fgEw64, fgEw65⟩ := spec_l20Entry.cells6 E6.out)
                | (go_at_call 25; (with_reducible refine (laws_alive.calls k true w6 X6.out).mono ?_); rintro e w7 ⟨rfl, hb⟩; have B7 := Aside0.mk (below_step B6.out hb); clear hb))
              go_ret
              exact ⟨rfl, B7.out⟩
            · have d1 : decide (n ≥ 24) = false := decide_eq_false n1
              obtain rfl : v = false := by
                rcases hj with h | h | h
                · exact absurd h n0
                · exact absurd h n1
                · exact h
              have X5 := Aside0.mk h5
              clear n0 n1 hj h5
              go_enter Try.func9, Try.ntmps9
              go_wp2_with (first
                | (go_at_call 31; (with_reducible refine (spec_DrawFrameEntry.calls k _ _ l0 n s1 s2 s3 s4 s5 s6 w ?side1 ?side2 X1.out).mono ?_); (case side1 => exact HR0.out); (case side2 => exact HC0.out); rintro e w1 ⟨rfl, hb⟩; have B1 := Aside0.mk hb; clear hb)
                | ((with_reducible refine gate_dst (N := 4) rfl ?_); refine box_event ?hg (N := 4) ?hd (cs := #[.int .i64 0, .int .i64 0, .int .i64 0, .string (⟨#[]⟩ : ByteArray), .int .i64 0, .int .i64 0]) (t := 31) ?hr ?_; (case hd => rfl); (case hg => rfl); (case hr => first | (go_simp; done) | (go_simp; rfl)); intro gE hgE w2 hc hbb; have E2 := Aside0.mk hc; have HB2 := Aside0.mk hbb; have LgE := Aside0.mk (Nat.le_of_eq hgE.symm); clear hc hbb hgE; obtain ⟨cgEw20, cgEw21, cgEw22, cgEw23, cgEw24, cgEw25, fgEw20, fgEw21, fgEw22, fgEw23, fgEw24, fgEw25⟩ := spec_l20Entry.cells6 E2.out)
                | ((with_reducible refine gate_store (t := 31) (p := 4) rfl ?_); refine store_event (t := 31) (p := 4) (v := ?vo_w2) (w1 := ((((((w2.setCell ⟨gE, 0, none⟩ (.int .i64 s1)).setCell ⟨gE, 1, none⟩ (.int .i64 s2)).setCell ⟨gE, 2, none⟩ (.int .i64 s3)).setCell ⟨gE, 3, none⟩ (.string s4)).setCell ⟨gE, 4, none⟩ (.int .i64 s5)).setCell ⟨gE, 5, none⟩ (.int .i64 s6))) ?hg ?ho ?hn ?hr ?_; (case ho => rfl); (case hg => rfl); (case hn => rfl); (case hr => first | (go_simp; done) | (go_simp; rfl)); intro w3 hw; have E3 := Aside0.mk (show w3.heap[gE]? = _ from hw ▸ spec_l20Entry.filled E2.out _ _ _ _ _ _); have hb := (show Below w1.heap.size w1 w3 from hw ▸ below6 HB2.out LgE.out _ _ _ _ _ _); clear hw; have B3 := Aside0.mk (below_step B1.out hb); clear hb; obtain ⟨cgEw30, cgEw31, cgEw32, cgEw33, cgEw34, cgEw35, fgEw30, fgEw31, fgEw32, fgEw33, fgEw34, fgEw35⟩ := spec_l20Entry.cells6 E3.out)
                | (go_at_call 28; (with_reducible refine (impl_FrameEntry.calls k n s1 s2 s3 s4 s5 s6 fb w3 X2.out).mono ?_); rintro e w4 ⟨v4, rfl, ho, hb⟩; obtain ⟨Ab, cb, eo⟩ := Kd.R_slice ho; subst eo; have CB4 := Aside0.mk (Kd.R_reads' ho).2.2; have CC := Aside0.mk (Kd.R_reads' ho).2.1; have E4 := Aside0.mk (blk_below E3.out hb); have B4 := Aside0.mk (below_step B3.out hb); clear ho hb; obtain ⟨cgEw40, cgEw41, cgEw42, cgEw43, cgEw44, cgEw45, fgEw40, fgEw41, fgEw42, fgEw43, fgEw44, fgEw45⟩ := spec_l20Entry.cells6 E4.out)
                | (go_at_call 27; (with_reducible refine (spec_FrameEntry.calls k n s1 s2 s3 s4 s5 s6 sb w4 X3.out).mono ?_); rintro e w5 ⟨v5, rfl, ho, hb⟩; obtain ⟨As, cs, eo⟩ := Kd.R_slice ho; subst eo; have CS5 := Aside0.mk (Kd.R_reads' ho).2.2; have CCS := Aside0.mk (Kd.R_reads' ho).2.1; have E5 := Aside0.mk (blk_below E4.out hb); have CB5 := Aside0.mk (Kd.C_below CB4.out hb); have B5 := Aside0.mk (below_step B4.out hb); clear ho hb)
                | (go_at_call 23; (with_reducible refine (laws_sameInts.calls k _ _ fb _ _ sb true w5 ?side1 ?side2 ?side3 ?side4 X4.out).mono ?_); (case side1 => exact CB5.out); (case side2 => exact CC.out); (case side3 => exact CS5.out); (case side4 => exact CCS.out); rintro e w6 ⟨rfl, ⟨nd, hw⟩⟩; have hb := (show Below w5.heap.size w5 w6 from hw ▸ pw_below_drewN (Below.refl _ _) nd); clear hw; have E6 := Aside0.mk (blk_below E5.out hb); have CB6 := Aside0.mk (Kd.C_below CB5.out hb); have B6 := Aside0.mk (below_step B5.out hb); clear hb; obtain ⟨cgEw60, cgEw61, cgEw62, cgEw63, cgEw64, cgEw65, fgEw60, fgEw61, fgEw62, fgEw63, fgEw64, fgEw65⟩ := spec_l20Entry.cells6 E6.out)
                | (go_at_call 24; (with_reducible refine (impl_EntryValid.calls k s1 s2 s3 s4 s5 s6 false w6 X5.out).mono ?_); rintro e w7 ⟨rfl, hb⟩; have B7 := Aside0.mk (below_step B6.out hb); clear hb)
                | (go_at_call 25; (with_reducible refine (laws_alive.calls k true w7 X6.out).mono ?_); rintro e w8 ⟨rfl, hb⟩; have B8 := Aside0.mk (below_step B7.out hb); clear hb))
              go_ret
              exact ⟨rfl, B8.out⟩
        · rw [if_neg hj] at h
          cases h
      · rw [if_neg hb0] at h
        replace h := Option.bind_eq_some_iff.mp h
        obtain ⟨x, h5, h⟩ := h
        replace h := Option.bind_eq_some_iff.mp h
        obtain ⟨⟨o1, o2, o3, o4, o5, o6, o7⟩, h6, h⟩ := h
        dsimp only at h
        by_cases hj : x = (s1, s2, s3, s4, s5, s6, (fb.length : Int)) ∧ o7 = -1 ∧ fb.length ≤ 2000
        · rw [if_pos hj] at h
          obtain ⟨rfl, rfl, hsz⟩ := hj
          obtain ⟨rfl, hall⟩ := laws_FnFrameEntry.cuts_at h
          have X5 := Aside0.mk h5
          have X6 := Aside0.mk h6
          have SZ := Aside0.mk hsz
          have ALL := Aside0.mk hall
          have cz : ((fb.length : Int) == 0) = false := beq_eq_false_iff_ne.mpr (by omega)
          have heq := fun (d : Nat) (W : World) => same_entry d W s1 s2 s3 s4 s5 s6
          clear h5 h6 h hsz hall hb0
          go_enter Try.func9, Try.ntmps9
          go_wp2_with (first
            | (go_at_call 31; (with_reducible refine (spec_DrawFrameEntry.calls k _ _ l0 n s1 s2 s3 s4 s5 s6 w ?side1 ?side2 X1.out).mono ?_); (case side1 => exact HR0.out); (case side2 => exact HC0.out); rintro e w1 ⟨rfl, hb⟩; have B1 := Aside0.mk hb; clear hb)
            | ((with_reducible refine gate_dst (N := 4) rfl ?_); refine box_event ?hg (N := 4) ?hd (cs := #[.int .i64 0, .int .i64 0, .int .i64 0, .string (⟨#[]⟩ : ByteArray), .int .i64 0, .int .i64 0]) (t := 31) ?hr ?_; (case hd => rfl); (case hg => rfl); (case hr => first | (go_simp; done) | (go_simp; rfl)); intro gE hgE w2 hc hbb; have E2 := Aside0.mk hc; have HB2 := Aside0.mk hbb; have LgE := Aside0.mk (Nat.le_of_eq hgE.symm); clear hc hbb hgE; obtain ⟨cgEw20, cgEw21, cgEw22, cgEw23, cgEw24, cgEw25, fgEw20, fgEw21, fgEw22, fgEw23, fgEw24, fgEw25⟩ := spec_l20Entry.cells6 E2.out)
            | ((with_reducible refine gate_store (t := 31) (p := 4) rfl ?_); refine store_event (t := 31) (p := 4) (v := ?vo_w2) (w1 := ((((((w2.setCell ⟨gE, 0, none⟩ (.int .i64 s1)).setCell ⟨gE, 1, none⟩ (.int .i64 s2)).setCell ⟨gE, 2, none⟩ (.int .i64 s3)).setCell ⟨gE, 3, none⟩ (.string s4)).setCell ⟨gE, 4, none⟩ (.int .i64 s5)).setCell ⟨gE, 5, none⟩ (.int .i64 s6))) ?hg ?ho ?hn ?hr ?_; (case ho => rfl); (case hg => rfl); (case hn => rfl); (case hr => first | (go_simp; done) | (go_simp; rfl)); intro w3 hw; have E3 := Aside0.mk (show w3.heap[gE]? = _ from hw ▸ spec_l20Entry.filled E2.out _ _ _ _ _ _); have hb := (show Below w1.heap.size w1 w3 from hw ▸ below6 HB2.out LgE.out _ _ _ _ _ _); clear hw; have B3 := Aside0.mk (below_step B1.out hb); clear hb; obtain ⟨cgEw30, cgEw31, cgEw32, cgEw33, cgEw34, cgEw35, fgEw30, fgEw31, fgEw32, fgEw33, fgEw34, fgEw35⟩ := spec_l20Entry.cells6 E3.out)
            | (go_at_call 28; (with_reducible refine (impl_FrameEntry.calls k n s1 s2 s3 s4 s5 s6 fb w3 X2.out).mono ?_); rintro e w4 ⟨v4, rfl, ho, hb⟩; obtain ⟨Ab, cb, eo⟩ := Kd.R_slice ho; subst eo; have CB4 := Aside0.mk (Kd.R_reads' ho).2.2; have CC := Aside0.mk (Kd.R_reads' ho).2.1; have E4 := Aside0.mk (blk_below E3.out hb); have B4 := Aside0.mk (below_step B3.out hb); clear ho hb; obtain ⟨cgEw40, cgEw41, cgEw42, cgEw43, cgEw44, cgEw45, fgEw40, fgEw41, fgEw42, fgEw43, fgEw44, fgEw45⟩ := spec_l20Entry.cells6 E4.out)
            | (go_at_call 27; (with_reducible refine (spec_FrameEntry.calls k n s1 s2 s3 s4 s5 s6 sb w4 X3.out).mono ?_); rintro e w5 ⟨v5, rfl, ho, hb⟩; obtain ⟨As, cs, eo⟩ := Kd.R_slice ho; subst eo; have CS5 := Aside0.mk (Kd.R_reads' ho).2.2; have CCS := Aside0.mk (Kd.R_reads' ho).2.1; have E5 := Aside0.mk (blk_below E4.out hb); have CB5 := Aside0.mk (Kd.C_below CB4.out hb); have B5 := Aside0.mk (below_step B4.out hb); clear ho hb)
            | (go_at_call 23; (with_reducible refine (laws_sameInts.calls k _ _ fb _ _ sb true w5 ?side1 ?side2 ?side3 ?side4 X4.out).mono ?_); (case side1 => exact CB5.out); (case side2 => exact CC.out); (case side3 => exact CS5.out); (case side4 => exact CCS.out); rintro e w6 ⟨rfl, ⟨nd, hw⟩⟩; have hb := (show Below w5.heap.size w5 w6 from hw ▸ pw_below_drewN (Below.refl _ _) nd); clear hw; have E6 := Aside0.mk (blk_below E5.out hb); have CB6 := Aside0.mk (Kd.C_below CB5.out hb); have B6 := Aside0.mk (below_step B5.out hb); clear hb; obtain ⟨cgEw60, cgEw61, cgEw62, cgEw63, cgEw64, cgEw65, fgEw60, fgEw61, fgEw62, fgEw63, fgEw64, fgEw65⟩ := spec_l20Entry.cells6 E6.out)
            | (go_at_call 30; (with_reducible refine (impl_ReadFrame.calls k _ _ fb 0 n s1 s2 s3 s4 s5 s6 (fb.length : Int) w6 ?side1 ?side2 X5.out).mono ?_); (case side1 => exact CB6.out); (case side2 => exact CC.out); rintro e w7 ⟨rfl, hb⟩; have E7 := Aside0.mk (blk_below E6.out hb); have CB7 := Aside0.mk (Kd.C_below CB6.out hb); have B7 := Aside0.mk (below_step B6.out hb); clear hb)
            | ((with_reducible refine gate_dst (N := 6) rfl ?_); refine box_event ?hg (N := 6) ?hd (cs := #[.int .i64 0, .int .i64 0, .int .i64 0, .string (⟨#[]⟩ : ByteArray), .int .i64 0, .int .i64 0]) (t := 31) ?hr ?_; (case hd => rfl); (case hg => rfl); (case hr => first | (go_simp; done) | (go_simp; rfl)); intro gX hgX w8 hc hbb; have X8 := Aside0.mk hc; have HB8 := Aside0.mk hbb; have LgX := Aside0.mk (Nat.le_of_eq hgX.symm); have NEX := Aside0.mk (Nat.ne_of_lt (hgX ▸ blk_lt E7.out)); clear hc hbb hgX; obtain ⟨cgXw80, cgXw81, cgXw82, cgXw83, cgXw84, cgXw85, fgXw80, fgXw81, fgXw82, fgXw83, fgXw84, fgXw85⟩ := spec_l20Entry.cells6 X8.out)
            | ((with_reducible refine gate_store (t := 31) (p := 6) rfl ?_); refine store_event (t := 31) (p := 6) (v := ?vo_w8) (w1 := ((((((w8.setCell ⟨gX, 0, none⟩ (.int .i64 s1)).setCell ⟨gX, 1, none⟩ (.int .i64 s2)).setCell ⟨gX, 2, none⟩ (.int .i64 s3)).setCell ⟨gX, 3, none⟩ (.string s4)).setCell ⟨gX, 4, none⟩ (.int .i64 s5)).setCell ⟨gX, 5, none⟩ (.int .i64 s6))) ?hg ?ho ?hn ?hr ?_; (case ho => rfl); (case hg => rfl); (case hn => rfl); (case hr => first | (go_simp; done) | (go_simp; rfl)); intro w9 hw; have X9 := Aside0.mk (show w9.heap[gX]? = _ from hw ▸ spec_l20Entry.filled X8.out _ _ _ _ _ _); have hb := (show Below w7.heap.size w7 w9 from hw ▸ below6 HB8.out LgX.out _ _ _ _ _ _); clear hw; have E9 := Aside0.mk (blk_below E7.out hb); have CB9 := Aside0.mk (Kd.C_below CB7.out hb); have B9 := Aside0.mk (below_step B7.out hb); clear hb)
            | (go_at_call 30; (with_reducible refine (impl_ReadFrame.calls k _ _ fb 0 (wrap64 (n + 1)) o1 o2 o3 o4 o5 o6 (-1) w9 ?side1 ?side2 X6.out).mono ?_); (case side1 => exact CB9.out); (case side2 => exact CC.out); rintro e w10 ⟨rfl, hb⟩; have E10 := Aside0.mk (blk_below E9.out hb); have X10 := Aside0.mk (blk_below X9.out hb); have CB10 := Aside0.mk (Kd.C_below CB9.out hb); have B10 := Aside0.mk (below_step B9.out hb); clear hb)
            | ((with_reducible refine gate_dst (N := 8) rfl ?_); refine box_event ?hg (N := 8) ?hd (cs := #[.int .i64 0, .int .i64 0, .int .i64 0, .string (⟨#[]⟩ : ByteArray), .int .i64 0, .int .i64 0]) (t := 31) ?hr ?_; (case hd => rfl); (case hg => rfl); (case hr => first | (go_simp; done) | (go_simp; rfl)); intro gY hgY w11 hc hbb; have Y11 := Aside0.mk hc; have HB11 := Aside0.mk hbb; have LgY := Aside0.mk (Nat.le_of_eq hgY.symm); have NEY := Aside0.mk (Nat.ne_of_lt (hgY ▸ blk_lt E10.out)); have NXY := Aside0.mk (Nat.ne_of_lt (hgY ▸ blk_lt X10.out)); clear hc hbb hgY; obtain ⟨cgYw110, cgYw111, cgYw112, cgYw113, cgYw114, cgYw115, fgYw110, fgYw111, fgYw112, fgYw113, fgYw114, fgYw115⟩ := spec_l20Entry.cells6 Y11.out)
            | ((with_reducible refine gate_store (t := 31) (p := 8) rfl ?_); refine store_event (t := 31) (p := 8) (v := ?vo_w11) (w1 := ((((((w11.setCell ⟨gY, 0, none⟩ (.int .i64 o1)).setCell ⟨gY, 1, none⟩ (.int .i64 o2)).setCell ⟨gY, 2, none⟩ (.int .i64 o3)).setCell ⟨gY, 3, none⟩ (.string o4)).setCell ⟨gY, 4, none⟩ (.int .i64 o5)).setCell ⟨gY, 5, none⟩ (.int .i64 o6))) ?hg ?ho ?hn ?hr ?_; (case ho => rfl); (case hg => rfl); (case hn => rfl); (case hr => first | (go_simp; done) | (go_simp; rfl)); intro w12 hw; have Y12 := Aside0.mk (show w12.heap[gY]? = _ from hw ▸ spec_l20Entry.filled Y11.out _ _ _ _ _ _); have hb := (show Below w10.heap.size w10 w12 from hw ▸ below6 HB11.out LgY.out _ _ _ _ _ _); clear hw; have E12 := Aside0.mk (blk_below E10.out hb); have X12 := Aside0.mk (blk_below X10.out hb); have CB12 := Aside0.mk (Kd.C_below CB10.out hb); have B12 := Aside0.mk (below_step B10.out hb); clear hb; obtain ⟨cgEw120, cgEw121, cgEw122, cgEw123, cgEw124, cgEw125, fgEw120, fgEw121, fgEw122, fgEw123, fgEw124, fgEw125⟩ := spec_l20Entry.cells6 E12.out; obtain ⟨cgXw120, cgXw121, cgXw122, cgXw123, cgXw124, cgXw125, fgXw120, fgXw121, fgXw122, fgXw123, fgXw124, fgXw125⟩ := spec_l20Entry.cells6 X12.out))
          go_loopg [10] fb.length (fun kx v10 wr => ∃ i : Nat, v10 = .int .i64 (i : Int) ∧ i + kx = fb.length ∧ Aside0 (Kd.C (Kd.int .i64) wr Ab fb.length fb) ∧ Aside0 (Below w.heap.size w wr))
          case atStart => exact ⟨0, rfl, by omega, CB12, B12⟩
          case round =>
            obtain ⟨i, rfl, hk, CW, BW⟩ := hrel
            by_cases hi : i < fb.length
            · obtain ⟨⟨y1, y2, y3, y4, y5, y6, hy⟩, ⟨z1, z2, z3, z4, z5, z6, hz⟩⟩ := ALL.out i hi
              have XA := Aside0.mk hy
              have XB := Aside0.mk hz
              have J := Aside0.mk hi
              clear hy hz
              obtain ⟨i0, hif, _, hsz, _⟩ := info_parts info3
              obtain ⟨hcut, hA, hC⟩ := print_take_of (P := Try.prog) (Value.int .i64) 0 27 3 .i64 Try.underlying27 hif hsz Ab cb fb (i : Int) (by omega) (by omega) CC.out
              rw [Int.toNat_natCast] at hcut hC
              have CI := Aside0.mk (Kd.C_take CW.out (m := i) (by omega))
              have CL := Aside0.mk hC
              obtain ⟨n', hn'⟩ : ∃ n', n' = (fb.take i).length := ⟨_, rfl⟩
              rw [← hn'] at hcut
              have HN := Aside0.mk hn'
              clear hA hC hif hsz hn'
              have ci : decide ((i : Int) < (fb.length : Int)) = true := decide_eq_true (by omega)
              have q0 : (0 ≤ (i : Int)) = True := eq_true (by omega)
              have q1 : ((i : Int) < (fb.length : Int)) = True := eq_true (by omega)
              have q2 : (i < fb.length) = True := eq_true hi
              have wi : wrap64 ((i : Int) + 1) = ((i + 1 : Nat) : Int) := by have := SZ.out; unfold wrap64; omega
              have xi : Int.tmod (wrap64 (wrap64 (Go.Proofs.YtlimhkjnnpmpkaaW.PrintWords.rd fb (i : Int) + 1) + Int.tmod (l0.length : Int) 255)) 256 = laws_FnFrameEntry.other fb l0.length i := rfl
              go_wp2_with (first
                | (go_at_call 30; (with_reducible refine (laws_FnFrameEntry.readAt HN.out (impl_ReadFrame.calls k _ _ (fb.take i) 0 n y1 y2 y3 y4 y5 y6 (-1) wr ?side1 ?side2 XA.out)).mono ?_); (case side1 => exact CI.out); (case side2 => exact CL.out); rintro e w20 ⟨rfl, hb⟩; have HB20 := Aside0.mk hb; clear hb)
                | ((with_reducible refine gate_dst (N := 11) rfl ?_); refine box_event ?hg (N := 11) ?hd (cs := #[.int .i64 0, .int .i64 0, .int .i64 0, .string (⟨#[]⟩ : ByteArray), .int .i64 0, .int .i64 0]) (t := 31) ?hr ?_; (case hd => rfl); (case hg => rfl); (case hr => first | (go_simp; done) | (go_simp; rfl)); intro gJ hgJ w21 hc hbb; have J21 := Aside0.mk hc; have HB21 := Aside0.mk hbb; have LJ := Aside0.mk (Nat.le_of_eq hgJ.symm); clear hc hbb hgJ; obtain ⟨cgJw210, cgJw211, cgJw212, cgJw213, cgJw214, cgJw215, fgJw210, fgJw211, fgJw212, fgJw213, fgJw214, fgJw215⟩ := spec_l20Entry.cells6 J21.out)
                | ((with_reducible refine gate_store (t := 31) (p := 11) rfl ?_); refine store_event (t := 31) (p := 11) (v := ?vo_w21) (w1 := ((((((w21.setCell ⟨gJ, 0, none⟩ (.int .i64 y1)).setCell ⟨gJ, 1, none⟩ (.int .i64 y2)).setCell ⟨gJ, 2, none⟩ (.int .i64 y3)).setCell ⟨gJ, 3, none⟩ (.string y4)).setCell ⟨gJ, 4, none⟩ (.int .i64 y5)).setCell ⟨gJ, 5, none⟩ (.int .i64 y6))) ?hg ?ho ?hn ?hr ?_; (case ho => rfl); (case hg => rfl); (case hn => rfl); (case hr => first | (go_simp; done) | (go_simp; rfl)); intro w22 hw; have HB22 := Aside0.mk (below_step HB20.out (show Below w20.heap.size w20 w22 from hw ▸ below6 HB21.out LJ.out _ _ _ _ _ _)); clear hw)
                | ((with_reducible refine gate_dst (N := 90) rfl ?_); refine Kd.R_lit (Kd.int .i64) _ 3 ?hg (N := 90) ?hd (xs := ([] : List Int)) (inner := []) (ok := fun _ => True) (okp := fun _ => True) ?hr ?hp (fun _ hk => hk) trivial (Below.refl _ _) (Nat.le_refl _) (by simp) ?_; (case hd => rfl); (case hg => rfl); (case hr => first | (go_simp; done) | (go_simp; rfl)); (case hp => exact (Reps.none _ _)); intro v23 w23 ho hb hg _; have HB23 := Aside0.mk (below_step HB22.out hb); have N23 := Aside0.mk (Kd.R_lower ho (below_size HB22.out)); have C23 := Aside0.mk (Kd.C_below CW.out HB23.out); clear ho hb hg)
                | ((with_reducible refine gate_builtin (b := .append) (xs := #[.tmp 90, .tmp 91]) rfl ?_); at_builtin; refine Kd.R_append_rows (Kd.int .i64) (w0 := wr) wr.heap.size rfl (.tmp 90) (.tmp 91) 27 3 (.int .i64 0) 8 rfl Try.underlying27 info3 rfl (by decide) (by omega) v23 [] fb _ _ _ (fun _ => True) (fun _ => False) rfl rfl ?aO ?aR (fun _ _ h => h) (fun _ h => h.elim) ?aF ?aB ?aS ?aL ?_; (case aO => exact N23.out); (case aR => exact C23.out); (case aF => exact fun _ _ => trivial); (case aB => exact HB23.out); (case aS => exact below_size HB23.out); (case aL => have := SZ.out; simp only [List.length_nil]; omega); intro v24 w24 ho hb hg hat; rw [List.nil_append] at ho; obtain ⟨gb, cg, ee, hgb, _, _⟩ := Kd.R_form ho (by have := J.out; omega); subst ee; have HB24 := Aside0.mk hb; have N24 := Aside0.mk ho; have GB := Aside0.mk hgb; obtain ⟨hc, hf⟩ := row_cell ho (Int.natCast_nonneg i) (by have := J.out; omega); rw [Int.toNat_natCast] at hc hf; obtain ⟨ad, hA, hx⟩ := Kd.at_int (Kd.C_below CW.out hb) (i : Int) (Int.natCast_nonneg i) (by have := J.out; omega); rw [Int.toNat_natCast] at hx; cases hA; clear ho hb hg hat hgb)
                | ((with_reducible refine gate_store (t := 3) (p := 105) rfl ?_); refine store_event (t := 3) (p := 105) (v := ?vo_w24) (w1 := w24.setCell ⟨gb, i, none⟩ (.int .i64 (laws_FnFrameEntry.other fb l0.length i))) ?hg ?ho ?hn ?hr ?_; (case ho => rfl); (case hg => rfl); (case hn => rfl); (case hr => first | (go_simp; done) | (go_simp; rfl)); intro w25 hw; have hp := (row_put N24.out (Int.natCast_nonneg i) (by have := J.out; omega) (laws_FnFrameEntry.other fb l0.length i)).1; rw [Int.toNat_natCast, ← hw] at hp; have N25 := Aside0.mk hp; have HB25 := Aside0.mk (show Below wr.heap.size wr w25 from hw ▸ below_set HB24.out GB.out); clear hp hw)
                | (go_at_call 30; (with_reducible refine (laws_FnFrameEntry.readAt (List.length_set.symm : fb.length = (fb.set i (laws_FnFrameEntry.other fb l0.length i)).length) (impl_ReadFrame.calls k _ _ (fb.set i (laws_FnFrameEntry.other fb l0.length i)) 0 n z1 z2 z3 z4 z5 z6 (-1) w25 ?side1 ?side2 XB.out)).mono ?_); (case side1 => exact laws_FnFrameEntry.same_len (Kd.R_reads' N25.out).2.2); (case side2 => exact (Kd.R_reads' N25.out).1 ▸ (Kd.R_reads' N25.out).2.1); rintro e w26 ⟨rfl, hb⟩; have HB26 := Aside0.mk (below_step HB25.out hb); clear hb)
                | ((with_reducible refine gate_dst (N := 14) rfl ?_); refine box_event ?hg (N := 14) ?hd (cs := #[.int .i64 0, .int .i64 0, .int .i64 0, .string (⟨#[]⟩ : ByteArray), .int .i64 0, .int .i64 0]) (t := 31) ?hr ?_; (case hd => rfl); (case hg => rfl); (case hr => first | (go_simp; done) | (go_simp; rfl)); intro gK hgK w27 hc hbb; have K27 := Aside0.mk hc; have HB27 := Aside0.mk hbb; have LK := Aside0.mk (Nat.le_of_eq hgK.symm); clear hc hbb hgK; obtain ⟨cgKw270, cgKw271, cgKw272, cgKw273, cgKw274, cgKw275, fgKw270, fgKw271, fgKw272, fgKw273, fgKw274, fgKw275⟩ := spec_l20Entry.cells6 K27.out)
                | ((with_reducible refine gate_store (t := 31) (p := 14) rfl ?_); refine store_event (t := 31) (p := 14) (v := ?vo_w27) (w1 := ((((((w27.setCell ⟨gK, 0, none⟩ (.int .i64 z1)).setCell ⟨gK, 1, none⟩ (.int .i64 z2)).setCell ⟨gK, 2, none⟩ (.int .i64 z3)).setCell ⟨gK, 3, none⟩ (.string z4)).setCell ⟨gK, 4, none⟩ (.int .i64 z5)).setCell ⟨gK, 5, none⟩ (.int .i64 z6))) ?hg ?ho ?hn ?hr ?_; (case ho => rfl); (case hg => rfl); (case hn => rfl); (case hr => first | (go_simp; done) | (go_simp; rfl)); intro w28 hw; have HB28 := Aside0.mk (below_step HB26.out (show Below w26.heap.size w26 w28 from hw ▸ below6 HB27.out LK.out _ _ _ _ _ _)); clear hw))
              go_roundg (gk - 1)
              case measure => omega
              case rel => exact ⟨i + 1, congrArg (Value.int .i64) wi, by omega, ⟨Kd.C_below CW.out HB28.out⟩, ⟨below_step BW.out HB28.out⟩⟩
            · have ci : decide ((i : Int) < (fb.length : Int)) = false := decide_eq_false (by omega)
              go_wp2
              go_ret
              exact ⟨rfl, BW.out⟩
        · rw [if_neg hj] at h
          cases h
    · rw [if_neg ht] at h
      cases h

end Go.Proofs.Ytlimhkjnnpmpkaa.PFnFrameEntry
