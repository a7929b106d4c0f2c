/- spec_l20Entry by hand (the print does not take it): three draws into an entry; where the draw says so, one of six odd entries. spec_EncodeEntry by hand (shorter than the printed text): the bytes of six numbers and texts, one behind the other. Words for rows of whole numbers of a call's own, and for boxes of six cells. spec_DrawDecodeEntry by hand (the print does not take it): bytes are drawn, ahead of them now and then those of an entry, one of them changed. Equality of entries, as the machine tells it: an entry equals itself. laws_FnDecodeEntry by hand (the print does not take it): the ways on which the law answers true. -/
import Derived.Test.YtlimhkjnnpmpkaaPFnDecodeEntryx0
import Derived.Test.YtlimhkjnnpmpkaaPFnDecodeEntryx10
import Derived.Test.YtlimhkjnnpmpkaaPFnDecodeEntryx13
import Derived.Test.YtlimhkjnnpmpkaaPFnDecodeEntryx17
import Derived.Test.YtlimhkjnnpmpkaaPFnDecodeEntryx18
import Derived.Test.YtlimhkjnnpmpkaaPFnDecodeEntryx20
import Derived.Test.YtlimhkjnnpmpkaaPFnDecodeEntryx21
import Derived.Test.YtlimhkjnnpmpkaaPFnDecodeEntryx22
import Derived.Test.YtlimhkjnnpmpkaaPFnDecodeEntryx24
import Derived.Test.YtlimhkjnnpmpkaaPFnDecodeEntryx25
import Derived.Test.YtlimhkjnnpmpkaaPFnDecodeEntryx26
import Derived.Test.YtlimhkjnnpmpkaaPFnDecodeEntryx30
import Derived.Test.YtlimhkjnnpmpkaaPFnDecodeEntryx32
import Derived.Test.YtlimhkjnnpmpkaaPFnDecodeEntryx4
import Derived.Test.YtlimhkjnnpmpkaaPFnDecodeEntryx7
namespace Go.Proofs.Ytlimhkjnnpmpkaa.PFnDecodeEntry
open Go.RowKit Go.Proofs.YtlimhkjnnpmpkaaW.PrintWords Go.Proofs.YtlimhkjnnpmpkaaW.PrintLast Go.Proofs.YtlimhkjnnpmpkaaW.PrintMore
set_option linter.unusedVariables false
set_option linter.unusedSimpArgs false

/-- which of n operations have come up -/
def bits (n m : Nat) : Array Bool := ((List.range n).map fun i => m.testBit i).toArray
/-- the six odd entries -/
def spec_l20Entry.odds (c : S29) : List S31 :=
  [⟨0, 0, ⟨0, ⟨#[]⟩, 0, 0⟩⟩, ⟨4, 1, c⟩, ⟨-1, 1, c⟩, ⟨1, 0, c⟩, ⟨1, 1000, c⟩, ⟨1, 1, ⟨0, ⟨#[]⟩, 0, 0⟩⟩]
def spec_l20Entry.one (c : S29) (i p : Int) : Option (Int × Int × Int × ByteArray × Int × Int × Int) :=
  if 0 ≤ i ∧ i < ((spec_l20Entry.odds c).length : Int) then
    some ((rd_T31 (spec_l20Entry.odds c) i).f0, (rd_T31 (spec_l20Entry.odds c) i).f1, (rd_T31 (spec_l20Entry.odds c) i).f2.f0, (rd_T31 (spec_l20Entry.odds c) i).f2.f1, (rd_T31 (spec_l20Entry.odds c) i).f2.f2, (rd_T31 (spec_l20Entry.odds c) i).f2.f3, p)
  else none
def spec_l20Entry.f (k : Nat) (b : List Int) (p : Int) (n : Int) : Option (Int × Int × Int × ByteArray × Int × Int × Int) :=
  (spec_l20Rd_pick.f k b p 4).bind fun x1 => (spec_l20Rd_pick.f k b x1.2 6).bind fun x2 => (spec_l20Any.f k b x2.2 0).bind fun x3 => (spec_l20Rd_odd.f k b x3.2.2.2.2 n).bind fun x4 =>
    if x4.1 = true then (spec_l20Rd_pick.f k b x4.2 6).bind fun x5 => spec_l20Entry.one ⟨x3.1, x3.2.1, x3.2.2.1, x3.2.2.2.1⟩ x5.1 x5.2
    else some (x1.1, wrap64 (1 + x2.1), x3.1, x3.2.1, x3.2.2.1, x3.2.2.2.1, x4.2)
/-- six cells of an entry -/
def spec_l20Entry.row (c s kd : Int) (t : ByteArray) (v o : Int) : Array Value := #[.int .i64 c, .int .i64 s, .int .i64 kd, .string t, .int .i64 v, .int .i64 o]
def spec_l20Entry.cells (c : S29) : List Value :=
  [.int .i64 0, .int .i64 0, .int .i64 0, .string (⟨#[]⟩ : ByteArray), .int .i64 0, .int .i64 0,
   .int .i64 4, .int .i64 1, .int .i64 c.f0, .string c.f1, .int .i64 c.f2, .int .i64 c.f3,
   .int .i64 (-1), .int .i64 1, .int .i64 c.f0, .string c.f1, .int .i64 c.f2, .int .i64 c.f3,
   .int .i64 1, .int .i64 0, .int .i64 c.f0, .string c.f1, .int .i64 c.f2, .int .i64 c.f3,
   .int .i64 1, .int .i64 1000, .int .i64 c.f0, .string c.f1, .int .i64 c.f2, .int .i64 c.f3,
   .int .i64 1, .int .i64 1, .int .i64 0, .string (⟨#[]⟩ : ByteArray), .int .i64 0, .int .i64 0]
theorem spec_l20Entry.reps (w : World) (base : Nat) (ok : Nat → Prop) (c : S29) : Reps (Kd.M k31 w base ok) (Kd.sz k31) (spec_l20Entry.odds c) (spec_l20Entry.cells c) :=
  Reps.c6 (k31_mkM w base ok ⟨0, 0, ⟨0, ⟨#[]⟩, 0, 0⟩⟩) (Reps.c6 (k31_mkM w base ok ⟨4, 1, c⟩) (Reps.c6 (k31_mkM w base ok ⟨-1, 1, c⟩) (Reps.c6 (k31_mkM w base ok ⟨1, 0, c⟩) (Reps.c6 (k31_mkM w base ok ⟨1, 1000, c⟩) (Reps.c6 (k31_mkM w base ok ⟨1, 1, ⟨0, ⟨#[]⟩, 0, 0⟩⟩) (Reps.none _ _))))))

/-- the cells of a block of six -/
theorem spec_l20Entry.cells6 {W : World} {g : Nat} {c s kd : Int} {t : ByteArray} {v o : Int} (h : W.heap[g]? = some (.cells #[.int .i64 c, .int .i64 s, .int .i64 kd, .string t, .int .i64 v, .int .i64 o] 31 (0, 0))) :
    W.cell? ⟨g, 0, none⟩ = some (.int .i64 c) ∧ W.cell? ⟨g, 1, none⟩ = some (.int .i64 s) ∧ W.cell? ⟨g, 2, none⟩ = some (.int .i64 kd) ∧ W.cell? ⟨g, 3, none⟩ = some (.string t) ∧ W.cell? ⟨g, 4, none⟩ = some (.int .i64 v) ∧ W.cell? ⟨g, 5, none⟩ = some (.int .i64 o) ∧
      W.frozen? ⟨g, 0, none⟩ = false ∧ W.frozen? ⟨g, 1, none⟩ = false ∧ W.frozen? ⟨g, 2, none⟩ = false ∧ W.frozen? ⟨g, 3, none⟩ = false ∧ W.frozen? ⟨g, 4, none⟩ = false ∧ W.frozen? ⟨g, 5, none⟩ = false :=
  ⟨(blk_cell h 0).trans rfl, (blk_cell h 1).trans rfl, (blk_cell h 2).trans rfl, (blk_cell h 3).trans rfl, (blk_cell h 4).trans rfl, (blk_cell h 5).trans rfl, blk_frozen h 0, blk_frozen h 1, blk_frozen h 2, blk_frozen h 3, blk_frozen h 4, blk_frozen h 5⟩

/-- The reader stands at p; the place of the result holds zeros. -/
structure spec_l20Entry.At (w0 w W : World) (g : Nat) (b : List Int) (p : Int) (gR : Nat) : Prop where
  rd : IsS77 w0 W g b p
  bel : Below w0.heap.size w0 W
  keep : KeepBut w W g none
  res : W.heap[gR]? = some (.cells (spec_l20Entry.row 0 0 0 ⟨#[]⟩ 0 0) 31 (0, 0))
  low : w.heap.size ≤ gR
  low0 : w0.heap.size ≤ gR
  ne : g ≠ gR
theorem spec_l20Entry.At.on {w0 w W W' : World} {g : Nat} {b : List Int} {p p' : Int} {gR : Nat} (h : spec_l20Entry.At w0 w W g b p gR) (rd : IsS77 w0 W' g b p') (bel : Below w0.heap.size w0 W') (k : KeepBut W W' g none) : spec_l20Entry.At w0 w W' g b p' gR :=
  ⟨rd, bel, h.keep.trans k (.inl rfl), k.blk h.res h.ne.symm (by simp), h.low, h.low0, h.ne⟩
theorem spec_l20Entry.At.out_ {w0 w W : World} {g : Nat} {b : List Int} {p : Int} {gR : Nat} (h : spec_l20Entry.At w0 w W g b p gR) (a c d e f v : Value) :
    IsS77 w0 ((((((W.setCell ⟨gR, 0, none⟩ a).setCell ⟨gR, 1, none⟩ c).setCell ⟨gR, 2, none⟩ d).setCell ⟨gR, 3, none⟩ e).setCell ⟨gR, 4, none⟩ f).setCell ⟨gR, 5, none⟩ v) g b p ∧
    Below w0.heap.size w0 ((((((W.setCell ⟨gR, 0, none⟩ a).setCell ⟨gR, 1, none⟩ c).setCell ⟨gR, 2, none⟩ d).setCell ⟨gR, 3, none⟩ e).setCell ⟨gR, 4, none⟩ f).setCell ⟨gR, 5, none⟩ v) ∧
    KeepBut w ((((((W.setCell ⟨gR, 0, none⟩ a).setCell ⟨gR, 1, none⟩ c).setCell ⟨gR, 2, none⟩ d).setCell ⟨gR, 3, none⟩ e).setCell ⟨gR, 4, none⟩ f).setCell ⟨gR, 5, none⟩ v) g none :=
  ⟨(((((h.rd.far (p := ⟨gR, 0, none⟩) h.ne _).far (p := ⟨gR, 1, none⟩) h.ne _).far (p := ⟨gR, 2, none⟩) h.ne _).far (p := ⟨gR, 3, none⟩) h.ne _).far (p := ⟨gR, 4, none⟩) h.ne _).far (p := ⟨gR, 5, none⟩) h.ne _,
   below_set (below_set (below_set (below_set (below_set (below_set h.bel h.low0) h.low0) h.low0) h.low0) h.low0) h.low0,
   keep_far (keep_far (keep_far (keep_far (keep_far (keep_far h.keep (p := ⟨gR, 0, none⟩) h.low _) (p := ⟨gR, 1, none⟩) h.low _) (p := ⟨gR, 2, none⟩) h.low _) (p := ⟨gR, 3, none⟩) h.low _) (p := ⟨gR, 4, none⟩) h.low _) (p := ⟨gR, 5, none⟩) h.low _⟩
/-- six stores over a block of zeros -/
theorem spec_l20Entry.filled {W : World} {gR : Nat} (h : W.heap[gR]? = some (.cells (spec_l20Entry.row 0 0 0 ⟨#[]⟩ 0 0) 31 (0, 0))) (c s kd : Int) (t : ByteArray) (v o : Int) :
    ((((((W.setCell ⟨gR, 0, none⟩ (.int .i64 c)).setCell ⟨gR, 1, none⟩ (.int .i64 s)).setCell ⟨gR, 2, none⟩ (.int .i64 kd)).setCell ⟨gR, 3, none⟩ (.string t)).setCell ⟨gR, 4, none⟩ (.int .i64 v)).setCell ⟨gR, 5, none⟩ (.int .i64 o)).heap[gR]? =
      some (.cells #[.int .i64 c, .int .i64 s, .int .i64 kd, .string t, .int .i64 v, .int .i64 o] 31 (0, 0)) :=
  blk_put (blk_put (blk_put (blk_put (blk_put (blk_put h 0 _ rfl) 1 _ rfl) 2 _ rfl) 3 _ rfl) 4 _ rfl) 5 _ rfl
/-- six stores elsewhere -/
theorem spec_l20Entry.far {W : World} {gE gR : Nat} {o : Array Value} (h : W.heap[gE]? = some (.cells o 31 (0, 0))) (hn : gE ≠ gR) (a c d e f v : Value) :
    ((((((W.setCell ⟨gR, 0, none⟩ a).setCell ⟨gR, 1, none⟩ c).setCell ⟨gR, 2, none⟩ d).setCell ⟨gR, 3, none⟩ e).setCell ⟨gR, 4, none⟩ f).setCell ⟨gR, 5, none⟩ v).heap[gE]? = some (.cells o 31 (0, 0)) :=
  blk_far (blk_far (blk_far (blk_far (blk_far (blk_far h (p := ⟨gR, 0, none⟩) hn _) (p := ⟨gR, 1, none⟩) hn _) (p := ⟨gR, 2, none⟩) hn _) (p := ⟨gR, 3, none⟩) hn _) (p := ⟨gR, 4, none⟩) hn _) (p := ⟨gR, 5, none⟩) hn _

/-- And the entry lies in a block of its own. -/
structure spec_l20Entry.Et (w0 w W : World) (g : Nat) (b : List Int) (p : Int) (gR gE : Nat) (c s kd : Int) (t : ByteArray) (v o : Int) : Prop where
  at_ : spec_l20Entry.At w0 w W g b p gR
  ent : W.heap[gE]? = some (.cells (spec_l20Entry.row c s kd t v o) 31 (0, 0))
  lowE : w.heap.size ≤ gE
  low0E : w0.heap.size ≤ gE
  neE : g ≠ gE
  neR : gR ≠ gE
section
variable {w0 w W W' : World} {g : Nat} {b : List Int} {p p' : Int} {gR gE : Nat} {c s kd : Int} {t : ByteArray} {v o : Int}
theorem spec_l20Entry.Et.on (h : spec_l20Entry.Et w0 w W g b p gR gE c s kd t v o) (rd : IsS77 w0 W' g b p') (bel : Below w0.heap.size w0 W') (k : KeepBut W W' g none) : spec_l20Entry.Et w0 w W' g b p' gR gE c s kd t v o :=
  ⟨h.at_.on rd bel k, k.blk h.ent h.neE.symm (by simp), h.lowE, h.low0E, h.neE, h.neR⟩
theorem spec_l20Entry.Et.grown (h : spec_l20Entry.Et w0 w W g b p gR gE c s kd t v o) (hb : Below W.heap.size W W') : spec_l20Entry.Et w0 w W' g b p gR gE c s kd t v o :=
  h.on (h.at_.rd.below hb) (below_step h.at_.bel hb) (KeepBut.of_below hb g none)
theorem spec_l20Entry.Et.drew (h : spec_l20Entry.Et w0 w W g b p gR gE c s kd t v o) : spec_l20Entry.Et w0 w W.drew g b p gR gE c s kd t v o :=
  h.on h.at_.rd.drew (below_drew h.at_.bel) (keep_drew (KeepBut.refl _ _ _))
theorem spec_l20Entry.Et.fill (h : spec_l20Entry.Et w0 w W g b p gR gE 0 0 0 ⟨#[]⟩ 0 0) (c s kd : Int) (t : ByteArray) (v o : Int) :
    spec_l20Entry.Et w0 w ((((((W.setCell ⟨gE, 0, none⟩ (.int .i64 c)).setCell ⟨gE, 1, none⟩ (.int .i64 s)).setCell ⟨gE, 2, none⟩ (.int .i64 kd)).setCell ⟨gE, 3, none⟩ (.string t)).setCell ⟨gE, 4, none⟩ (.int .i64 v)).setCell ⟨gE, 5, none⟩ (.int .i64 o)) g b p gR gE c s kd t v o := by
  have hd := h.at_
  have hb := h.low0E
  refine ⟨⟨(((((hd.rd.far (p := ⟨gE, 0, none⟩) h.neE _).far (p := ⟨gE, 1, none⟩) h.neE _).far (p := ⟨gE, 2, none⟩) h.neE _).far (p := ⟨gE, 3, none⟩) h.neE _).far (p := ⟨gE, 4, none⟩) h.neE _).far (p := ⟨gE, 5, none⟩) h.neE _,
    below_set (below_set (below_set (below_set (below_set (below_set hd.bel hb) hb) hb) hb) hb) hb,
    keep_far (keep_far (keep_far (keep_far (keep_far (keep_far hd.keep (p := ⟨gE, 0, none⟩) h.lowE _) (p := ⟨gE, 1, none⟩) h.lowE _) (p := ⟨gE, 2, none⟩) h.lowE _) (p := ⟨gE, 3, none⟩) h.lowE _) (p := ⟨gE, 4, none⟩) h.lowE _) (p := ⟨gE, 5, none⟩) h.lowE _,
    spec_l20Entry.far hd.res h.neR _ _ _ _ _ _, hd.low, hd.low0, hd.ne⟩, spec_l20Entry.filled h.ent _ _ _ _ _ _, h.lowE, h.low0E, h.neE, h.neR⟩
end

def spec_l20Entry.T3 : Bool × List (List Nat × List Nat) := (true, [([], []), ([], []), ([1], [1]), ([2], [2]), ([], []), ([4], [4]), ([5], [5]), ([], []), ([7], [7]), ([8], [8]), ([], []), ([10], [10]), ([11], [11]), ([], []), ([0, 3, 6, 9, 12, 13], [0, 3, 6, 9, 12, 13]), ([], []), ([15], [15]), ([14, 16], [14, 16]), ([17], [17]), ([18, 16, 0, 1, 2, 3, 4, 5, 6, 7, 8, 9, 10, 11, 12, 13, 14, 15, 16, 17, 18], [18])])
def spec_l20Entry.B3 : List Nat := [0, 0, 2, 6, 0, 16, 48, 0, 128, 384, 0, 1024, 3072, 0, 16383, 0, 32768, 131071, 262143, 524287]
theorem spec_l20Entry.tab3 : rtab .any (opsOf Try.f47 3) = spec_l20Entry.T3 := by kernel_rfl
theorem spec_l20Entry.bits3 : waitsOk spec_l20Entry.T3.2 spec_l20Entry.B3 = true := by kernel_rfl

set_option maxHeartbeats 4000000 in
set_option maxRecDepth 100000 in
theorem spec_l20Entry.calls (k : Nat) (g : Nat) (b : List Int) (p : Int) (n : Int) (r1 : Int) (r2 : Int) (r3 : Int) (r4 : ByteArray) (r5 : Int) (r6 : Int) (r7 : Int) (w0 w : World) (hI : IsS77 w0 w g b p) (hB : Below w0.heap.size w0 w) (h : spec_l20Entry.f k b p n = some (r1, r2, r3, r4, r5, r6, r7)) :
    Calls Try.prog 47 #[.pointer (some ⟨g, 0, none⟩), .int .i64 n] w fun e w' => e = .returned (.agg #[.int .i64 r1, .int .i64 r2, .int .i64 r3, .string r4, .int .i64 r5, .int .i64 r6]) ∧ IsS77 w0 w' g b r7 ∧ Below w0.heap.size w0 w' ∧ KeepBut w w' g none := by
  have hu := Try.underlying31
  have huc := Try.underlying29
  have HI := Aside0.mk hI
  have HB := Aside0.mk hB
  clear hI hB
  unfold spec_l20Entry.f at h
  obtain ⟨⟨t1, p1⟩, h1, h⟩ := Option.bind_eq_some_iff.mp h
  obtain ⟨⟨t2, p2⟩, h2, h⟩ := Option.bind_eq_some_iff.mp h
  obtain ⟨⟨k1, k2, k3, k4, p3⟩, h3, h⟩ := Option.bind_eq_some_iff.mp h
  obtain ⟨⟨od, p4⟩, h4, h⟩ := Option.bind_eq_some_iff.mp h
  dsimp only at h2 h3 h4 h
  have X1 := Aside0.mk h1
  have X2 := Aside0.mk h2
  have X3 := Aside0.mk h3
  have X4 := Aside0.mk h4
  clear h1 h2 h3 h4
  cases od with
  | false =>
    rw [if_neg (by simp)] at h
    obtain ⟨rfl, rfl, rfl, rfl, rfl, rfl, rfl⟩ : t1 = r1 ∧ wrap64 (1 + t2) = r2 ∧ k1 = r3 ∧ k2 = r4 ∧ k3 = r5 ∧ k4 = r6 ∧ p4 = r7 := by simpa using h
    clear h
    go_enter Try.func47, Try.ntmps47
    go_wp2_with (first
      | ((with_reducible refine gate_dst (N := 4) rfl ?_); refine box_event ?hg (N := 4) ?hd (cs := #[.int .i64 0, .int .i64 0, .int .i64 0, .string (⟨#[]⟩ : ByteArray), .int .i64 0, .int .i64 0]) (t := 31) ?hr ?_; (case hd => rfl); (case hg => rfl); (case hr => first | (go_simp; done) | (go_simp; rfl)); intro gR hgR w1 hc1 hb1; have S1 := Aside0.mk (show spec_l20Entry.At w0 w w1 g b p gR from ⟨HI.out.below hb1, below_step HB.out hb1, KeepBut.of_below hb1 g none, hc1, Nat.le_of_eq hgR.symm, hgR ▸ HB.out.size, Nat.ne_of_lt (hgR ▸ HI.out.lt)⟩); clear hc1 hb1 hgR)
      | (go_at_call 48; (with_reducible refine (spec_l20Rd_pick.calls k g b p 4 t1 p1 w0 _ ?side1 ?side2 X1.out).mono ?_); (case side1 => exact S1.out.rd); (case side2 => exact S1.out.bel); rintro e w2 ⟨rfl, hi, hb, hk⟩; have S2 := Aside0.mk (S1.out.on hi hb hk); clear hi hb hk)
      | (go_at_call 48; (with_reducible refine (spec_l20Rd_pick.calls k g b p1 6 t2 p2 w0 _ ?side1 ?side2 X2.out).mono ?_); (case side1 => exact S2.out.rd); (case side2 => exact S2.out.bel); rintro e w3 ⟨rfl, hi, hb, hk⟩; have S3 := Aside0.mk (S2.out.on hi hb hk); clear hi hb hk)
      | (go_at_call 59; (with_reducible refine (spec_l20Any.calls k g b p2 0 k1 k2 k3 k4 p3 w0 _ ?side1 ?side2 X3.out).mono ?_); (case side1 => exact S3.out.rd); (case side2 => exact S3.out.bel); rintro e w4 ⟨rfl, hi, hb, hk⟩; have S4 := Aside0.mk (S3.out.on hi hb hk); clear hi hb hk)
      | ((with_reducible refine gate_dst (N := 5) rfl ?_); refine box_event ?hg (N := 5) ?hd (cs := #[.int .i64 0, .int .i64 0, .int .i64 0, .string (⟨#[]⟩ : ByteArray), .int .i64 0, .int .i64 0]) (t := 31) ?hr ?_; (case hd => rfl); (case hg => rfl); (case hr => first | (go_simp; done) | (go_simp; rfl)); intro gE hgE w5 hc5 hb5; have S5 := Aside0.mk (show spec_l20Entry.Et w0 w w5 g b p3 gR gE 0 0 0 ⟨#[]⟩ 0 0 from ⟨S4.out.on (S4.out.rd.below hb5) (below_step S4.out.bel hb5) (KeepBut.of_below hb5 g none), hc5, hgE ▸ keep_size S4.out.keep, hgE ▸ S4.out.bel.size, Nat.ne_of_lt (hgE ▸ S4.out.rd.lt), Nat.ne_of_lt (hgE ▸ blk_lt S4.out.res)⟩); clear hc5 hb5 hgE; obtain ⟨cgEw50, cgEw51, cgEw52, cgEw53, cgEw54, cgEw55, fgEw50, fgEw51, fgEw52, fgEw53, fgEw54, fgEw55⟩ := spec_l20Entry.cells6 S5.out.ent)
      | (go_at_call 60; (with_reducible refine (spec_l20Rd_odd.calls k g b p3 n false p4 w0 _ ?side1 ?side2 X4.out).mono ?_); (case side1 => exact (S5.out.fill t1 (wrap64 (1 + t2)) k1 k2 k3 k4).at_.rd); (case side2 => exact (S5.out.fill t1 (wrap64 (1 + t2)) k1 k2 k3 k4).at_.bel); rintro e w6 ⟨rfl, hi, hb, hk⟩; have S6 := Aside0.mk ((S5.out.fill t1 (wrap64 (1 + t2)) k1 k2 k3 k4).on hi hb hk); clear hi hb hk; obtain ⟨cgEw60, cgEw61, cgEw62, cgEw63, cgEw64, cgEw65, fgEw60, fgEw61, fgEw62, fgEw63, fgEw64, fgEw65⟩ := spec_l20Entry.cells6 S6.out.ent; obtain ⟨cgRw60, cgRw61, cgRw62, cgRw63, cgRw64, cgRw65, fgRw60, fgRw61, fgRw62, fgRw63, fgRw64, fgRw65⟩ := spec_l20Entry.cells6 S6.out.at_.res; have nER := S6.out.neR; have nRE := S6.out.neR.symm))
    refine bodyPost_ret (results_cell_row rfl _ _ gR 31 _ (0, 0) _ rfl (spec_l20Entry.filled S6.out.at_.res t1 (wrap64 (1 + t2)) k1 k2 k3 k4) Try.underlying31 rfl (by kernel_rfl)) rfl ?_
    exact ⟨rfl, (S6.out.at_).out_ _ _ _ _ _ _⟩
  | true =>
    rw [if_pos rfl] at h
    obtain ⟨⟨i, p5⟩, h5, h⟩ := Option.bind_eq_some_iff.mp h
    dsimp only at h
    have X5 := Aside0.mk h5
    clear h5
    unfold spec_l20Entry.one at h
    by_cases hj : 0 ≤ i ∧ i < ((spec_l20Entry.odds ⟨k1, k2, k3, k4⟩).length : Int)
    · rw [if_pos hj] at h
      simp only [Option.some.injEq, Prod.mk.injEq] at h
      obtain ⟨rfl, rfl, rfl, rfl, rfl, rfl, rfl⟩ := h
      have J := Aside0.mk hj
      clear hj
      go_enter Try.func47, Try.ntmps47
      go_wp2_with (first
        | ((with_reducible refine gate_dst (N := 4) rfl ?_); refine box_event ?hg (N := 4) ?hd (cs := #[.int .i64 0, .int .i64 0, .int .i64 0, .string (⟨#[]⟩ : ByteArray), .int .i64 0, .int .i64 0]) (t := 31) ?hr ?_; (case hd => rfl); (case hg => rfl); (case hr => first | (go_simp; done) | (go_simp; rfl)); intro gR hgR w1 hc1 hb1; have S1 := Aside0.mk (show spec_l20Entry.At w0 w w1 g b p gR from ⟨HI.out.below hb1, below_step HB.out hb1, KeepBut.of_below hb1 g none, hc1, Nat.le_of_eq hgR.symm, hgR ▸ HB.out.size, Nat.ne_of_lt (hgR ▸ HI.out.lt)⟩); clear hc1 hb1 hgR)
        | (go_at_call 48; (with_reducible refine (spec_l20Rd_pick.calls k g b p 4 t1 p1 w0 _ ?side1 ?side2 X1.out).mono ?_); (case side1 => exact S1.out.rd); (case side2 => exact S1.out.bel); rintro e w2 ⟨rfl, hi, hb, hk⟩; have S2 := Aside0.mk (S1.out.on hi hb hk); clear hi hb hk)
        | (go_at_call 48; (with_reducible refine (spec_l20Rd_pick.calls k g b p1 6 t2 p2 w0 _ ?side1 ?side2 X2.out).mono ?_); (case side1 => exact S2.out.rd); (case side2 => exact S2.out.bel); rintro e w3 ⟨rfl, hi, hb, hk⟩; have S3 := Aside0.mk (S2.out.on hi hb hk); clear hi hb hk)
        | (go_at_call 59; (with_reducible refine (spec_l20Any.calls k g b p2 0 k1 k2 k3 k4 p3 w0 _ ?side1 ?side2 X3.out).mono ?_); (case side1 => exact S3.out.rd); (case side2 => exact S3.out.bel); rintro e w4 ⟨rfl, hi, hb, hk⟩; have S4 := Aside0.mk (S3.out.on hi hb hk); clear hi hb hk)
        | ((with_reducible refine gate_dst (N := 5) rfl ?_); refine box_event ?hg (N := 5) ?hd (cs := #[.int .i64 0, .int .i64 0, .int .i64 0, .string (⟨#[]⟩ : ByteArray), .int .i64 0, .int .i64 0]) (t := 31) ?hr ?_; (case hd => rfl); (case hg => rfl); (case hr => first | (go_simp; done) | (go_simp; rfl)); intro gE hgE w5 hc5 hb5; have S5 := Aside0.mk (show spec_l20Entry.Et w0 w w5 g b p3 gR gE 0 0 0 ⟨#[]⟩ 0 0 from ⟨S4.out.on (S4.out.rd.below hb5) (below_step S4.out.bel hb5) (KeepBut.of_below hb5 g none), hc5, hgE ▸ keep_size S4.out.keep, hgE ▸ S4.out.bel.size, Nat.ne_of_lt (hgE ▸ S4.out.rd.lt), Nat.ne_of_lt (hgE ▸ blk_lt S4.out.res)⟩); clear hc5 hb5 hgE; obtain ⟨cgEw50, cgEw51, cgEw52, cgEw53, cgEw54, cgEw55, fgEw50, fgEw51, fgEw52, fgEw53, fgEw54, fgEw55⟩ := spec_l20Entry.cells6 S5.out.ent)
        | (go_at_call 60; (with_reducible refine (spec_l20Rd_odd.calls k g b p3 n true p4 w0 _ ?side1 ?side2 X4.out).mono ?_); (case side1 => exact (S5.out.fill t1 (wrap64 (1 + t2)) k1 k2 k3 k4).at_.rd); (case side2 => exact (S5.out.fill t1 (wrap64 (1 + t2)) k1 k2 k3 k4).at_.bel); rintro e w6 ⟨rfl, hi, hb, hk⟩; have S6 := Aside0.mk ((S5.out.fill t1 (wrap64 (1 + t2)) k1 k2 k3 k4).on hi hb hk); clear hi hb hk))
      refine start_ (n := 20) (S := fun W => W.heap[gE]? = some (.cells (spec_l20Entry.row t1 (wrap64 (1 + t2)) k1 k2 k3 k4) 31 (0, 0))) (ds := []) #[false, false, false, false, false, false, false, false, false, false, false, false, false, false, false, false, false, false, false, false] (by kernel_rfl) rfl rfl (blk_drew S6.out.ent) (fun hHeld => ?_); refine with_tabW spec_l20Entry.tab3 spec_l20Entry.bits3 (fun HT_ HW_ => ?_)
      have S7 := Aside0.mk S6.out.drew
      clear S6
      generalize w6.drew = w7 at S7 hHeld ⊢
      refine pure_ (i := 0) (N := some 17) (v := ?_) (a' := ?_) (bits 20 1) rfl rfl (any_of HT_.out (by kernel_rfl)) (fun _ _ _ h => h) (Or.inl ⟨by rfl, ?_⟩) ?_ ?_
      rotate_left
      · intro w'
        go_simp
        with_reducible rfl
      rotate_left
      · simp only [Act.put, List.setIfInBounds_toArray, List.set_cons_zero, List.set_cons_succ, i64_w, i32_w]
        rfl
      refine pure_ (i := 1) (N := some 18) (v := ?_) (a' := ?_) (bits 20 3) rfl rfl (any_of HT_.out (by kernel_rfl)) (fun _ _ _ h => h) (Or.inl ⟨by rfl, ?_⟩) ?_ ?_
      rotate_left
      · intro w'
        go_simp
        with_reducible rfl
      rotate_left
      · simp only [Act.put, List.setIfInBounds_toArray, List.set_cons_zero, List.set_cons_succ, i64_w, i32_w]
        rfl
      refine pure_ (i := 4) (N := some 21) (v := ?_) (a' := ?_) (bits 20 19) rfl rfl (any_of HT_.out (by kernel_rfl)) (fun _ _ _ h => h) (Or.inl ⟨by rfl, ?_⟩) ?_ ?_
      rotate_left
      · intro w'
        go_simp
        with_reducible rfl
      rotate_left
      · simp only [Act.put, List.setIfInBounds_toArray, List.set_cons_zero, List.set_cons_succ, i64_w, i32_w]
        rfl
      refine pure_ (i := 7) (N := some 24) (v := ?_) (a' := ?_) (bits 20 147) rfl rfl (any_of HT_.out (by kernel_rfl)) (fun _ _ _ h => h) (Or.inl ⟨by rfl, ?_⟩) ?_ ?_
      rotate_left
      · intro w'
        go_simp
        with_reducible rfl
      rotate_left
      · simp only [Act.put, List.setIfInBounds_toArray, List.set_cons_zero, List.set_cons_succ, i64_w, i32_w]
        rfl
      refine pure_ (i := 10) (N := some 27) (v := ?_) (a' := ?_) (bits 20 1171) rfl rfl (any_of HT_.out (by kernel_rfl)) (fun _ _ _ h => h) (Or.inl ⟨by rfl, ?_⟩) ?_ ?_
      rotate_left
      · intro w'
        go_simp
        with_reducible rfl
      rotate_left
      · simp only [Act.put, List.setIfInBounds_toArray, List.set_cons_zero, List.set_cons_succ, i64_w, i32_w]
        rfl
      refine take_ (i := 2) (N := some 19) (v := ?_) (a' := ?_) (bits 20 1175) rfl rfl (take_ofW HT_.out HW_.out (by kernel_rfl)) (fun _ _ _ h => h) (Or.inl ⟨by rfl, ?_⟩) hHeld ?_ ?_
      rotate_left
      · intro w' hS
        have h2 : w'.cell? ⟨gE, 2, none⟩ = some (.int .i64 k1) := (blk_cell hS 2).trans rfl
        have h3 : w'.cell? ⟨gE, 3, none⟩ = some (.string k2) := (blk_cell hS 3).trans rfl
        have h4 : w'.cell? ⟨gE, 4, none⟩ = some (.int .i64 k3) := (blk_cell hS 4).trans rfl
        have h5 : w'.cell? ⟨gE, 5, none⟩ = some (.int .i64 k4) := (blk_cell hS 5).trans rfl
        go_simp
        with_reducible rfl
      rotate_left
      · simp only [Act.put, List.setIfInBounds_toArray, List.set_cons_zero, List.set_cons_succ, i64_w, i32_w]
        rfl
      refine take_ (i := 5) (N := some 22) (v := ?_) (a' := ?_) (bits 20 1207) rfl rfl (take_ofW HT_.out HW_.out (by kernel_rfl)) (fun _ _ _ h => h) (Or.inl ⟨by rfl, ?_⟩) hHeld ?_ ?_
      rotate_left
      · intro w' hS
        have h2 : w'.cell? ⟨gE, 2, none⟩ = some (.int .i64 k1) := (blk_cell hS 2).trans rfl
        have h3 : w'.cell? ⟨gE, 3, none⟩ = some (.string k2) := (blk_cell hS 3).trans rfl
        have h4 : w'.cell? ⟨gE, 4, none⟩ = some (.int .i64 k3) := (blk_cell hS 4).trans rfl
        have h5 : w'.cell? ⟨gE, 5, none⟩ = some (.int .i64 k4) := (blk_cell hS 5).trans rfl
        go_simp
        with_reducible rfl
      rotate_left
      · simp only [Act.put, List.setIfInBounds_toArray, List.set_cons_zero, List.set_cons_succ, i64_w, i32_w]
        rfl
      refine take_ (i := 8) (N := some 25) (v := ?_) (a' := ?_) (bits 20 1463) rfl rfl (take_ofW HT_.out HW_.out (by kernel_rfl)) (fun _ _ _ h => h) (Or.inl ⟨by rfl, ?_⟩) hHeld ?_ ?_
      rotate_left
      · intro w' hS
        have h2 : w'.cell? ⟨gE, 2, none⟩ = some (.int .i64 k1) := (blk_cell hS 2).trans rfl
        have h3 : w'.cell? ⟨gE, 3, none⟩ = some (.string k2) := (blk_cell hS 3).trans rfl
        have h4 : w'.cell? ⟨gE, 4, none⟩ = some (.int .i64 k3) := (blk_cell hS 4).trans rfl
        have h5 : w'.cell? ⟨gE, 5, none⟩ = some (.int .i64 k4) := (blk_cell hS 5).trans rfl
        go_simp
        with_reducible rfl
      rotate_left
      · simp only [Act.put, List.setIfInBounds_toArray, List.set_cons_zero, List.set_cons_succ, i64_w, i32_w]
        rfl
      refine take_ (i := 11) (N := some 28) (v := ?_) (a' := ?_) (bits 20 3511) rfl rfl (take_ofW HT_.out HW_.out (by kernel_rfl)) (fun _ _ _ h => h) (Or.inl ⟨by rfl, ?_⟩) hHeld ?_ ?_
      rotate_left
      · intro w' hS
        have h2 : w'.cell? ⟨gE, 2, none⟩ = some (.int .i64 k1) := (blk_cell hS 2).trans rfl
        have h3 : w'.cell? ⟨gE, 3, none⟩ = some (.string k2) := (blk_cell hS 3).trans rfl
        have h4 : w'.cell? ⟨gE, 4, none⟩ = some (.int .i64 k3) := (blk_cell hS 4).trans rfl
        have h5 : w'.cell? ⟨gE, 5, none⟩ = some (.int .i64 k4) := (blk_cell hS 5).trans rfl
        go_simp
        with_reducible rfl
      rotate_left
      · simp only [Act.put, List.setIfInBounds_toArray, List.set_cons_zero, List.set_cons_succ, i64_w, i32_w]
        rfl
      refine pure_ (i := 3) (N := some 20) (v := ?_) (a' := ?_) (bits 20 3519) rfl rfl (any_of HT_.out (by kernel_rfl)) (fun _ _ _ h => h) (Or.inl ⟨by rfl, ?_⟩) ?_ ?_
      rotate_left
      · intro w'
        go_simp
        with_reducible rfl
      rotate_left
      · simp only [Act.put, List.setIfInBounds_toArray, List.set_cons_zero, List.set_cons_succ, i64_w, i32_w]
        rfl
      refine pure_ (i := 6) (N := some 23) (v := ?_) (a' := ?_) (bits 20 3583) rfl rfl (any_of HT_.out (by kernel_rfl)) (fun _ _ _ h => h) (Or.inl ⟨by rfl, ?_⟩) ?_ ?_
      rotate_left
      · intro w'
        go_simp
        with_reducible rfl
      rotate_left
      · simp only [Act.put, List.setIfInBounds_toArray, List.set_cons_zero, List.set_cons_succ, i64_w, i32_w]
        rfl
      refine pure_ (i := 9) (N := some 26) (v := ?_) (a' := ?_) (bits 20 4095) rfl rfl (any_of HT_.out (by kernel_rfl)) (fun _ _ _ h => h) (Or.inl ⟨by rfl, ?_⟩) ?_ ?_
      rotate_left
      · intro w'
        go_simp
        with_reducible rfl
      rotate_left
      · simp only [Act.put, List.setIfInBounds_toArray, List.set_cons_zero, List.set_cons_succ, i64_w, i32_w]
        rfl
      refine pure_ (i := 12) (N := some 29) (v := ?_) (a' := ?_) (bits 20 8191) rfl rfl (any_of HT_.out (by kernel_rfl)) (fun _ _ _ h => h) (Or.inl ⟨by rfl, ?_⟩) ?_ ?_
      rotate_left
      · intro w'
        go_simp
        with_reducible rfl
      rotate_left
      · simp only [Act.put, List.setIfInBounds_toArray, List.set_cons_zero, List.set_cons_succ, i64_w, i32_w]
        rfl
      refine pure_ (i := 13) (N := some 30) (v := ?_) (a' := ?_) (bits 20 16383) rfl rfl (any_of HT_.out (by kernel_rfl)) (fun _ _ _ h => h) (Or.inl ⟨by rfl, ?_⟩) ?_ ?_
      rotate_left
      · intro w'
        go_simp
        with_reducible rfl
      rotate_left
      · simp only [Act.put, List.setIfInBounds_toArray, List.set_cons_zero, List.set_cons_succ, i64_w, i32_w]
        rfl
      refine pure_ (i := 15) (N := some 32) (v := ?_) (a' := ?_) (bits 20 49151) rfl rfl (any_of HT_.out (by kernel_rfl)) (fun _ _ _ h => h) (Or.inl ⟨by rfl, ?_⟩) ?_ ?_
      rotate_left
      · intro w'
        go_simp
        with_reducible rfl
      rotate_left
      · simp only [Act.put, List.setIfInBounds_toArray, List.set_cons_zero, List.set_cons_succ, i64_w, i32_w]
        rfl
      refine join_ (σ := Value) 3 (bits 20 131071) (fun v => [(31, v), (33, .int .i64 i)]) (fun v W => spec_l20Entry.Et w0 w W g b p5 gR gE t1 (wrap64 (1 + t2)) k1 k2 k3 k4 ∧ Kd.R k31 31 W w.heap.size (fun k => True ∧ k ≠ g) v (spec_l20Entry.odds ⟨k1, k2, k3, k4⟩)) ?cont ?both
      case cont =>
        intro v W ⟨S8, HO⟩
        have hHeld := S8.ent
        refine norm_ (a' := ?_) ?_ ?_
        rotate_left
        · simp only [putAll]
          simp only [Act.put, List.setIfInBounds_toArray, List.set_cons_zero, List.set_cons_succ, i64_w, i32_w]
          rfl
        obtain ⟨Ao, co, rfl⟩ := Kd.R_slice HO
        obtain ⟨ad, hA, x0, x1, x2, x3, x4, x5⟩ := at_T31 (Kd.R_reads' HO).2.2 i J.out.1 J.out.2
        subst hA
        have q0 : (0 ≤ i) = True := eq_true J.out.1
        have q1 : (i < ((spec_l20Entry.odds ⟨k1, k2, k3, k4⟩).length : Int)) = True := eq_true J.out.2
        refine pure_ (i := 17) (N := some 34) (v := ?_) (a' := ?_) (bits 20 262143) rfl rfl (any_of HT_.out (by kernel_rfl)) (fun _ _ _ h => h) (Or.inl ⟨by rfl, ?_⟩) ?_ ?_
        rotate_left
        · intro w'
          go_simp
          with_reducible rfl
        rotate_left
        · simp only [Act.put, List.setIfInBounds_toArray, List.set_cons_zero, List.set_cons_succ, i64_w, i32_w]
          rfl
        refine one_ (i := 18) (N := some 35) (bits 20 524287) rfl rfl (one_of HT_.out (by kernel_rfl)) (by decide) (fun K hK => ?_)
        refine value_ (v := .agg #[.int .i64 (rd_T31 (spec_l20Entry.odds ⟨k1, k2, k3, k4⟩) i).f0, .int .i64 (rd_T31 (spec_l20Entry.odds ⟨k1, k2, k3, k4⟩) i).f1, .int .i64 (rd_T31 (spec_l20Entry.odds ⟨k1, k2, k3, k4⟩) i).f2.f0, .string (rd_T31 (spec_l20Entry.odds ⟨k1, k2, k3, k4⟩) i).f2.f1, .int .i64 (rd_T31 (spec_l20Entry.odds ⟨k1, k2, k3, k4⟩) i).f2.f2, .int .i64 (rd_T31 (spec_l20Entry.odds ⟨k1, k2, k3, k4⟩) i).f2.f3]) (w1 := W) rfl rfl ?hr ?_
        (case hr => first | (go_simp; done) | (go_simp; rfl))
        refine hK.out _ _ hHeld (fun hHeld => ?_)
        clear hK K
        refine norm_ (a' := ?_) ?_ ?_
        rotate_left
        · show Act.put _ (some 35) _ = _
          simp only [Act.put, List.setIfInBounds_toArray, List.set_cons_zero, List.set_cons_succ, i64_w, i32_w]
          rfl
        have nER := S8.neR
        have nRE := S8.neR.symm
        have cR0 : W.cell? ⟨gR, 0, none⟩ = some (.int .i64 0) := (blk_cell S8.at_.res 0).trans rfl
        have cR1 : W.cell? ⟨gR, 1, none⟩ = some (.int .i64 0) := (blk_cell S8.at_.res 1).trans rfl
        have cR2 : W.cell? ⟨gR, 2, none⟩ = some (.int .i64 0) := (blk_cell S8.at_.res 2).trans rfl
        have cR3 : W.cell? ⟨gR, 3, none⟩ = some (.string (⟨#[]⟩ : ByteArray)) := (blk_cell S8.at_.res 3).trans rfl
        have cR4 : W.cell? ⟨gR, 4, none⟩ = some (.int .i64 0) := (blk_cell S8.at_.res 4).trans rfl
        have cR5 : W.cell? ⟨gR, 5, none⟩ = some (.int .i64 0) := (blk_cell S8.at_.res 5).trans rfl
        have fR0 := blk_frozen S8.at_.res 0
        have fR1 := blk_frozen S8.at_.res 1
        have fR2 := blk_frozen S8.at_.res 2
        have fR3 := blk_frozen S8.at_.res 3
        have fR4 := blk_frozen S8.at_.res 4
        have fR5 := blk_frozen S8.at_.res 5
        refine one_ (i := 19) (N := none) (bits 20 1048575) rfl rfl (one_of HT_.out (by kernel_rfl)) (by decide) (fun K hK => ?_)
        refine skip_ (w1 := ((((((W.setCell ⟨gR, 0, none⟩ (.int .i64 (rd_T31 (spec_l20Entry.odds ⟨k1, k2, k3, k4⟩) i).f0)).setCell ⟨gR, 1, none⟩ (.int .i64 (rd_T31 (spec_l20Entry.odds ⟨k1, k2, k3, k4⟩) i).f1)).setCell ⟨gR, 2, none⟩ (.int .i64 (rd_T31 (spec_l20Entry.odds ⟨k1, k2, k3, k4⟩) i).f2.f0)).setCell ⟨gR, 3, none⟩ (.string (rd_T31 (spec_l20Entry.odds ⟨k1, k2, k3, k4⟩) i).f2.f1)).setCell ⟨gR, 4, none⟩ (.int .i64 (rd_T31 (spec_l20Entry.odds ⟨k1, k2, k3, k4⟩) i).f2.f2)).setCell ⟨gR, 5, none⟩ (.int .i64 (rd_T31 (spec_l20Entry.odds ⟨k1, k2, k3, k4⟩) i).f2.f3))) rfl rfl ?hr ?_
        (case hr => first | (go_simp; done) | (go_simp; rfl))
        refine hK.out _ _ (spec_l20Entry.far S8.ent nRE _ _ _ _ _ _) (fun hHeld => ?_)
        clear hK K
        refine done_ (done_of HT_.out (by kernel_rfl)) ?_
        try go_wp2
        refine bodyPost_ret (results_cell_row rfl _ _ gR 31 _ (0, 0) _ rfl (spec_l20Entry.filled S8.at_.res (rd_T31 (spec_l20Entry.odds ⟨k1, k2, k3, k4⟩) i).f0 (rd_T31 (spec_l20Entry.odds ⟨k1, k2, k3, k4⟩) i).f1 (rd_T31 (spec_l20Entry.odds ⟨k1, k2, k3, k4⟩) i).f2.f0 (rd_T31 (spec_l20Entry.odds ⟨k1, k2, k3, k4⟩) i).f2.f1 (rd_T31 (spec_l20Entry.odds ⟨k1, k2, k3, k4⟩) i).f2.f2 (rd_T31 (spec_l20Entry.odds ⟨k1, k2, k3, k4⟩) i).f2.f3) Try.underlying31 rfl (by kernel_rfl)) rfl ?_
        exact ⟨rfl, (S8.at_).out_ _ _ _ _ _ _⟩
      case both =>
        intro hjoin
        refine two_ (i := 14) (j := 16) (Ni := some 31) (Nj := some 33) (bits 20 65535) (bits 20 114687) rfl rfl rfl rfl (two_of HT_.out (by kernel_rfl)) (by decide) (by decide) (fun K hK => ?_) (fun K hK => ?_)
        · refine Kd.R_lit_step k31 _ 31 rfl (N := 31) rfl (xs := spec_l20Entry.odds ⟨k1, k2, k3, k4⟩) (inner := spec_l20Entry.cells ⟨k1, k2, k3, k4⟩) (ok := fun _ => True) (okp := fun _ => True) ?hr (spec_l20Entry.reps _ _ _ _) (fun _ hk => hk) trivial (Below.refl _ _) (Nat.le_refl _) (by unfold spec_l20Entry.odds; simp) ?_
          (case hr => unfold spec_l20Entry.cells spec_l20Entry.odds; first | (go_simp; done) | (go_simp; rfl))
          intro v W ho hbel hg _
          have S9 := Aside0.mk (S7.out.grown hbel)
          have HO := Aside0.mk (S9.out.at_.rd.apart (Kd.R_lower ho (keep_size S7.out.at_.keep)) (by decide))
          clear ho hg hbel
          refine hK.out _ _ S9.out.ent (fun hHeld => ?_)
          clear hK K
          refine norm_ (a' := ?_) ?_ ?_
          rotate_left
          · show Act.put _ (some 31) _ = _
            simp only [Act.put, List.setIfInBounds_toArray, List.set_cons_zero, List.set_cons_succ, i64_w, i32_w]
            rfl
          refine one_ (i := 16) (N := some 33) (bits 20 131071) rfl rfl (one_of HT_.out (by kernel_rfl)) (by decide) (fun K hK => ?_)
          refine goes_ Try.func48 (by kernel_rfl) rfl #[.pointer (some ⟨g, 0, none⟩), .int .i64 6] (by rfl) rfl rfl (by (try simp only [List.map_toArray, List.map_cons, List.map_nil]); rfl) ?_
          with_reducible refine (spec_l20Rd_pick.calls k g b p4 6 i p5 w0 _ S9.out.at_.rd S9.out.at_.bel X5.out).mono ?_
          rintro e W2 ⟨rfl, hi, hb, hk⟩
          refine ⟨_, rfl, ?_⟩
          have S10 := Aside0.mk (S9.out.on hi hb hk)
          refine hK.out _ _ S10.out.ent (fun _ => ?_)
          exact hjoin v W2 ⟨S10.out, Kd.R_keep HO.out hk (fun _ h => h.2)⟩
        · refine goes_ Try.func48 (by kernel_rfl) rfl #[.pointer (some ⟨g, 0, none⟩), .int .i64 6] (by rfl) rfl rfl (by (try simp only [List.map_toArray, List.map_cons, List.map_nil]); rfl) ?_
          with_reducible refine (spec_l20Rd_pick.calls k g b p4 6 i p5 w0 _ S7.out.at_.rd S7.out.at_.bel X5.out).mono ?_
          rintro e W2 ⟨rfl, hi, hb, hk⟩
          refine ⟨_, rfl, ?_⟩
          have S10 := Aside0.mk (S7.out.on hi hb hk)
          clear hi hb hk
          refine hK.out _ _ S10.out.ent (fun hHeld => ?_)
          clear hK K
          refine norm_ (a' := ?_) ?_ ?_
          rotate_left
          · show Act.put _ (some 33) _ = _
            simp only [Act.put, List.setIfInBounds_toArray, List.set_cons_zero, List.set_cons_succ, i64_w, i32_w]
            rfl
          refine one_ (i := 14) (N := some 31) (bits 20 131071) rfl rfl (one_of HT_.out (by kernel_rfl)) (by decide) (fun K hK => ?_)
          refine Kd.R_lit_step k31 _ 31 rfl (N := 31) rfl (xs := spec_l20Entry.odds ⟨k1, k2, k3, k4⟩) (inner := spec_l20Entry.cells ⟨k1, k2, k3, k4⟩) (ok := fun _ => True) (okp := fun _ => True) ?hr (spec_l20Entry.reps _ _ _ _) (fun _ hk => hk) trivial (Below.refl _ _) (Nat.le_refl _) (by unfold spec_l20Entry.odds; simp) ?_
          (case hr => unfold spec_l20Entry.cells spec_l20Entry.odds; first | (go_simp; done) | (go_simp; rfl))
          intro v W ho hbel hg _
          have S9 := Aside0.mk (S10.out.grown hbel)
          have HO := Aside0.mk (S9.out.at_.rd.apart (Kd.R_lower ho (keep_size S10.out.at_.keep)) (by decide))
          clear ho hg hbel
          refine hK.out _ _ S9.out.ent (fun _ => ?_)
          exact hjoin v W ⟨S9.out, HO.out⟩
    · rw [if_neg hj] at h
      cases h



def spec_EncodeEntry.f (k : Nat) (c s kd : Int) (t : ByteArray) (v o : Int) : Option (List Int) :=
  (spec_EntryValid.f k c s kd t v o).bind fun q => if q = true then (spec_EncodeNumber.f k c).bind fun x1 => (spec_EncodeNumber.f k s).bind fun x2 => if (x1).length + x2.length < 17592186044416 then (spec_EncodeNumber.f k kd).bind fun x3 => if (x1 ++ x2).length + x3.length < 17592186044416 then (spec_EncodeText.f k t).bind fun x4 => if ((x1 ++ x2) ++ x3).length + x4.length < 17592186044416 then (spec_EncodeNumber.f k v).bind fun x5 => if (((x1 ++ x2) ++ x3) ++ x4).length + x5.length < 17592186044416 then (spec_EncodeNumber.f k (wrap64 (o + 1))).bind fun x6 => if ((((x1 ++ x2) ++ x3) ++ x4) ++ x5).length + x6.length < 17592186044416 then some (((((x1 ++ x2) ++ x3) ++ x4) ++ x5) ++ x6) else none else none else none else none else none else some []

set_option maxHeartbeats 2000000 in
set_option maxRecDepth 100000 in
theorem spec_EncodeEntry.calls (k : Nat) (c s kd : Int) (t : ByteArray) (v o : Int) (r : List Int) (w : World) (h : spec_EncodeEntry.f k c s kd t v o = some r) :
    Calls Try.prog 12 #[.agg #[.int .i64 c, .int .i64 s, .int .i64 kd, .string t, .int .i64 v, .int .i64 o]] w fun e w' => ∃ v0_ : Value, e = .returned (v0_) ∧ Kd.R (Kd.int .i64) 3 w' w.heap.size (fun _ => True) v0_ r ∧ Below w.heap.size w w' := by
  have hu := Try.underlying31
  have huc := Try.underlying29
  unfold spec_EncodeEntry.f at h
  replace h := Option.bind_eq_some_iff.mp h
  obtain ⟨q, h0, h⟩ := h
  have H0 := Aside0.mk h0
  clear h0
  cases q with
  | false =>
    rw [if_neg (by simp)] at h
    obtain rfl := Option.some.inj h
    clear h
    go_enter Try.func12, Try.ntmps12
    go_wp2_with (first
      | ((with_reducible refine gate_dst (N := 1) rfl ?_); refine box_event ?hg (N := 1) ?hd (cs := #[.int .i64 c, .int .i64 s, .int .i64 kd, .string t, .int .i64 v, .int .i64 o]) (t := 31) ?hr ?_; (case hd => rfl); (case hg => rfl); (case hr => first | (go_simp; done) | (go_simp; rfl)); intro gB hgB w1 hc hb; have F1 := Aside0.mk hc; have B1 := Aside0.mk hb; clear hc hb hgB; obtain ⟨cgBw10, cgBw11, cgBw12, cgBw13, cgBw14, cgBw15, fgBw10, fgBw11, fgBw12, fgBw13, fgBw14, fgBw15⟩ := spec_l20Entry.cells6 F1.out)
      | (go_at_call 34; (with_reducible refine (spec_EntryValid.calls k c s kd t v o false w1 H0.out).mono ?_); rintro e w2 ⟨rfl, hb⟩; have F2 := Aside0.mk (blk_below F1.out hb); have B2 := Aside0.mk (below_step B1.out hb); clear hb; obtain ⟨cgBw20, cgBw21, cgBw22, cgBw23, cgBw24, cgBw25, fgBw20, fgBw21, fgBw22, fgBw23, fgBw24, fgBw25⟩ := spec_l20Entry.cells6 F2.out)
      | ((with_reducible refine gate_dst (N := 7) rfl ?_); refine Kd.R_lit (Kd.int .i64) _ 3 ?hg (N := 7) ?hd (xs := ([] : List Int)) (inner := []) (ok := fun _ => True) (okp := fun _ => True) ?hr ?hp (fun _ hk => hk) trivial (Below.refl _ _) (Nat.le_refl _) (by simp) ?_; (case hd => rfl); (case hg => rfl); (case hr => first | (go_simp; done) | (go_simp; rfl)); (case hp => exact (Reps.none _ _)); intro v3 w3 ho hb _ _; have A3 := Aside0.mk (Kd.R_lower ho (below_size B2.out)); have B3 := Aside0.mk (below_step B2.out hb); clear ho hb))
    go_ret
    exact ⟨_, rfl, A3.out, B3.out⟩
  | true =>
    rw [if_pos rfl] at h
    replace h := Option.bind_eq_some_iff.mp h
    obtain ⟨x1, h1, h⟩ := h
    have H1 := Aside0.mk h1
    clear h1
    replace h := Option.bind_eq_some_iff.mp h
    obtain ⟨x2, h2, h⟩ := h
    by_cases l2 : (x1).length + x2.length < 17592186044416
    · rw [if_pos l2] at h
      have H2 := Aside0.mk h2
      have L2 := Aside0.mk l2
      clear h2 l2
      replace h := Option.bind_eq_some_iff.mp h
      obtain ⟨x3, h3, h⟩ := h
      by_cases l3 : (x1 ++ x2).length + x3.length < 17592186044416
      · rw [if_pos l3] at h
        have H3 := Aside0.mk h3
        have L3 := Aside0.mk l3
        clear h3 l3
        replace h := Option.bind_eq_some_iff.mp h
        obtain ⟨x4, h4, h⟩ := h
        by_cases l4 : ((x1 ++ x2) ++ x3).length + x4.length < 17592186044416
        · rw [if_pos l4] at h
          have H4 := Aside0.mk h4
          have L4 := Aside0.mk l4
          clear h4 l4
          replace h := Option.bind_eq_some_iff.mp h
          obtain ⟨x5, h5, h⟩ := h
          by_cases l5 : (((x1 ++ x2) ++ x3) ++ x4).length + x5.length < 17592186044416
          · rw [if_pos l5] at h
            have H5 := Aside0.mk h5
            have L5 := Aside0.mk l5
            clear h5 l5
            replace h := Option.bind_eq_some_iff.mp h
            obtain ⟨x6, h6, h⟩ := h
            by_cases l6 : ((((x1 ++ x2) ++ x3) ++ x4) ++ x5).length + x6.length < 17592186044416
            · rw [if_pos l6] at h
              have H6 := Aside0.mk h6
              have L6 := Aside0.mk l6
              clear h6 l6
              obtain rfl := Option.some.inj h
              clear h
              go_enter Try.func12, Try.ntmps12
              go_wp2_with (first
                | ((with_reducible refine gate_dst (N := 1) rfl ?_); refine box_event ?hg (N := 1) ?hd (cs := #[.int .i64 c, .int .i64 s, .int .i64 kd, .string t, .int .i64 v, .int .i64 o]) (t := 31) ?hr ?_; (case hd => rfl); (case hg => rfl); (case hr => first | (go_simp; done) | (go_simp; rfl)); intro gB hgB w1 hc hb; have F1 := Aside0.mk hc; have B1 := Aside0.mk hb; clear hc hb hgB; obtain ⟨cgBw10, cgBw11, cgBw12, cgBw13, cgBw14, cgBw15, fgBw10, fgBw11, fgBw12, fgBw13, fgBw14, fgBw15⟩ := spec_l20Entry.cells6 F1.out)
                | (go_at_call 34; (with_reducible refine (spec_EntryValid.calls k c s kd t v o true w1 H0.out).mono ?_); rintro e w2 ⟨rfl, hb⟩; have F2 := Aside0.mk (blk_below F1.out hb); have B2 := Aside0.mk (below_step B1.out hb); clear hb; obtain ⟨cgBw20, cgBw21, cgBw22, cgBw23, cgBw24, cgBw25, fgBw20, fgBw21, fgBw22, fgBw23, fgBw24, fgBw25⟩ := spec_l20Entry.cells6 F2.out)
                | (go_at_call 35; (with_reducible refine (spec_EncodeNumber.calls k c x1 w2 H1.out).mono ?_); rintro e w3 ⟨u3, rfl, ho, hb⟩; have A3 := Aside0.mk (Kd.R_lower ho (below_size B2.out)); have F3 := Aside0.mk (blk_below F2.out hb); have B3 := Aside0.mk (below_step B2.out hb); clear ho hb; obtain ⟨cgBw30, cgBw31, cgBw32, cgBw33, cgBw34, cgBw35, fgBw30, fgBw31, fgBw32, fgBw33, fgBw34, fgBw35⟩ := spec_l20Entry.cells6 F3.out)
                | (go_at_call 35; (with_reducible refine (spec_EncodeNumber.calls k s x2 w3 H2.out).mono ?_); rintro e w4 ⟨u4, rfl, ho, hb⟩; obtain ⟨Q4, q4, ee⟩ := Kd.R_slice ho; subst ee; have N4 := Aside0.mk (Kd.R_lower ho (below_size B3.out)); have A4 := Aside0.mk (Kd.R_elder' A3.out (Kd.R_base ho) hb); have F4 := Aside0.mk (blk_below F3.out hb); have B4 := Aside0.mk (below_step B3.out hb); clear ho hb; obtain ⟨cgBw40, cgBw41, cgBw42, cgBw43, cgBw44, cgBw45, fgBw40, fgBw41, fgBw42, fgBw43, fgBw44, fgBw45⟩ := spec_l20Entry.cells6 F4.out)
                | ((with_reducible refine gate_builtin (b := .append) (xs := #[.tmp 11, .tmp 14]) rfl ?_); at_builtin; refine Kd.R_append_rows (Kd.int .i64) (w0 := w) w.heap.size rfl (.tmp 11) (.tmp 14) 27 3 (.int .i64 0) 8 rfl Try.underlying27 info3 rfl (by decide) (by omega) _ (x1) x2 _ _ _ (fun k_ => some k_ ≠ (.slice Q4 x2.length q4 : Value).ownBlock) (fun _ => False) rfl rfl ?aO ?aR (fun _ _ h => h) (fun _ h => h.elim) ?aF ?aB ?aS ?aL ?_; (case aO => exact Kd.R_mono A4.out (fun _ hk => hk.2)); (case aR => exact (Kd.R_reads' N4.out).2.2); (case aF => exact Kd.fresh' (Kd.R_lt N4.out)); (case aB => exact B4.out); (case aS => exact below_size B4.out); (case aL => have := L2.out; omega); intro v5 w5 ho hb hg _; have A5 := Aside0.mk (Kd.R_mono (ok' := fun _ => True) ho (fun _ _ => trivial)); have B5 := Aside0.mk hb; have F5 := Aside0.mk (blk_grown F4.out hg (Kd.R_ne A4.out F4.out (by decide))); clear ho hb hg; obtain ⟨cgBw50, cgBw51, cgBw52, cgBw53, cgBw54, cgBw55, fgBw50, fgBw51, fgBw52, fgBw53, fgBw54, fgBw55⟩ := spec_l20Entry.cells6 F5.out)
                | (go_at_call 35; (with_reducible refine (spec_EncodeNumber.calls k kd x3 w5 H3.out).mono ?_); rintro e w6 ⟨u6, rfl, ho, hb⟩; obtain ⟨Q6, q6, ee⟩ := Kd.R_slice ho; subst ee; have N6 := Aside0.mk (Kd.R_lower ho (below_size B5.out)); have A6 := Aside0.mk (Kd.R_elder' A5.out (Kd.R_base ho) hb); have F6 := Aside0.mk (blk_below F5.out hb); have B6 := Aside0.mk (below_step B5.out hb); clear ho hb; obtain ⟨cgBw60, cgBw61, cgBw62, cgBw63, cgBw64, cgBw65, fgBw60, fgBw61, fgBw62, fgBw63, fgBw64, fgBw65⟩ := spec_l20Entry.cells6 F6.out)
                | ((with_reducible refine gate_builtin (b := .append) (xs := #[.tmp 16, .tmp 20]) rfl ?_); at_builtin; refine Kd.R_append_rows (Kd.int .i64) (w0 := w) w.heap.size rfl (.tmp 16) (.tmp 20) 27 3 (.int .i64 0) 8 rfl Try.underlying27 info3 rfl (by decide) (by omega) _ (x1 ++ x2) x3 _ _ _ (fun k_ => some k_ ≠ (.slice Q6 x3.length q6 : Value).ownBlock) (fun _ => False) rfl rfl ?aO ?aR (fun _ _ h => h) (fun _ h => h.elim) ?aF ?aB ?aS ?aL ?_; (case aO => exact Kd.R_mono A6.out (fun _ hk => hk.2)); (case aR => exact (Kd.R_reads' N6.out).2.2); (case aF => exact Kd.fresh' (Kd.R_lt N6.out)); (case aB => exact B6.out); (case aS => exact below_size B6.out); (case aL => have := L3.out; omega); intro v7 w7 ho hb hg _; have A7 := Aside0.mk (Kd.R_mono (ok' := fun _ => True) ho (fun _ _ => trivial)); have B7 := Aside0.mk hb; have F7 := Aside0.mk (blk_grown F6.out hg (Kd.R_ne A6.out F6.out (by decide))); clear ho hb hg; obtain ⟨cgBw70, cgBw71, cgBw72, cgBw73, cgBw74, cgBw75, fgBw70, fgBw71, fgBw72, fgBw73, fgBw74, fgBw75⟩ := spec_l20Entry.cells6 F7.out)
                | (go_at_call 36; (with_reducible refine (spec_EncodeText.calls k t x4 w7 H4.out).mono ?_); rintro e w8 ⟨u8, rfl, ho, hb⟩; obtain ⟨Q8, q8, ee⟩ := Kd.R_slice ho; subst ee; have N8 := Aside0.mk (Kd.R_lower ho (below_size B7.out)); have A8 := Aside0.mk (Kd.R_elder' A7.out (Kd.R_base ho) hb); have F8 := Aside0.mk (blk_below F7.out hb); have B8 := Aside0.mk (below_step B7.out hb); clear ho hb; obtain ⟨cgBw80, cgBw81, cgBw82, cgBw83, cgBw84, cgBw85, fgBw80, fgBw81, fgBw82, fgBw83, fgBw84, fgBw85⟩ := spec_l20Entry.cells6 F8.out)
                | ((with_reducible refine gate_builtin (b := .append) (xs := #[.tmp 22, .tmp 26]) rfl ?_); at_builtin; refine Kd.R_append_rows (Kd.int .i64) (w0 := w) w.heap.size rfl (.tmp 22) (.tmp 26) 27 3 (.int .i64 0) 8 rfl Try.underlying27 info3 rfl (by decide) (by omega) _ ((x1 ++ x2) ++ x3) x4 _ _ _ (fun k_ => some k_ ≠ (.slice Q8 x4.length q8 : Value).ownBlock) (fun _ => False) rfl rfl ?aO ?aR (fun _ _ h => h) (fun _ h => h.elim) ?aF ?aB ?aS ?aL ?_; (case aO => exact Kd.R_mono A8.out (fun _ hk => hk.2)); (case aR => exact (Kd.R_reads' N8.out).2.2); (case aF => exact Kd.fresh' (Kd.R_lt N8.out)); (case aB => exact B8.out); (case aS => exact below_size B8.out); (case aL => have := L4.out; omega); intro v9 w9 ho hb hg _; have A9 := Aside0.mk (Kd.R_mono (ok' := fun _ => True) ho (fun _ _ => trivial)); have B9 := Aside0.mk hb; have F9 := Aside0.mk (blk_grown F8.out hg (Kd.R_ne A8.out F8.out (by decide))); clear ho hb hg; obtain ⟨cgBw90, cgBw91, cgBw92, cgBw93, cgBw94, cgBw95, fgBw90, fgBw91, fgBw92, fgBw93, fgBw94, fgBw95⟩ := spec_l20Entry.cells6 F9.out)
                | (go_at_call 35; (with_reducible refine (spec_EncodeNumber.calls k v x5 w9 H5.out).mono ?_); rintro e w10 ⟨u10, rfl, ho, hb⟩; obtain ⟨Q10, q10, ee⟩ := Kd.R_slice ho; subst ee; have N10 := Aside0.mk (Kd.R_lower ho (below_size B9.out)); have A10 := Aside0.mk (Kd.R_elder' A9.out (Kd.R_base ho) hb); have F10 := Aside0.mk (blk_below F9.out hb); have B10 := Aside0.mk (below_step B9.out hb); clear ho hb; obtain ⟨cgBw100, cgBw101, cgBw102, cgBw103, cgBw104, cgBw105, fgBw100, fgBw101, fgBw102, fgBw103, fgBw104, fgBw105⟩ := spec_l20Entry.cells6 F10.out)
                | ((with_reducible refine gate_builtin (b := .append) (xs := #[.tmp 28, .tmp 32]) rfl ?_); at_builtin; refine Kd.R_append_rows (Kd.int .i64) (w0 := w) w.heap.size rfl (.tmp 28) (.tmp 32) 27 3 (.int .i64 0) 8 rfl Try.underlying27 info3 rfl (by decide) (by omega) _ (((x1 ++ x2) ++ x3) ++ x4) x5 _ _ _ (fun k_ => some k_ ≠ (.slice Q10 x5.length q10 : Value).ownBlock) (fun _ => False) rfl rfl ?aO ?aR (fun _ _ h => h) (fun _ h => h.elim) ?aF ?aB ?aS ?aL ?_; (case aO => exact Kd.R_mono A10.out (fun _ hk => hk.2)); (case aR => exact (Kd.R_reads' N10.out).2.2); (case aF => exact Kd.fresh' (Kd.R_lt N10.out)); (case aB => exact B10.out); (case aS => exact below_size B10.out); (case aL => have := L5.out; omega); intro v11 w11 ho hb hg _; have A11 := Aside0.mk (Kd.R_mono (ok' := fun _ => True) ho (fun _ _ => trivial)); have B11 := Aside0.mk hb; have F11 := Aside0.mk (blk_grown F10.out hg (Kd.R_ne A10.out F10.out (by decide))); clear ho hb hg; obtain ⟨cgBw110, cgBw111, cgBw112, cgBw113, cgBw114, cgBw115, fgBw110, fgBw111, fgBw112, fgBw113, fgBw114, fgBw115⟩ := spec_l20Entry.cells6 F11.out)
                | (go_at_call 35; (with_reducible refine (spec_EncodeNumber.calls k (wrap64 (o + 1)) x6 w11 H6.out).mono ?_); rintro e w12 ⟨u12, rfl, ho, hb⟩; obtain ⟨Q12, q12, ee⟩ := Kd.R_slice ho; subst ee; have N12 := Aside0.mk (Kd.R_lower ho (below_size B11.out)); have A12 := Aside0.mk (Kd.R_elder' A11.out (Kd.R_base ho) hb); have F12 := Aside0.mk (blk_below F11.out hb); have B12 := Aside0.mk (below_step B11.out hb); clear ho hb; obtain ⟨cgBw120, cgBw121, cgBw122, cgBw123, cgBw124, cgBw125, fgBw120, fgBw121, fgBw122, fgBw123, fgBw124, fgBw125⟩ := spec_l20Entry.cells6 F12.out)
                | ((with_reducible refine gate_builtin (b := .append) (xs := #[.tmp 34, .tmp 39]) rfl ?_); at_builtin; refine Kd.R_append_rows (Kd.int .i64) (w0 := w) w.heap.size rfl (.tmp 34) (.tmp 39) 27 3 (.int .i64 0) 8 rfl Try.underlying27 info3 rfl (by decide) (by omega) _ ((((x1 ++ x2) ++ x3) ++ x4) ++ x5) x6 _ _ _ (fun k_ => some k_ ≠ (.slice Q12 x6.length q12 : Value).ownBlock) (fun _ => False) rfl rfl ?aO ?aR (fun _ _ h => h) (fun _ h => h.elim) ?aF ?aB ?aS ?aL ?_; (case aO => exact Kd.R_mono A12.out (fun _ hk => hk.2)); (case aR => exact (Kd.R_reads' N12.out).2.2); (case aF => exact Kd.fresh' (Kd.R_lt N12.out)); (case aB => exact B12.out); (case aS => exact below_size B12.out); (case aL => have := L6.out; omega); intro v13 w13 ho hb hg _; have A13 := Aside0.mk (Kd.R_mono (ok' := fun _ => True) ho (fun _ _ => trivial)); have B13 := Aside0.mk hb; have F13 := Aside0.mk (blk_grown F12.out hg (Kd.R_ne A12.out F12.out (by decide))); clear ho hb hg; obtain ⟨cgBw130, cgBw131, cgBw132, cgBw133, cgBw134, cgBw135, fgBw130, fgBw131, fgBw132, fgBw133, fgBw134, fgBw135⟩ := spec_l20Entry.cells6 F13.out))
              go_ret
              exact ⟨_, rfl, A13.out, B13.out⟩
            · rw [if_neg l6] at h
              cases h
          · rw [if_neg l5] at h
            cases h
        · rw [if_neg l4] at h
          cases h
      · rw [if_neg l3] at h
        cases h
    · rw [if_neg l2] at h
      cases h



/-- One number of a row is written. -/
theorem row_put {W : World} {base e g n cap : Nat} {ok : Nat → Prop} {xs : List Int} (h : Kd.R (Kd.int .i64) e W base ok (.slice (some ⟨g, 0, none⟩) n cap) xs) {i : Int} (h0 : 0 ≤ i) (h1 : i < n) (x : Int) :
    Kd.R (Kd.int .i64) e (W.setCell ⟨g, i.toNat, none⟩ (.int .i64 x)) base ok (.slice (some ⟨g, 0, none⟩) n cap) (xs.set i.toNat x) ∧ W.grownBy (W.setCell ⟨g, i.toNat, none⟩ (.int .i64 x)) (some g) := by
  obtain ⟨c, hcl, hM, hcc, _⟩ := Kd.R_elem h 0 i h0 h1
  have hP := Kd.R_seg h i h0 h1 (seg := [.int .i64 x]) (j := 0) (x' := x) (okp := fun _ => False) hcl hcc (show 0 + 1 ≤ 1 by decide)
    (by
      have e : c.take 0 ++ [Value.int .i64 x] ++ c.drop (0 + [Value.int .i64 x].length) = [Value.int .i64 x] := by
        have hl : c.length = 1 := hcl
        rw [List.take_zero, List.nil_append, List.drop_of_length_le (by simp [hl]), List.append_nil]
      rw [e]
      rfl) (fun _ hk => hk.elim)
  have e : W.setCells g (i.toNat * 1 + 0) [.int .i64 x] = W.setCell ⟨g, i.toNat, none⟩ (.int .i64 x) := by
    rw [Nat.mul_one, Nat.add_zero]
    rfl
  rw [← e]
  exact hP
theorem row_cell {W : World} {base e g n cap : Nat} {ok : Nat → Prop} {xs : List Int} (h : Kd.R (Kd.int .i64) e W base ok (.slice (some ⟨g, 0, none⟩) n cap) xs) {i : Int} (h0 : 0 ≤ i) (h1 : i < n) :
    W.cell? ⟨g, i.toNat, none⟩ = some (.int .i64 (xs.getD i.toNat 0)) ∧ W.frozen? ⟨g, i.toNat, none⟩ = false := by
  obtain ⟨c, hcl, hM, hcc, hfr⟩ := Kd.R_elem h 0 i h0 h1
  have hM' : c = [.int .i64 (xs.getD i.toNat 0)] := hM
  subst hM'
  have a := hcc 0 _ rfl
  have f := hfr 0
  rw [show (Kd.int .i64).sz = 1 from rfl, Nat.mul_one, Nat.add_zero] at a f
  exact ⟨a, f⟩
/-- A reader goes on: a row of the call's own stays. -/
theorem row_read {w0 W w' : World} {g base e : Nat} {b : List Int} {p : Int} {ok : Nat → Prop} {v : Value} {xs : List Int} (h : Kd.R (Kd.int .i64) e W base ok v xs) (hI : IsS77 w0 W g b p) (he : ∀ q, q ∈ e :: (Kd.int .i64).E → q ≠ 77) (hk : KeepBut W w' g none) :
    Kd.R (Kd.int .i64) e w' base ok v xs := Kd.R_mono (Kd.R_keep (hI.apart h he) hk (fun _ h => h.2)) (fun _ h => h.1)



def spec_DrawDecodeEntry.fin (es bs : List Int) : Option (List Int × Int) := if es.length + bs.length ≤ 100000 then some (es ++ bs, 0) else none
def spec_DrawDecodeEntry.f (k : Nat) (l : List Int) : Option (List Int × Int) :=
  (spec_l20Open.f l).bind fun x1 => (spec_l20Bytes.f k x1.1 x1.2 12).bind fun x2 => (spec_l20Rd_pick.f k x1.1 x2.2 (wrap64 ((x2.1.length : Int) + 1))).bind fun x3 =>
    (spec_l20Rd_pick.f k x1.1 x3.2 14).bind fun x4 => (spec_l20Rd_pick.f k x1.1 x4.2 5).bind fun x5 =>
      if x5.1 = 0 then some (x2.1, wrap64 (x3.1 - wrap64 (Int.tdiv x4.1 13)))
      else (spec_l20Entry.f k x1.1 x5.2 0).bind fun e => (spec_EncodeEntry.f k e.1 e.2.1 e.2.2.1 e.2.2.2.1 e.2.2.2.2.1 e.2.2.2.2.2.1).bind fun eb =>
        (spec_l20Rd_pick.f k x1.1 e.2.2.2.2.2.2 4).bind fun x8 =>
          if x8.1 = 0 then (spec_l20Rd_pick.f k x1.1 x8.2 (eb.length : Int)).bind fun x9 => (spec_l20Rd_pick.f k x1.1 x9.2 256).bind fun x10 =>
            if 0 ≤ x9.1 ∧ x9.1 < (eb.length : Int) then spec_DrawDecodeEntry.fin (eb.set x9.1.toNat x10.1) x2.1 else none
          else spec_DrawDecodeEntry.fin eb x2.1

set_option maxHeartbeats 2000000 in
set_option maxRecDepth 100000 in
theorem spec_DrawDecodeEntry.calls (k : Nat) (A0 : Option Addr) (c0 : Nat) (l0 : List Int) (r1 : List Int) (r2 : Int) (w : World) (hr0 : Kd.C (Kd.int .u8) w A0 l0.length l0) (hc0 : l0.length ≤ c0) (h : spec_DrawDecodeEntry.f k l0 = some (r1, r2)) :
    Calls Try.prog 26 #[.slice A0 l0.length c0] w fun e w' => ∃ v0_ : Value, e = .returned (.tuple #[v0_, .int .i64 r2]) ∧ Kd.R (Kd.int .i64) 3 w' w.heap.size (fun _ => True) v0_ r1 ∧ Below w.heap.size w w' := by
  have hu := Try.underlying31
  have HR0 := Aside0.mk hr0
  have HC0 := Aside0.mk hc0
  clear hr0 hc0
  unfold spec_DrawDecodeEntry.f at h
  replace h := Option.bind_eq_some_iff.mp h
  obtain ⟨⟨b, p⟩, h1, h⟩ := h
  replace h := Option.bind_eq_some_iff.mp h
  obtain ⟨⟨bs, p2⟩, h2, h⟩ := h
  replace h := Option.bind_eq_some_iff.mp h
  obtain ⟨⟨t, p3⟩, h3, h⟩ := h
  replace h := Option.bind_eq_some_iff.mp h
  obtain ⟨⟨u, p4⟩, h4, h⟩ := h
  replace h := Option.bind_eq_some_iff.mp h
  obtain ⟨⟨q, p5⟩, h5, h⟩ := h
  dsimp only at h2 h3 h4 h5 h
  have X1 := Aside0.mk h1
  have X2 := Aside0.mk h2
  have X3 := Aside0.mk h3
  have X4 := Aside0.mk h4
  have X5 := Aside0.mk h5
  clear h1 h2 h3 h4 h5
  by_cases hq : q = 0
  · rw [if_pos hq] at h
    obtain ⟨rfl, rfl⟩ : bs = r1 ∧ wrap64 (t - wrap64 (Int.tdiv u 13)) = r2 := by simpa using h
    have cq : (q == 0) = true := beq_iff_eq.mpr hq
    clear h hq
    go_enter Try.func26, Try.ntmps26
    go_wp2_with (first
      | (go_at_call 46; (with_reducible refine (spec_l20Open.calls _ _ l0 b p w w ?side1 ?side2 ?side3 X1.out).mono ?_); (case side1 => exact Below.refl _ _); (case side2 => exact HR0.out); (case side3 => exact HC0.out); rintro e w1 ⟨g, rfl, hi, hb, hb1⟩; have I1 := Aside0.mk hi; have B1 := Aside0.mk hb; clear hi hb hb1)
      | (go_at_call 52; (with_reducible refine (spec_l20Bytes.calls k g b p 12 bs p2 w w1 ?side1 ?side2 X2.out).mono ?_); (case side1 => exact I1.out); (case side2 => exact B1.out); rintro e w2 ⟨v2, rfl, ho, hi, hb, hk⟩; obtain ⟨Ab, cb, eo⟩ := Kd.R_slice ho; subst eo; have Q2 := Aside0.mk (Kd.R_lower ho (below_size B1.out)); have I2 := Aside0.mk hi; have B2 := Aside0.mk hb; clear ho hi hb hk)
      | (go_at_call 48; (with_reducible refine (spec_l20Rd_pick.calls k g b p2 (wrap64 ((bs.length : Int) + 1)) t p3 w w2 ?side1 ?side2 X3.out).mono ?_); (case side1 => exact I2.out); (case side2 => exact B2.out); rintro e w3 ⟨rfl, hi, hb, hk⟩; have Q3 := Aside0.mk (row_read Q2.out I2.out (by decide) hk); have I3 := Aside0.mk hi; have B3 := Aside0.mk hb; clear hi hb hk)
      | (go_at_call 48; (with_reducible refine (spec_l20Rd_pick.calls k g b p3 14 u p4 w w3 ?side1 ?side2 X4.out).mono ?_); (case side1 => exact I3.out); (case side2 => exact B3.out); rintro e w4 ⟨rfl, hi, hb, hk⟩; have Q4 := Aside0.mk (row_read Q3.out I3.out (by decide) hk); have I4 := Aside0.mk hi; have B4 := Aside0.mk hb; clear hi hb hk)
      | (go_at_call 48; (with_reducible refine (spec_l20Rd_pick.calls k g b p4 5 q p5 w w4 ?side1 ?side2 X5.out).mono ?_); (case side1 => exact I4.out); (case side2 => exact B4.out); rintro e w5 ⟨rfl, hi, hb, hk⟩; have Q5 := Aside0.mk (row_read Q4.out I4.out (by decide) hk); have I5 := Aside0.mk hi; have B5 := Aside0.mk hb; clear hi hb hk))
    go_ret2
    exact ⟨_, rfl, Q5.out, B5.out⟩
  · rw [if_neg hq] at h
    have cq : (q == 0) = false := beq_eq_false_iff_ne.mpr hq
    clear hq
    replace h := Option.bind_eq_some_iff.mp h
    obtain ⟨⟨s1, s2, s3, s4, s5, s6, p6⟩, h6, h⟩ := h
    replace h := Option.bind_eq_some_iff.mp h
    obtain ⟨eb, h7, h⟩ := h
    replace h := Option.bind_eq_some_iff.mp h
    obtain ⟨⟨z, p7⟩, h8, h⟩ := h
    dsimp only at h7 h8 h
    have X6 := Aside0.mk h6
    have X7 := Aside0.mk h7
    clear h6 h7
    by_cases hz : z = 0
    · rw [if_pos hz] at h
      subst hz
      replace h := Option.bind_eq_some_iff.mp h
      obtain ⟨⟨i, p8⟩, h9, h⟩ := h
      replace h := Option.bind_eq_some_iff.mp h
      obtain ⟨⟨x, p9⟩, h10, h⟩ := h
      dsimp only at h10 h
      by_cases hj : 0 ≤ i ∧ i < (eb.length : Int)
      · rw [if_pos hj] at h
        unfold spec_DrawDecodeEntry.fin at h
        by_cases hl : (eb.set i.toNat x).length + bs.length ≤ 100000
        · rw [if_pos hl] at h
          obtain ⟨rfl, rfl⟩ : eb.set i.toNat x ++ bs = r1 ∧ 0 = r2 := by simpa using h
          have LIM := Aside0.mk hl
          have J := Aside0.mk hj
          have X8 := Aside0.mk h8
          have X9 := Aside0.mk h9
          have X10 := Aside0.mk h10
          clear h hl hj h8 h9 h10
          go_enter Try.func26, Try.ntmps26
          go_wp2_with (first
            | (go_at_call 46; (with_reducible refine (spec_l20Open.calls _ _ l0 b p w w ?side1 ?side2 ?side3 X1.out).mono ?_); (case side1 => exact Below.refl _ _); (case side2 => exact HR0.out); (case side3 => exact HC0.out); rintro e w1 ⟨g, rfl, hi, hb, hb1⟩; have I1 := Aside0.mk hi; have B1 := Aside0.mk hb; clear hi hb hb1)
            | (go_at_call 52; (with_reducible refine (spec_l20Bytes.calls k g b p 12 bs p2 w w1 ?side1 ?side2 X2.out).mono ?_); (case side1 => exact I1.out); (case side2 => exact B1.out); rintro e w2 ⟨v2, rfl, ho, hi, hb, hk⟩; obtain ⟨Ab, cb, eo⟩ := Kd.R_slice ho; subst eo; have Q2 := Aside0.mk (Kd.R_lower ho (below_size B1.out)); have I2 := Aside0.mk hi; have B2 := Aside0.mk hb; clear ho hi hb hk)
            | (go_at_call 48; (with_reducible refine (spec_l20Rd_pick.calls k g b p2 (wrap64 ((bs.length : Int) + 1)) t p3 w w2 ?side1 ?side2 X3.out).mono ?_); (case side1 => exact I2.out); (case side2 => exact B2.out); rintro e w3 ⟨rfl, hi, hb, hk⟩; have Q3 := Aside0.mk (row_read Q2.out I2.out (by decide) hk); have I3 := Aside0.mk hi; have B3 := Aside0.mk hb; clear hi hb hk)
            | (go_at_call 48; (with_reducible refine (spec_l20Rd_pick.calls k g b p3 14 u p4 w w3 ?side1 ?side2 X4.out).mono ?_); (case side1 => exact I3.out); (case side2 => exact B3.out); rintro e w4 ⟨rfl, hi, hb, hk⟩; have Q4 := Aside0.mk (row_read Q3.out I3.out (by decide) hk); have I4 := Aside0.mk hi; have B4 := Aside0.mk hb; clear hi hb hk)
            | (go_at_call 48; (with_reducible refine (spec_l20Rd_pick.calls k g b p4 5 q p5 w w4 ?side1 ?side2 X5.out).mono ?_); (case side1 => exact I4.out); (case side2 => exact B4.out); rintro e w5 ⟨rfl, hi, hb, hk⟩; have Q5 := Aside0.mk (row_read Q4.out I4.out (by decide) hk); have I5 := Aside0.mk hi; have B5 := Aside0.mk hb; clear hi hb hk)
            | (go_at_call 47; (with_reducible refine (spec_l20Entry.calls k g b p5 0 s1 s2 s3 s4 s5 s6 p6 w w5 ?side1 ?side2 X6.out).mono ?_); (case side1 => exact I5.out); (case side2 => exact B5.out); rintro e w6 ⟨rfl, hi, hb, hk⟩; have Q6 := Aside0.mk (row_read Q5.out I5.out (by decide) hk); have I6 := Aside0.mk hi; have B6 := Aside0.mk hb; clear hi hb hk)
            | (go_at_call 12; (with_reducible refine (spec_EncodeEntry.calls k s1 s2 s3 s4 s5 s6 eb w6 X7.out).mono ?_); rintro e w7 ⟨v7, rfl, ho, hb⟩; obtain ⟨ge, ce, ee, _, _, _⟩ := Kd.R_form ho (by have := J.out; omega); subst ee; have Q7 := Aside0.mk (Kd.R_elder' Q6.out (Kd.R_base ho) hb); have E7 := Aside0.mk (Kd.R_lower (Kd.R_new' ho (Kd.R_lt Q6.out)) (below_size B6.out)); have I7 := Aside0.mk (I6.out.below hb); have B7 := Aside0.mk (below_step B6.out hb); clear ho hb)
            | (go_at_call 48; (with_reducible refine (spec_l20Rd_pick.calls k g b p6 4 0 p7 w w7 ?side1 ?side2 X8.out).mono ?_); (case side1 => exact I7.out); (case side2 => exact B7.out); rintro e w8 ⟨rfl, hi, hb, hk⟩; have Q8 := Aside0.mk (row_read Q7.out I7.out (by decide) hk); have E8 := Aside0.mk (row_read E7.out I7.out (by decide) hk); have I8 := Aside0.mk hi; have B8 := Aside0.mk hb; clear hi hb hk)
            | (go_at_call 48; (with_reducible refine (spec_l20Rd_pick.calls k g b p7 (eb.length : Int) i p8 w w8 ?side1 ?side2 X9.out).mono ?_); (case side1 => exact I8.out); (case side2 => exact B8.out); rintro e w9 ⟨rfl, hi, hb, hk⟩; have Q9 := Aside0.mk (row_read Q8.out I8.out (by decide) hk); have E9 := Aside0.mk (row_read E8.out I8.out (by decide) hk); have I9 := Aside0.mk hi; have B9 := Aside0.mk hb; clear hi hb hk)
            | (go_at_call 48; (with_reducible refine (spec_l20Rd_pick.calls k g b p8 256 x p9 w w9 ?side1 ?side2 X10.out).mono ?_); (case side1 => exact I9.out); (case side2 => exact B9.out); rintro e w10 ⟨rfl, hi, hb, hk⟩; have Q10 := Aside0.mk (row_read Q9.out I9.out (by decide) hk); have E10 := Aside0.mk (row_read E9.out I9.out (by decide) hk); have I10 := Aside0.mk hi; have B10 := Aside0.mk hb; clear hi hb hk; obtain ⟨hc, hf⟩ := row_cell E10.out J.out.1 J.out.2; have j0 := eq_true J.out.1; have j1 := eq_true J.out.2)
            | ((with_reducible refine gate_store (t := 3) (p := 39) rfl ?_); refine store_event (t := 3) (p := 39) (v := ?vo_w10) (w1 := w10.setCell ⟨ge, i.toNat, none⟩ (.int .i64 x)) ?hg ?ho ?hn ?hr ?_; (case ho => rfl); (case hg => rfl); (case hn => rfl); (case hr => first | (go_simp; done) | (go_simp; rfl)); intro w11 hw; obtain ⟨he, hg⟩ := row_put E10.out J.out.1 J.out.2 x; rw [← hw] at he hg; have E11 := Aside0.mk he; have Q11 := Aside0.mk (Kd.R_grown Q10.out hg (fun k hk => by simpa [Value.ownBlock] using hk.2)); have B11 := Aside0.mk (show Below w.heap.size w w11 from hw ▸ below_set B10.out (Kd.R_base E10.out ge (by simp [Value.ownBlock]))); clear he hg hw)
            | ((with_reducible refine gate_builtin (b := .append) (xs := #[.tmp 40, .tmp 41]) rfl ?_); at_builtin; refine Kd.R_append_rows (Kd.int .i64) (w0 := w) w.heap.size rfl (.tmp 40) (.tmp 41) 27 3 (.int .i64 0) 8 rfl Try.underlying27 info3 rfl (by decide) (by omega) (.slice (some ⟨ge, 0, none⟩) eb.length ce) (eb.set i.toNat x) bs _ _ _ (fun k_ => some k_ ≠ (.slice Ab bs.length cb : Value).ownBlock) (fun _ => False) rfl rfl ?aO ?aR (fun _ _ h => h) (fun _ h => h.elim) ?aF ?aB ?aS ?aL ?_; (case aO => exact Kd.R_mono E11.out (fun _ hk => hk.2)); (case aR => exact (Kd.R_reads' Q11.out).2.2); (case aF => exact Kd.fresh' (Kd.R_lt Q11.out)); (case aB => exact B11.out); (case aS => exact below_size B11.out); (case aL => have := LIM.out; (try simp only [List.length_set] at this ⊢); omega); intro v20 w20 ho hb hg hat; have O := Aside0.mk ho; have B20 := Aside0.mk hb; clear ho hb hg hat))
          go_ret2
          exact ⟨_, rfl, Kd.R_mono O.out (fun _ _ => trivial), B20.out⟩
        · rw [if_neg hl] at h
          cases h
      · rw [if_neg hj] at h
        cases h
    · rw [if_neg hz] at h
      have cz : (z == 0) = false := beq_eq_false_iff_ne.mpr hz
      unfold spec_DrawDecodeEntry.fin at h
      by_cases hl : eb.length + bs.length ≤ 100000
      · rw [if_pos hl] at h
        obtain ⟨rfl, rfl⟩ : eb ++ bs = r1 ∧ 0 = r2 := by simpa using h
        have LIM := Aside0.mk hl
        have X8 := Aside0.mk h8
        clear h hl hz h8
        go_enter Try.func26, Try.ntmps26
        go_wp2_with (first
          | (go_at_call 46; (with_reducible refine (spec_l20Open.calls _ _ l0 b p w w ?side1 ?side2 ?side3 X1.out).mono ?_); (case side1 => exact Below.refl _ _); (case side2 => exact HR0.out); (case side3 => exact HC0.out); rintro e w1 ⟨g, rfl, hi, hb, hb1⟩; have I1 := Aside0.mk hi; have B1 := Aside0.mk hb; clear hi hb hb1)
          | (go_at_call 52; (with_reducible refine (spec_l20Bytes.calls k g b p 12 bs p2 w w1 ?side1 ?side2 X2.out).mono ?_); (case side1 => exact I1.out); (case side2 => exact B1.out); rintro e w2 ⟨v2, rfl, ho, hi, hb, hk⟩; obtain ⟨Ab, cb, eo⟩ := Kd.R_slice ho; subst eo; have Q2 := Aside0.mk (Kd.R_lower ho (below_size B1.out)); have I2 := Aside0.mk hi; have B2 := Aside0.mk hb; clear ho hi hb hk)
          | (go_at_call 48; (with_reducible refine (spec_l20Rd_pick.calls k g b p2 (wrap64 ((bs.length : Int) + 1)) t p3 w w2 ?side1 ?side2 X3.out).mono ?_); (case side1 => exact I2.out); (case side2 => exact B2.out); rintro e w3 ⟨rfl, hi, hb, hk⟩; have Q3 := Aside0.mk (row_read Q2.out I2.out (by decide) hk); have I3 := Aside0.mk hi; have B3 := Aside0.mk hb; clear hi hb hk)
          | (go_at_call 48; (with_reducible refine (spec_l20Rd_pick.calls k g b p3 14 u p4 w w3 ?side1 ?side2 X4.out).mono ?_); (case side1 => exact I3.out); (case side2 => exact B3.out); rintro e w4 ⟨rfl, hi, hb, hk⟩; have Q4 := Aside0.mk (row_read Q3.out I3.out (by decide) hk); have I4 := Aside0.mk hi; have B4 := Aside0.mk hb; clear hi hb hk)
          | (go_at_call 48; (with_reducible refine (spec_l20Rd_pick.calls k g b p4 5 q p5 w w4 ?side1 ?side2 X5.out).mono ?_); (case side1 => exact I4.out); (case side2 => exact B4.out); rintro e w5 ⟨rfl, hi, hb, hk⟩; have Q5 := Aside0.mk (row_read Q4.out I4.out (by decide) hk); have I5 := Aside0.mk hi; have B5 := Aside0.mk hb; clear hi hb hk)
          | (go_at_call 47; (with_reducible refine (spec_l20Entry.calls k g b p5 0 s1 s2 s3 s4 s5 s6 p6 w w5 ?side1 ?side2 X6.out).mono ?_); (case side1 => exact I5.out); (case side2 => exact B5.out); rintro e w6 ⟨rfl, hi, hb, hk⟩; have Q6 := Aside0.mk (row_read Q5.out I5.out (by decide) hk); have I6 := Aside0.mk hi; have B6 := Aside0.mk hb; clear hi hb hk)
          | (go_at_call 12; (with_reducible refine (spec_EncodeEntry.calls k s1 s2 s3 s4 s5 s6 eb w6 X7.out).mono ?_); rintro e w7 ⟨v7, rfl, ho, hb⟩; obtain ⟨Ae, ce, ee⟩ := Kd.R_slice ho; subst ee; have Q7 := Aside0.mk (Kd.R_elder' Q6.out (Kd.R_base ho) hb); have E7 := Aside0.mk (Kd.R_lower (Kd.R_new' ho (Kd.R_lt Q6.out)) (below_size B6.out)); have I7 := Aside0.mk (I6.out.below hb); have B7 := Aside0.mk (below_step B6.out hb); clear ho hb)
          | (go_at_call 48; (with_reducible refine (spec_l20Rd_pick.calls k g b p6 4 z p7 w w7 ?side1 ?side2 X8.out).mono ?_); (case side1 => exact I7.out); (case side2 => exact B7.out); rintro e w8 ⟨rfl, hi, hb, hk⟩; have Q8 := Aside0.mk (row_read Q7.out I7.out (by decide) hk); have E8 := Aside0.mk (row_read E7.out I7.out (by decide) hk); have I8 := Aside0.mk hi; have B8 := Aside0.mk hb; clear hi hb hk)
          | ((with_reducible refine gate_builtin (b := .append) (xs := #[.tmp 40, .tmp 41]) rfl ?_); at_builtin; refine Kd.R_append_rows (Kd.int .i64) (w0 := w) w.heap.size rfl (.tmp 40) (.tmp 41) 27 3 (.int .i64 0) 8 rfl Try.underlying27 info3 rfl (by decide) (by omega) (.slice Ae eb.length ce) eb bs _ _ _ (fun k_ => some k_ ≠ (.slice Ab bs.length cb : Value).ownBlock) (fun _ => False) rfl rfl ?aO ?aR (fun _ _ h => h) (fun _ h => h.elim) ?aF ?aB ?aS ?aL ?_; (case aO => exact Kd.R_mono E8.out (fun _ hk => hk.2)); (case aR => exact (Kd.R_reads' Q8.out).2.2); (case aF => exact Kd.fresh' (Kd.R_lt Q8.out)); (case aB => exact B8.out); (case aS => exact below_size B8.out); (case aL => have := LIM.out; (try simp only [List.length_set] at this ⊢); omega); intro v20 w20 ho hb hg hat; have O := Aside0.mk ho; have B20 := Aside0.mk hb; clear ho hb hg hat))
        go_ret2
        exact ⟨_, rfl, Kd.R_mono O.out (fun _ _ => trivial), B20.out⟩
      · rw [if_neg hl] at h
        cases h


theorem same_command (d : Nat) (w : World) (x0 : Int) (x1 : ByteArray) (x2 x3 : Int) :
    (Op.equalIn (d + 2) 29 (.agg #[.int .i64 x0, .string x1, .int .i64 x2, .int .i64 x3]) (.agg #[.int .i64 x0, .string x1, .int .i64 x2, .int .i64 x3])).run Try.prog w = .ok true w := by
  have h : (Op.equalIn (d + 2) 29 (.agg #[.int .i64 x0, .string x1, .int .i64 x2, .int .i64 x3]) (.agg #[.int .i64 x0, .string x1, .int .i64 x2, .int .i64 x3])).run Try.prog w = .ok (x0 == x0 && (x1.toList == x1.toList && (x2 == x2 && x3 == x3))) w := by
    refine eqA_of Try.underlying29 (by kernel_rfl) ?_
    refine eqf_cons (by rfl) (by first | (go_simp; done) | (go_simp; rfl)) (by first | (go_simp; done) | (go_simp; rfl)) (by go_simp) ?_
    refine eqf_cons (by rfl) (by first | (go_simp; done) | (go_simp; rfl)) (by first | (go_simp; done) | (go_simp; rfl)) (by go_simp) ?_
    refine eqf_cons (by rfl) (by first | (go_simp; done) | (go_simp; rfl)) (by first | (go_simp; done) | (go_simp; rfl)) (by go_simp) ?_
    exact eqf_last (by rfl) (by first | (go_simp; done) | (go_simp; rfl)) (by first | (go_simp; done) | (go_simp; rfl)) (by go_simp)
  rwa [show (x0 == x0 && (x1.toList == x1.toList && (x2 == x2 && x3 == x3))) = true by simp] at h
theorem same_entry (d : Nat) (w : World) (c s x0 : Int) (x1 : ByteArray) (x2 x3 : Int) :
    (Op.equalIn (d + 3) 31 (.agg #[.int .i64 c, .int .i64 s, .int .i64 x0, .string x1, .int .i64 x2, .int .i64 x3]) (.agg #[.int .i64 c, .int .i64 s, .int .i64 x0, .string x1, .int .i64 x2, .int .i64 x3])).run Try.prog w = .ok true w := by
  have h : (Op.equalIn (d + 3) 31 (.agg #[.int .i64 c, .int .i64 s, .int .i64 x0, .string x1, .int .i64 x2, .int .i64 x3]) (.agg #[.int .i64 c, .int .i64 s, .int .i64 x0, .string x1, .int .i64 x2, .int .i64 x3])).run Try.prog w = .ok (c == c && (s == s && true)) w := by
    refine eqA_of Try.underlying31 (by kernel_rfl) ?_
    refine eqf_cons (by rfl) (by first | (go_simp; done) | (go_simp; rfl)) (by first | (go_simp; done) | (go_simp; rfl)) (by go_simp) ?_
    refine eqf_cons (by rfl) (by first | (go_simp; done) | (go_simp; rfl)) (by first | (go_simp; done) | (go_simp; rfl)) (by go_simp) ?_
    exact eqf_last (by rfl) (by first | (go_simp; done) | (go_simp; rfl)) (by first | (go_simp; done) | (go_simp; rfl)) (same_command d w x0 x1 x2 x3)
  rwa [show (c == c && (s == s && true)) = true by simp] at h
/-- six stores into a new block -/
theorem below6 {w W : World} {g : Nat} (h : Below w.heap.size w W) (hg : w.heap.size ≤ g) (a c d e f v : Value) :
    Below w.heap.size w ((((((W.setCell ⟨g, 0, none⟩ a).setCell ⟨g, 1, none⟩ c).setCell ⟨g, 2, none⟩ d).setCell ⟨g, 3, none⟩ e).setCell ⟨g, 4, none⟩ f).setCell ⟨g, 5, none⟩ v) :=
  below_set (below_set (below_set (below_set (below_set (below_set h hg) hg) hg) hg) hg) hg



/-- What is asked of the bytes: 'some true' where the law answers true. -/
def laws_FnDecodeEntry.judge (k : Nat) (b : List Int) (a : Int) : Option Bool :=
  (impl_DecodeEntry.f k b a).bind fun d => (spec_DecodeEntry.f k b a).bind fun d' =>
    if d = d' then
      if d.2.2.2.2.2.2 < 0 then (laws_alive.f k).bind fun al => if d = (0, 0, 0, ⟨#[]⟩, 0, 0, -1) ∧ al = true then some true else none
      else if (0 ≤ a ∧ a < d.2.2.2.2.2.2 ∧ d.2.2.2.2.2.2 ≤ (b.length : Int)) then
        (impl_EntryValid.f k d.1 d.2.1 d.2.2.1 d.2.2.2.1 d.2.2.2.2.1 d.2.2.2.2.2.1).bind fun v => (impl_EncodeEntry.f k d.1 d.2.1 d.2.2.1 d.2.2.2.1 d.2.2.2.2.1 d.2.2.2.2.2.1).bind fun eb =>
          (laws_sameInts.f k eb ((b.take d.2.2.2.2.2.2.toNat).drop a.toNat)).bind fun t => if v = true ∧ t = true then some true else none
      else none
    else none
def laws_FnDecodeEntry.f (k : Nat) (l : List Int) : Option Bool :=
  if (l.length : Int) > 1048576 then some true else (spec_DrawDecodeEntry.f k l).bind fun x => laws_FnDecodeEntry.judge k x.1 x.2
def laws_FnDecodeEntry.T12 : Bool × List (List Nat × List Nat) := (true, [([], []), ([0], [0]), ([1, 1], [1]), ([2], [2]), ([3, 2, 2], [2, 3]), ([2], [2]), ([2], [2]), ([2], [2]), ([5, 6, 7, 2], [2, 5, 6, 7]), ([4, 8, 4, 2], [2, 4, 8]), ([2, 9], [2, 9]), ([10, 9, 0, 1, 2, 3, 4, 5, 6, 7, 8, 9, 10], [10])])
def laws_FnDecodeEntry.B12 : List Nat := [0, 1, 3, 7, 15, 7, 7, 7, 231, 511, 1023, 2047]
theorem laws_FnDecodeEntry.tab12 : rtab .any (opsOf Try.f6 12) = laws_FnDecodeEntry.T12 := by kernel_rfl
theorem laws_FnDecodeEntry.bits12 : waitsOk laws_FnDecodeEntry.T12.2 laws_FnDecodeEntry.B12 = true := by kernel_rfl

set_option maxHeartbeats 4000000 in
set_option maxRecDepth 100000 in
theorem laws_FnDecodeEntry.calls (k : Nat) (A0 : Option Addr) (c0 : Nat) (l0 : List Int) (r : Bool) (w : World) (hr0 : Kd.C (Kd.int .u8) w A0 l0.length l0) (hc0 : l0.length ≤ c0) (h : laws_FnDecodeEntry.f k l0 = some r) :
    Calls Try.prog 6 #[.slice A0 l0.length c0] w fun e w' => e = .returned (.bool r) ∧ Below w.heap.size w w' := by
  have hu := Try.underlying31
  have huc := Try.underlying29
  have HR0 := Aside0.mk hr0
  have HC0 := Aside0.mk hc0
  clear hr0 hc0
  unfold laws_FnDecodeEntry.f at h
  by_cases hl : (l0.length : Int) > 1048576
  · rw [if_pos hl] at h
    obtain rfl := Option.some.inj h
    have cl : decide ((l0.length : Int) > 1048576) = true := decide_eq_true hl
    clear h hl
    go_enter Try.func6, Try.ntmps6
    go_wp2
    go_ret
    exact ⟨rfl, Below.refl _ _⟩
  · rw [if_neg hl] at h
    have cl : decide ((l0.length : Int) > 1048576) = false := decide_eq_false hl
    clear hl
    replace h := Option.bind_eq_some_iff.mp h
    obtain ⟨⟨b, a⟩, h1, h⟩ := h
    have X1 := Aside0.mk h1
    clear h1
    unfold laws_FnDecodeEntry.judge at h
    dsimp only at h
    replace h := Option.bind_eq_some_iff.mp h
    obtain ⟨⟨s1, s2, s3, s4, s5, s6, nx⟩, h2, h⟩ := h
    replace h := Option.bind_eq_some_iff.mp h
    obtain ⟨d2, h3, h⟩ := h
    dsimp only at h
    by_cases hd : (s1, s2, s3, s4, s5, s6, nx) = d2
    · rw [if_pos hd] at h
      subst hd
      have heq := fun (d : Nat) (W : World) => same_entry d W s1 s2 s3 s4 s5 s6
      by_cases hn : nx < 0
      · rw [if_pos hn] at h
        replace h := Option.bind_eq_some_iff.mp h
        obtain ⟨al, h4, h⟩ := h
        by_cases hj : (s1, s2, s3, s4, s5, s6, nx) = (0, 0, 0, ⟨#[]⟩, 0, 0, -1) ∧ al = true
        · rw [if_pos hj] at h
          obtain rfl := Option.some.inj h
          obtain ⟨hz, rfl⟩ := hj
          obtain ⟨rfl, rfl, rfl, rfl, rfl, rfl, rfl⟩ : s1 = 0 ∧ s2 = 0 ∧ s3 = 0 ∧ s4 = ⟨#[]⟩ ∧ s5 = 0 ∧ s6 = 0 ∧ nx = -1 := by simpa using hz
          have X2 := Aside0.mk h2
          have X3 := Aside0.mk h3
          have X4 := Aside0.mk h4
          clear h2 h3 h4 h hz hn
          go_enter Try.func6, Try.ntmps6
          go_wp2_with (first
            | (go_at_call 26; (with_reducible refine (spec_DrawDecodeEntry.calls k _ _ l0 b a w ?side1 ?side2 X1.out).mono ?_); (case side1 => exact HR0.out); (case side2 => exact HC0.out); rintro e w1 ⟨v1, rfl, ho, hb⟩; obtain ⟨Ab, cb, eo⟩ := Kd.R_slice ho; subst eo; have CB1 := Aside0.mk (Kd.R_reads' ho).2.2; have CC := Aside0.mk (Kd.R_reads' ho).2.1; have B1 := Aside0.mk hb; clear ho hb)
            | (go_at_call 20; (with_reducible refine (impl_DecodeEntry.calls k _ _ b a 0 0 0 ⟨#[]⟩ 0 0 (-1) w1 ?side1 ?side2 X2.out).mono ?_); (case side1 => exact CB1.out); (case side2 => exact CC.out); rintro e w2 ⟨rfl, hb⟩; have CB2 := Aside0.mk (Kd.C_below CB1.out hb); have B2 := Aside0.mk (below_step B1.out hb); clear hb)
            | ((with_reducible refine gate_dst (N := 5) rfl ?_); refine box_event ?hg (N := 5) ?hd (cs := #[.int .i64 0, .int .i64 0, .int .i64 0, .string (⟨#[]⟩ : ByteArray), .int .i64 0, .int .i64 0]) (t := 31) ?hr ?_; (case hd => rfl); (case hg => rfl); (case hr => first | (go_simp; done) | (go_simp; rfl)); intro gE hgE w3 hc hbb; have E3 := Aside0.mk hc; have HB3 := Aside0.mk hbb; have LgE := Aside0.mk (Nat.le_of_eq hgE.symm); clear hc hbb hgE; obtain ⟨cgEw30, cgEw31, cgEw32, cgEw33, cgEw34, cgEw35, fgEw30, fgEw31, fgEw32, fgEw33, fgEw34, fgEw35⟩ := spec_l20Entry.cells6 E3.out)
            | ((with_reducible refine gate_store (t := 31) (p := 5) rfl ?_); refine store_event (t := 31) (p := 5) (v := ?vo_w3) (w1 := ((((((w3.setCell ⟨gE, 0, none⟩ (.int .i64 0)).setCell ⟨gE, 1, none⟩ (.int .i64 0)).setCell ⟨gE, 2, none⟩ (.int .i64 0)).setCell ⟨gE, 3, none⟩ (.string (⟨#[]⟩ : ByteArray))).setCell ⟨gE, 4, none⟩ (.int .i64 0)).setCell ⟨gE, 5, none⟩ (.int .i64 0))) ?hg ?ho ?hn ?hr ?_; (case ho => rfl); (case hg => rfl); (case hn => rfl); (case hr => first | (go_simp; done) | (go_simp; rfl)); intro w4 hw; have E4 := Aside0.mk (show w4.heap[gE]? = _ from hw ▸ spec_l20Entry.filled E3.out _ _ _ _ _ _); have hb := (show Below w2.heap.size w2 w4 from hw ▸ below6 HB3.out LgE.out _ _ _ _ _ _); clear hw; have CB4 := Aside0.mk (Kd.C_below CB2.out hb); have B4 := Aside0.mk (below_step B2.out hb); clear hb)
            | (go_at_call 18; (with_reducible refine (spec_DecodeEntry.calls k _ _ b a 0 0 0 ⟨#[]⟩ 0 0 (-1) w4 ?side1 ?side2 X3.out).mono ?_); (case side1 => exact CB4.out); (case side2 => exact CC.out); rintro e w5 ⟨rfl, hb⟩; have E5 := Aside0.mk (blk_below E4.out hb); have CB5 := Aside0.mk (Kd.C_below CB4.out hb); have B5 := Aside0.mk (below_step B4.out hb); clear hb)
            | ((with_reducible refine gate_dst (N := 7) rfl ?_); refine box_event ?hg (N := 7) ?hd (cs := #[.int .i64 0, .int .i64 0, .int .i64 0, .string (⟨#[]⟩ : ByteArray), .int .i64 0, .int .i64 0]) (t := 31) ?hr ?_; (case hd => rfl); (case hg => rfl); (case hr => first | (go_simp; done) | (go_simp; rfl)); intro gX hgX w6 hc hbb; have M6 := Aside0.mk hc; have HB6 := Aside0.mk hbb; have LgX := Aside0.mk (Nat.le_of_eq hgX.symm); have NEM := Aside0.mk (Nat.ne_of_lt (hgX ▸ blk_lt E5.out)); clear hc hbb hgX; obtain ⟨cgXw60, cgXw61, cgXw62, cgXw63, cgXw64, cgXw65, fgXw60, fgXw61, fgXw62, fgXw63, fgXw64, fgXw65⟩ := spec_l20Entry.cells6 M6.out)
            | ((with_reducible refine gate_store (t := 31) (p := 7) rfl ?_); refine store_event (t := 31) (p := 7) (v := ?vo_w6) (w1 := ((((((w6.setCell ⟨gX, 0, none⟩ (.int .i64 0)).setCell ⟨gX, 1, none⟩ (.int .i64 0)).setCell ⟨gX, 2, none⟩ (.int .i64 0)).setCell ⟨gX, 3, none⟩ (.string (⟨#[]⟩ : ByteArray))).setCell ⟨gX, 4, none⟩ (.int .i64 0)).setCell ⟨gX, 5, none⟩ (.int .i64 0))) ?hg ?ho ?hn ?hr ?_; (case ho => rfl); (case hg => rfl); (case hn => rfl); (case hr => first | (go_simp; done) | (go_simp; rfl)); intro w7 hw; have M7 := Aside0.mk (show w7.heap[gX]? = _ from hw ▸ spec_l20Entry.filled M6.out _ _ _ _ _ _); have hb := (show Below w5.heap.size w5 w7 from hw ▸ below6 HB6.out LgX.out _ _ _ _ _ _); clear hw; have E7 := Aside0.mk (blk_below E5.out hb); have CB7 := Aside0.mk (Kd.C_below CB5.out hb); have B7 := Aside0.mk (below_step B5.out hb); clear hb; obtain ⟨cgEw70, cgEw71, cgEw72, cgEw73, cgEw74, cgEw75, fgEw70, fgEw71, fgEw72, fgEw73, fgEw74, fgEw75⟩ := spec_l20Entry.cells6 E7.out; obtain ⟨cgXw70, cgXw71, cgXw72, cgXw73, cgXw74, cgXw75, fgXw70, fgXw71, fgXw72, fgXw73, fgXw74, fgXw75⟩ := spec_l20Entry.cells6 M7.out)
            | (go_at_call 25; (with_reducible refine (laws_alive.calls k true _ X4.out).mono ?_); rintro e w8 ⟨rfl, hb⟩; have B8 := Aside0.mk (below_step B7.out hb); clear hb))
          go_ret
          exact ⟨rfl, B8.out⟩
        · rw [if_neg hj] at h
          cases h
      · rw [if_neg hn] at h
        by_cases hc : 0 ≤ a ∧ a < nx ∧ nx ≤ (b.length : Int)
        · rw [if_pos hc] at h
          replace h := Option.bind_eq_some_iff.mp h
          obtain ⟨v, h4, h⟩ := h
          replace h := Option.bind_eq_some_iff.mp h
          obtain ⟨eb, h5, h⟩ := h
          replace h := Option.bind_eq_some_iff.mp h
          obtain ⟨t, h6, h⟩ := h
          by_cases hj : v = true ∧ t = true
          · rw [if_pos hj] at h
            obtain rfl := Option.some.inj h
            obtain ⟨rfl, rfl⟩ := hj
            have X2 := Aside0.mk h2
            have X3 := Aside0.mk h3
            have X4 := Aside0.mk h4
            have X5 := Aside0.mk h5
            have X6 := Aside0.mk h6
            have CX := Aside0.mk hc
            have n0 : decide (nx < 0) = false := decide_eq_false hn
            have n1 : decide (a < 0) = false := decide_eq_false (by omega)
            have n2 : decide (nx ≤ a) = false := decide_eq_false (by omega)
            have n3 : decide (nx > (b.length : Int)) = false := decide_eq_false (by omega)
            clear h2 h3 h4 h5 h6 h hn hc
            go_enter Try.func6, Try.ntmps6
            go_wp2_with (first
              | (go_at_call 26; (with_reducible refine (spec_DrawDecodeEntry.calls k _ _ l0 b a w ?side1 ?side2 X1.out).mono ?_); (case side1 => exact HR0.out); (case side2 => exact HC0.out); rintro e w1 ⟨v1, rfl, ho, hb⟩; obtain ⟨Ab, cb, eo⟩ := Kd.R_slice ho; subst eo; have CB1 := Aside0.mk (Kd.R_reads' ho).2.2; have CC := Aside0.mk (Kd.R_reads' ho).2.1; have B1 := Aside0.mk hb; clear ho hb)
              | (go_at_call 20; (with_reducible refine (impl_DecodeEntry.calls k _ _ b a s1 s2 s3 s4 s5 s6 nx w1 ?side1 ?side2 X2.out).mono ?_); (case side1 => exact CB1.out); (case side2 => exact CC.out); rintro e w2 ⟨rfl, hb⟩; have CB2 := Aside0.mk (Kd.C_below CB1.out hb); have B2 := Aside0.mk (below_step B1.out hb); clear hb)
              | ((with_reducible refine gate_dst (N := 5) rfl ?_); refine box_event ?hg (N := 5) ?hd (cs := #[.int .i64 0, .int .i64 0, .int .i64 0, .string (⟨#[]⟩ : ByteArray), .int .i64 0, .int .i64 0]) (t := 31) ?hr ?_; (case hd => rfl); (case hg => rfl); (case hr => first | (go_simp; done) | (go_simp; rfl)); intro gE hgE w3 hc hbb; have E3 := Aside0.mk hc; have HB3 := Aside0.mk hbb; have LgE := Aside0.mk (Nat.le_of_eq hgE.symm); clear hc hbb hgE; obtain ⟨cgEw30, cgEw31, cgEw32, cgEw33, cgEw34, cgEw35, fgEw30, fgEw31, fgEw32, fgEw33, fgEw34, fgEw35⟩ := spec_l20Entry.cells6 E3.out)
              | ((with_reducible refine gate_store (t := 31) (p := 5) rfl ?_); refine store_event (t := 31) (p := 5) (v := ?vo_w3) (w1 := ((((((w3.setCell ⟨gE, 0, none⟩ (.int .i64 s1)).setCell ⟨gE, 1, none⟩ (.int .i64 s2)).setCell ⟨gE, 2, none⟩ (.int .i64 s3)).setCell ⟨gE, 3, none⟩ (.string s4)).setCell ⟨gE, 4, none⟩ (.int .i64 s5)).setCell ⟨gE, 5, none⟩ (.int .i64 s6))) ?hg ?ho ?hn ?hr ?_; (case ho => rfl); (case hg => rfl); (case hn => rfl); (case hr => first | (go_simp; done) | (go_simp; rfl)); intro w4 hw; have E4 := Aside0.mk (show w4.heap[gE]? = _ from hw ▸ spec_l20Entry.filled E3.out _ _ _ _ _ _); have hb := (show Below w2.heap.size w2 w4 from hw ▸ below6 HB3.out LgE.out _ _ _ _ _ _); clear hw; have CB4 := Aside0.mk (Kd.C_below CB2.out hb); have B4 := Aside0.mk (below_step B2.out hb); clear hb)
              | (go_at_call 18; (with_reducible refine (spec_DecodeEntry.calls k _ _ b a s1 s2 s3 s4 s5 s6 nx w4 ?side1 ?side2 X3.out).mono ?_); (case side1 => exact CB4.out); (case side2 => exact CC.out); rintro e w5 ⟨rfl, hb⟩; have E5 := Aside0.mk (blk_below E4.out hb); have CB5 := Aside0.mk (Kd.C_below CB4.out hb); have B5 := Aside0.mk (below_step B4.out hb); clear hb)
              | ((with_reducible refine gate_dst (N := 7) rfl ?_); refine box_event ?hg (N := 7) ?hd (cs := #[.int .i64 0, .int .i64 0, .int .i64 0, .string (⟨#[]⟩ : ByteArray), .int .i64 0, .int .i64 0]) (t := 31) ?hr ?_; (case hd => rfl); (case hg => rfl); (case hr => first | (go_simp; done) | (go_simp; rfl)); intro gX hgX w6 hc hbb; have M6 := Aside0.mk hc; have HB6 := Aside0.mk hbb; have LgX := Aside0.mk (Nat.le_of_eq hgX.symm); have NEM := Aside0.mk (Nat.ne_of_lt (hgX ▸ blk_lt E5.out)); clear hc hbb hgX; obtain ⟨cgXw60, cgXw61, cgXw62, cgXw63, cgXw64, cgXw65, fgXw60, fgXw61, fgXw62, fgXw63, fgXw64, fgXw65⟩ := spec_l20Entry.cells6 M6.out)
              | ((with_reducible refine gate_store (t := 31) (p := 7) rfl ?_); refine store_event (t := 31) (p := 7) (v := ?vo_w6) (w1 := ((((((w6.setCell ⟨gX, 0, none⟩ (.int .i64 s1)).setCell ⟨gX, 1, none⟩ (.int .i64 s2)).setCell ⟨gX, 2, none⟩ (.int .i64 s3)).setCell ⟨gX, 3, none⟩ (.string s4)).setCell ⟨gX, 4, none⟩ (.int .i64 s5)).setCell ⟨gX, 5, none⟩ (.int .i64 s6))) ?hg ?ho ?hn ?hr ?_; (case ho => rfl); (case hg => rfl); (case hn => rfl); (case hr => first | (go_simp; done) | (go_simp; rfl)); intro w7 hw; have M7 := Aside0.mk (show w7.heap[gX]? = _ from hw ▸ spec_l20Entry.filled M6.out _ _ _ _ _ _); have hb := (show Below w5.heap.size w5 w7 from hw ▸ below6 HB6.out LgX.out _ _ _ _ _ _); clear hw; have E7 := Aside0.mk (blk_below E5.out hb); have CB7 := Aside0.mk (Kd.C_below CB5.out hb); have B7 := Aside0.mk (below_step B5.out hb); clear hb; obtain ⟨cgEw70, cgEw71, cgEw72, cgEw73, cgEw74, cgEw75, fgEw70, fgEw71, fgEw72, fgEw73, fgEw74, fgEw75⟩ := spec_l20Entry.cells6 E7.out; obtain ⟨cgXw70, cgXw71, cgXw72, cgXw73, cgXw74, cgXw75, fgXw70, fgXw71, fgXw72, fgXw73, fgXw74, fgXw75⟩ := spec_l20Entry.cells6 M7.out))
            obtain ⟨i0, hif, _, hsz, _⟩ := info_parts info3
            obtain ⟨A1, hcut, hA, hC⟩ := print_mid_of (P := Try.prog) (Value.int .i64) 0 27 3 .i64 .i64 Try.underlying27 hif hsz Ab cb b a nx CX.out.1 (by have := CX.out; omega) CX.out.2.2 CC.out
            have CUT := Aside0.mk (fun {W : World} (hW : Kd.C (Kd.int .i64) W Ab b.length b) => (show Kd.C (Kd.int .i64) W A1 _ ((b.take nx.toNat).drop a.toNat) from Kd.C_of_reads (h1 := fun _ => rfl) (hA W (Kd.reads_of_C hW))))
            have CUL := Aside0.mk hC
            obtain ⟨n1, hn1⟩ : ∃ n1, n1 = ((b.take nx.toNat).drop a.toNat).length := ⟨_, rfl⟩
            rw [← hn1] at hcut
            have HN := Aside0.mk hn1
            clear hA hC hif hsz hn1
            refine start_ (n := 12) (S := fun W => W.heap[gE]? = some (.cells (spec_l20Entry.row s1 s2 s3 s4 s5 s6) 31 (0, 0))) (ds := []) #[false, false, false, false, false, false, false, false, false, false, false, false] (by kernel_rfl) rfl rfl (blk_drew E7.out) (fun hHeld => ?_); refine with_tabW laws_FnDecodeEntry.tab12 laws_FnDecodeEntry.bits12 (fun HT_ HW_ => ?_)
            have B8 := Aside0.mk (below_drew B7.out)
            have CB8 := Aside0.mk (show Kd.C (Kd.int .i64) w7.drew Ab b.length b from CB7.out)
            generalize w7.drew = w8 at B8 CB8 hHeld ⊢
            refine take_ (i := 0) (N := some 62) (v := ?_) (a' := ?_) (bits 12 1) rfl rfl (take_ofW HT_.out HW_.out (by kernel_rfl)) (fun _ _ _ h => h) (Or.inl ⟨by rfl, ?_⟩) hHeld ?_ ?_
            rotate_left
            · intro w' hS
              have h0 : w'.cell? ⟨gE, 0, none⟩ = some (.int .i64 s1) := (blk_cell hS 0).trans rfl
              have h1 : w'.cell? ⟨gE, 1, none⟩ = some (.int .i64 s2) := (blk_cell hS 1).trans rfl
              have h2 : w'.cell? ⟨gE, 2, none⟩ = some (.int .i64 s3) := (blk_cell hS 2).trans rfl
              have h3 : w'.cell? ⟨gE, 3, none⟩ = some (.string s4) := (blk_cell hS 3).trans rfl
              have h4 : w'.cell? ⟨gE, 4, none⟩ = some (.int .i64 s5) := (blk_cell hS 4).trans rfl
              have h5 : w'.cell? ⟨gE, 5, none⟩ = some (.int .i64 s6) := (blk_cell hS 5).trans rfl
              go_simp
              with_reducible rfl
            rotate_left
            · simp only [Act.put, List.setIfInBounds_toArray, List.set_cons_zero, List.set_cons_succ, i64_w, i32_w]
              rfl
            refine one_ (i := 1) (N := some 63) (bits 12 3) rfl rfl (one_of HT_.out (by kernel_rfl)) (by decide) (fun K hK => ?_)
            refine goes_ Try.func24 (by kernel_rfl) rfl #[.agg #[.int .i64 s1, .int .i64 s2, .int .i64 s3, .string s4, .int .i64 s5, .int .i64 s6]] (by rfl) rfl rfl (by (try simp only [List.map_toArray, List.map_cons, List.map_nil]); rfl) ?_
            with_reducible refine (impl_EntryValid.calls k s1 s2 s3 s4 s5 s6 true w8 X4.out).mono ?_
            rintro e w9 ⟨rfl, hb⟩
            refine ⟨_, rfl, ?_⟩
            have E9 := blk_below hHeld hb
            have B9 := Aside0.mk (below_step B8.out hb)
            have CB9 := Aside0.mk (Kd.C_below CB8.out hb)
            clear hb hHeld
            refine hK.out _ _ E9 (fun hHeld => ?_)
            clear hK K
            refine norm_ (a' := ?_) ?_ ?_
            rotate_left
            · show Act.put _ (some 63) _ = _
              simp only [Act.put, List.setIfInBounds_toArray, List.set_cons_zero, List.set_cons_succ, i64_w, i32_w]
              rfl
            refine pure_ (i := 2) (N := some 64) (v := ?_) (a' := ?_) (bits 12 7) rfl rfl (any_of HT_.out (by kernel_rfl)) (fun _ _ _ h => h) (Or.inl ⟨by rfl, ?_⟩) ?_ ?_
            rotate_left
            · intro w'
              go_simp
              with_reducible rfl
            rotate_left
            · simp only [Act.put, List.setIfInBounds_toArray, List.set_cons_zero, List.set_cons_succ, i64_w, i32_w]
              rfl
            refine pure_ (i := 5) (N := some 67) (v := ?_) (a' := ?_) (bits 12 39) rfl rfl (any_of HT_.out (by kernel_rfl)) (fun _ _ _ h => h) (Or.inl ⟨by rfl, ?_⟩) ?_ ?_
            rotate_left
            · intro w'
              go_simp
              with_reducible rfl
            rotate_left
            · simp only [Act.put, List.setIfInBounds_toArray, List.set_cons_zero, List.set_cons_succ, i64_w, i32_w]
              rfl
            refine pure_ (i := 6) (N := some 68) (v := ?_) (a' := ?_) (bits 12 103) rfl rfl (any_of HT_.out (by kernel_rfl)) (fun _ _ _ h => h) (Or.inl ⟨by rfl, ?_⟩) ?_ ?_
            rotate_left
            · intro w'
              go_simp
              with_reducible rfl
            rotate_left
            · simp only [Act.put, List.setIfInBounds_toArray, List.set_cons_zero, List.set_cons_succ, i64_w, i32_w]
              rfl
            refine pure_ (i := 7) (N := some 69) (v := ?_) (a' := ?_) (bits 12 231) rfl rfl (any_of HT_.out (by kernel_rfl)) (fun _ _ _ h => h) (Or.inl ⟨by rfl, ?_⟩) ?_ ?_
            rotate_left
            · intro w'
              go_simp
              with_reducible rfl
            rotate_left
            · simp only [Act.put, List.setIfInBounds_toArray, List.set_cons_zero, List.set_cons_succ, i64_w, i32_w]
              rfl
            refine take_ (i := 3) (N := some 65) (v := ?_) (a' := ?_) (bits 12 239) rfl rfl (take_ofW HT_.out HW_.out (by kernel_rfl)) (fun _ _ _ h => h) (Or.inl ⟨by rfl, ?_⟩) hHeld ?_ ?_
            rotate_left
            · intro w' hS
              have h0 : w'.cell? ⟨gE, 0, none⟩ = some (.int .i64 s1) := (blk_cell hS 0).trans rfl
              have h1 : w'.cell? ⟨gE, 1, none⟩ = some (.int .i64 s2) := (blk_cell hS 1).trans rfl
              have h2 : w'.cell? ⟨gE, 2, none⟩ = some (.int .i64 s3) := (blk_cell hS 2).trans rfl
              have h3 : w'.cell? ⟨gE, 3, none⟩ = some (.string s4) := (blk_cell hS 3).trans rfl
              have h4 : w'.cell? ⟨gE, 4, none⟩ = some (.int .i64 s5) := (blk_cell hS 4).trans rfl
              have h5 : w'.cell? ⟨gE, 5, none⟩ = some (.int .i64 s6) := (blk_cell hS 5).trans rfl
              go_simp
              with_reducible rfl
            rotate_left
            · simp only [Act.put, List.setIfInBounds_toArray, List.set_cons_zero, List.set_cons_succ, i64_w, i32_w]
              rfl
            refine pure_ (i := 8) (N := some 70) (v := ?_) (a' := ?_) (bits 12 495) rfl rfl (any_of HT_.out (by kernel_rfl)) (fun _ _ _ h => h) (Or.inl ⟨by rfl, ?_⟩) ?_ ?_
            rotate_left
            · intro w'
              go_simp
              with_reducible rfl
            rotate_left
            · simp only [Act.put, List.setIfInBounds_toArray, List.set_cons_zero, List.set_cons_succ, i64_w, i32_w]
              rfl
            refine one_ (i := 4) (N := some 66) (bits 12 511) rfl rfl (one_of HT_.out (by kernel_rfl)) (by decide) (fun K hK => ?_)
            refine goes_ Try.func14 (by kernel_rfl) rfl #[.agg #[.int .i64 s1, .int .i64 s2, .int .i64 s3, .string s4, .int .i64 s5, .int .i64 s6]] (by rfl) rfl rfl (by (try simp only [List.map_toArray, List.map_cons, List.map_nil]); rfl) ?_
            with_reducible refine (impl_EncodeEntry.calls k s1 s2 s3 s4 s5 s6 eb w9 X5.out).mono ?_
            rintro e w10 ⟨v10, rfl, ho, hb⟩
            refine ⟨_, rfl, ?_⟩
            obtain ⟨Ae, ce, eo⟩ := Kd.R_slice ho
            subst eo
            have CE := Aside0.mk (Kd.R_reads' ho).2.2
            have CEL := Aside0.mk (Kd.R_reads' ho).2.1
            have E10 := blk_below hHeld hb
            have B10 := Aside0.mk (below_step B9.out hb)
            have CB10 := Aside0.mk (Kd.C_below CB9.out hb)
            clear ho hb hHeld
            refine hK.out _ _ E10 (fun hHeld => ?_)
            clear hK K
            refine norm_ (a' := ?_) ?_ ?_
            rotate_left
            · show Act.put _ (some 66) _ = _
              simp only [Act.put, List.setIfInBounds_toArray, List.set_cons_zero, List.set_cons_succ, i64_w, i32_w]
              rfl
            refine one_ (i := 9) (N := some 71) (bits 12 1023) rfl rfl (one_of HT_.out (by kernel_rfl)) (by decide) (fun K hK => ?_)
            refine goes_ Try.func23 (by kernel_rfl) rfl #[.slice Ae eb.length ce, .slice A1 n1 (cb - a.toNat)] (by rfl) rfl rfl (by (try simp only [List.map_toArray, List.map_cons, List.map_nil]); rfl) ?_
            rw [HN.out]
            with_reducible refine (laws_sameInts.calls k _ _ eb _ _ ((b.take nx.toNat).drop a.toNat) true w10 CE.out CEL.out (CUT.out CB10.out) CUL.out X6.out).mono ?_
            rintro e w11 ⟨rfl, ⟨nd, hw⟩⟩
            refine ⟨_, rfl, ?_⟩
            have hb := (show Below w10.heap.size w10 w11 from hw ▸ pw_below_drewN (Below.refl _ _) nd)
            have E11 := blk_below hHeld hb
            have B11 := Aside0.mk (below_step B10.out hb)
            clear hb hw hHeld
            refine hK.out _ _ E11 (fun hHeld => ?_)
            clear hK K
            refine norm_ (a' := ?_) ?_ ?_
            rotate_left
            · show Act.put _ (some 71) _ = _
              simp only [Act.put, List.setIfInBounds_toArray, List.set_cons_zero, List.set_cons_succ, i64_w, i32_w]
              rfl
            refine pure_ (i := 10) (N := some 72) (v := ?_) (a' := ?_) (bits 12 2047) rfl rfl (any_of HT_.out (by kernel_rfl)) (fun _ _ _ h => h) (Or.inl ⟨by rfl, ?_⟩) ?_ ?_
            rotate_left
            · intro w'
              go_simp
              with_reducible rfl
            rotate_left
            · simp only [Act.put, List.setIfInBounds_toArray, List.set_cons_zero, List.set_cons_succ, i64_w, i32_w]
              rfl
            refine pure_ (i := 11) (N := some 2) (v := ?_) (a' := ?_) (bits 12 4095) rfl rfl (any_of HT_.out (by kernel_rfl)) (fun _ _ _ h => h) (Or.inl ⟨by rfl, ?_⟩) ?_ ?_
            rotate_left
            · intro w'
              go_simp
              with_reducible rfl
            rotate_left
            · simp only [Act.put, List.setIfInBounds_toArray, List.set_cons_zero, List.set_cons_succ, i64_w, i32_w]
              rfl
            refine done_ (done_of HT_.out (by kernel_rfl)) ?_
            try go_wp2
            go_ret
            exact ⟨rfl, B11.out⟩
          · rw [if_neg hj] at h
            cases h
        · rw [if_neg hc] at h
          cases h
    · rw [if_neg hd] at h
      cases h

end Go.Proofs.Ytlimhkjnnpmpkaa.PFnDecodeEntry
