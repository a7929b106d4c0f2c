/- impl_ReadFrame by hand (the printed text of this function does not build): the entry that is there,framed again and held against the bytes. -/
import Derived.Test.YtlimhkjnnpmpkaaPFnReadFramex0
import Derived.Test.YtlimhkjnnpmpkaaPFnReadFramex8
import Derived.Test.YtlimhkjnnpmpkaaPFnReadFramex9
import Derived.Test.YtlimhkjnnpmpkaaPFnReadFramex17
import Derived.Test.YtlimhkjnnpmpkaaPFnReadFramex19
import Derived.Test.YtlimhkjnnpmpkaaPFnReadFramex20
namespace Go.Proofs.Ytlimhkjnnpmpkaa.PFnReadFrame
open Go.RowKit Go.Proofs.YtlimhkjnnpmpkaaW.PrintWords Go.Proofs.YtlimhkjnnpmpkaaW.PrintLast Go.Proofs.YtlimhkjnnpmpkaaW.PrintMore
set_option linter.unusedVariables false
set_option linter.unusedSimpArgs false

/-- six cells of an entry -/
def impl_ReadFrame.row (c s kd : Int) (t : ByteArray) (v o : Int) : Array Value:=#[.int .i64 c,.int .i64 s,.int .i64 kd,.string t,.int .i64 v,.int .i64 o]
def impl_ReadFrame.none_ : Option (Int × Int × Int × ByteArray × Int × Int × Int):=some (0,0,0,⟨#[]⟩,0,0,-1)
/-- The place of the result holds zeros,the entry read lies in a block of its own. -/
structure impl_ReadFrame.At (w W : World) (gR gE : Nat) (cs : Array Value) : Prop where
  res : W.heap[gR]?=some (.cells (impl_ReadFrame.row 0 0 0 ⟨#[]⟩ 0 0) 31 (0,0))
  ent : W.heap[gE]?=some (.cells cs 31 (0,0))
  bel : Below w.heap.size w W
  lowR : w.heap.size≤gR
  lowE : w.heap.size≤gE
  ne : gR ≠ gE
theorem impl_ReadFrame.At.store {w W : World} {gR gE : Nat} {cs cs' : Array Value} (h : impl_ReadFrame.At w W gR gE cs) (i : Nat) (u : Value) (e : cs.setIfInBounds i u=cs') : impl_ReadFrame.At w (W.setCell ⟨gE,i,none⟩ u) gR gE cs' :=
  ⟨blk_far h.res h.ne u,blk_put h.ent i u e,below_set h.bel h.lowE,h.lowR,h.lowE,h.ne⟩
theorem impl_ReadFrame.At.on {w W w' : World} {gR gE : Nat} {cs : Array Value} (h : impl_ReadFrame.At w W gR gE cs) (hb : Below W.heap.size W w') : impl_ReadFrame.At w w' gR gE cs :=
  ⟨blk_below h.res hb,blk_below h.ent hb,below_step h.bel hb,h.lowR,h.lowE,h.ne⟩
theorem impl_ReadFrame.At.drawn {w W w' : World} {gR gE : Nat} {cs : Array Value} (h : impl_ReadFrame.At w W gR gE cs) {nd : Nat} (e : w'=W.drewN nd) : impl_ReadFrame.At w w' gR gE cs:=by
  rw [e]
  exact h.on (pw_below_drewN (Below.refl _ _) nd)
theorem impl_ReadFrame.At.all {w W : World} {gR gE : Nat} (h : impl_ReadFrame.At w W gR gE (impl_ReadFrame.row 0 0 0 ⟨#[]⟩ 0 0)) (c s kd : Int) (t : ByteArray) (v o : Int) :
    impl_ReadFrame.At w ((((((W.setCell ⟨gE,0,none⟩ (.int .i64 c)).setCell ⟨gE,1,none⟩ (.int .i64 s)).setCell ⟨gE,2,none⟩ (.int .i64 kd)).setCell ⟨gE,3,none⟩ (.string t)).setCell ⟨gE,4,none⟩ (.int .i64 v)).setCell ⟨gE,5,none⟩ (.int .i64 o)) gR gE (impl_ReadFrame.row c s kd t v o) :=
  (((((h.store 0 _ rfl).store 1 _ rfl).store 2 _ rfl).store 3 _ rfl).store 4 _ rfl).store 5 _ rfl
theorem impl_ReadFrame.filled {W : World} {gR : Nat} (h : W.heap[gR]?=some (.cells (impl_ReadFrame.row 0 0 0 ⟨#[]⟩ 0 0) 31 (0,0))) (c s kd : Int) (t : ByteArray) (v o : Int) :
    ((((((W.setCell ⟨gR,0,none⟩ (.int .i64 c)).setCell ⟨gR,1,none⟩ (.int .i64 s)).setCell ⟨gR,2,none⟩ (.int .i64 kd)).setCell ⟨gR,3,none⟩ (.string t)).setCell ⟨gR,4,none⟩ (.int .i64 v)).setCell ⟨gR,5,none⟩ (.int .i64 o)).heap[gR]? =
      some (.cells #[.int .i64 c,.int .i64 s,.int .i64 kd,.string t,.int .i64 v,.int .i64 o] 31 (0,0)) :=
  blk_put (blk_put (blk_put (blk_put (blk_put (blk_put h 0 _ rfl) 1 _ rfl) 2 _ rfl) 3 _ rfl) 4 _ rfl) 5 _ rfl
theorem impl_ReadFrame.below {w W : World} {gR : Nat} (h : Below w.heap.size w W) (hg : w.heap.size≤gR) (c s kd : Value) (t v o : Value) :
    Below w.heap.size w ((((((W.setCell ⟨gR,0,none⟩ c).setCell ⟨gR,1,none⟩ s).setCell ⟨gR,2,none⟩ kd).setCell ⟨gR,3,none⟩ t).setCell ⟨gR,4,none⟩ v).setCell ⟨gR,5,none⟩ o) :=
  below_set (below_set (below_set (below_set (below_set (below_set h hg) hg) hg) hg) hg) hg
def impl_ReadFrame.judge (k : Nat) (b : List Int) (a : Int) (e : Int × Int × Int × ByteArray × Int × Int × Int) (fr : List Int) : Option (Int × Int × Int × ByteArray × Int × Int × Int) :=
  if (fr.length : Int) > wrap64 ((b.length : Int) - a) then impl_ReadFrame.none_
  else if 0≤a∧a≤wrap64 (a + (fr.length : Int))∧wrap64 (a + (fr.length : Int))≤(b.length : Int) then
    (slices_Equal_int_int.f k fr ((b.take (wrap64 (a + (fr.length : Int))).toNat).drop a.toNat)).bind fun q =>
      if q=true then some (e.1,e.2.1,e.2.2.1,e.2.2.2.1,e.2.2.2.2.1,e.2.2.2.2.2.1,wrap64 (a + (fr.length : Int))) else impl_ReadFrame.none_
  else none
def impl_ReadFrame.f (k : Nat) (b : List Int) (a n : Int) : Option (Int × Int × Int × ByteArray × Int × Int × Int) :=
  if 0≤n∧n < 24 then (impl_BytesValid.f k b).bind fun q=>if q=true then (if 0≤a∧a < (b.length : Int) then
    (impl_DecodeNumber.f k b a).bind fun x=>(impl_DecodeNumber.f k b x.2).bind fun y=>(impl_DecodeEntry.f k b y.2).bind fun e =>
      if e.2.2.2.2.2.2 < 0 then impl_ReadFrame.none_ else (impl_FrameEntry.f k n e.1 e.2.1 e.2.2.1 e.2.2.2.1 e.2.2.2.2.1 e.2.2.2.2.2.1).bind fun fr=>impl_ReadFrame.judge k b a e fr
    else impl_ReadFrame.none_) else impl_ReadFrame.none_ else impl_ReadFrame.none_
theorem impl_ReadFrame.mono : ∀ a0 a1 a2 k,LeO (impl_ReadFrame.f k a0 a1 a2) (impl_ReadFrame.f (k + 1) a0 a1 a2):=by
  intro a0 a1 a2 k
  unfold impl_ReadFrame.f
  refine LeO.ite (LeO.bind (impl_BytesValid.mono _ _) fun _=>LeO.ite (LeO.ite ?_ (LeO.refl _)) (LeO.refl _)) (LeO.refl _)
  refine LeO.bind (impl_DecodeNumber.mono _ _ _) fun _=>LeO.bind (impl_DecodeNumber.mono _ _ _) fun _=>LeO.bind (impl_DecodeEntry.mono _ _ _) fun _=>LeO.ite (LeO.refl _) (LeO.bind (impl_FrameEntry.mono _ _ _ _ _ _ _ _) fun _=>?_)
  unfold impl_ReadFrame.judge
  exact LeO.ite (LeO.refl _) (LeO.ite (LeO.bind (slices_Equal_int_int.mono _ _ _) fun _=>LeO.refl _) (LeO.refl _))

/-- the cells of a block of six -/
theorem impl_ReadFrame.cells6 {W : World} {g : Nat} {c s kd : Int} {t : ByteArray} {v o : Int} (h : W.heap[g]?=some (.cells #[.int .i64 c,.int .i64 s,.int .i64 kd,.string t,.int .i64 v,.int .i64 o] 31 (0,0))) :
    W.cell? ⟨g,0,none⟩=some (.int .i64 c)∧W.cell? ⟨g,1,none⟩=some (.int .i64 s)∧W.cell? ⟨g,2,none⟩=some (.int .i64 kd)∧W.cell? ⟨g,3,none⟩=some (.string t)∧W.cell? ⟨g,4,none⟩=some (.int .i64 v)∧W.cell? ⟨g,5,none⟩=some (.int .i64 o) ∧
      W.frozen? ⟨g,0,none⟩=false∧W.frozen? ⟨g,1,none⟩=false∧W.frozen? ⟨g,2,none⟩=false∧W.frozen? ⟨g,3,none⟩=false∧W.frozen? ⟨g,4,none⟩=false∧W.frozen? ⟨g,5,none⟩=false :=
  ⟨(blk_cell h 0).trans rfl,(blk_cell h 1).trans rfl,(blk_cell h 2).trans rfl,(blk_cell h 3).trans rfl,(blk_cell h 4).trans rfl,(blk_cell h 5).trans rfl,blk_frozen h 0,blk_frozen h 1,blk_frozen h 2,blk_frozen h 3,blk_frozen h 4,blk_frozen h 5⟩

set_option maxHeartbeats 2000000 in
set_option maxRecDepth 100000 in
theorem impl_ReadFrame.calls (k : Nat) (A0 : Option Addr) (c0 : Nat) (l0 : List Int) (a1 : Int) (a2 : Int) (r1 : Int) (r2 : Int) (r3 : Int) (r4 : ByteArray) (r5 : Int) (r6 : Int) (r7 : Int) (w : World) (hr0 : Kd.C (Kd.int .i64) w A0 l0.length l0) (hc0 : l0.length≤c0) (h : impl_ReadFrame.f k l0 a1 a2=some (r1,r2,r3,r4,r5,r6,r7)) :
    Calls Try.prog 30 #[.slice A0 l0.length c0,.int .i64 a1,.int .i64 a2] w fun e w'=>e=.returned (.tuple #[.agg #[.int .i64 r1,.int .i64 r2,.int .i64 r3,.string r4,.int .i64 r5,.int .i64 r6],.int .i64 r7])∧Below w.heap.size w w':=by
  have hu:=Try.underlying31
  have HR0:=Aside0.mk hr0
  have HC0:=Aside0.mk hc0
  clear hr0 hc0
  unfold impl_ReadFrame.f at h
  by_cases c1 : a2 < 0
  · rw [if_neg (by omega)] at h
    obtain ⟨rfl,rfl,rfl,rfl,rfl,rfl,rfl⟩ : r1=0∧r2=0∧r3=0∧r4=⟨#[]⟩∧r5=0∧r6=0∧r7=-1:=by simpa [eq_comm,impl_ReadFrame.none_] using h
    clear h
    have d1 : decide (a2 < 0)=true:=decide_eq_true c1
    clear c1
    go_enter Try.func30,Try.ntmps30
    go_wp2_with (first
      | (((with_reducible refine gate_dst (N:=6) rfl ?_);refine box_event ?hg (N:=6) ?hd (cs:=#[.int .i64 0,.int .i64 0,.int .i64 0,.string (⟨#[]⟩ : ByteArray),.int .i64 0,.int .i64 0]) (t:=31) ?hr ?_;(case hd=>rfl);(case hg=>rfl);(case hr=>first | (go_simp;done) | (go_simp;rfl)));intro gR hgR w1 h1 hb1;have S:=Aside0.mk h1;have B:=Aside0.mk hb1;have L:=Aside0.mk (Nat.le_of_eq hgR.symm);clear h1 hb1 hgR;have gRw10 : w1.cell? ⟨gR,0,none⟩=some (.int .i64 0):=(blk_cell S.out 0).trans rfl;have fgRw10:=blk_frozen S.out 0;have gRw11 : w1.cell? ⟨gR,1,none⟩=some (.int .i64 0):=(blk_cell S.out 1).trans rfl;have fgRw11:=blk_frozen S.out 1;have gRw12 : w1.cell? ⟨gR,2,none⟩=some (.int .i64 0):=(blk_cell S.out 2).trans rfl;have fgRw12:=blk_frozen S.out 2;have gRw13 : w1.cell? ⟨gR,3,none⟩=some (.string (⟨#[]⟩ : ByteArray)):=(blk_cell S.out 3).trans rfl;have fgRw13:=blk_frozen S.out 3;have gRw14 : w1.cell? ⟨gR,4,none⟩=some (.int .i64 0):=(blk_cell S.out 4).trans rfl;have fgRw14:=blk_frozen S.out 4;have gRw15 : w1.cell? ⟨gR,5,none⟩=some (.int .i64 0):=(blk_cell S.out 5).trans rfl;have fgRw15:=blk_frozen S.out 5))
    refine bodyPost_ret (results_ct rfl _ _ gR 31 _ (0,0) _ rfl (impl_ReadFrame.filled S.out 0 0 0 ⟨#[]⟩ 0 0) Try.underlying31 rfl (by kernel_rfl)) rfl ?_
    exact ⟨rfl,impl_ReadFrame.below B.out L.out _ _ _ _ _ _⟩
  by_cases c2 : 24≤a2
  · rw [if_neg (by omega)] at h
    obtain ⟨rfl,rfl,rfl,rfl,rfl,rfl,rfl⟩ : r1=0∧r2=0∧r3=0∧r4=⟨#[]⟩∧r5=0∧r6=0∧r7=-1:=by simpa [eq_comm,impl_ReadFrame.none_] using h
    clear h
    have d1 : decide (a2 < 0)=false:=decide_eq_false c1
    have d2 : decide (24≤a2)=true:=decide_eq_true c2
    clear c1 c2
    go_enter Try.func30,Try.ntmps30
    go_wp2_with (first
      | (((with_reducible refine gate_dst (N:=6) rfl ?_);refine box_event ?hg (N:=6) ?hd (cs:=#[.int .i64 0,.int .i64 0,.int .i64 0,.string (⟨#[]⟩ : ByteArray),.int .i64 0,.int .i64 0]) (t:=31) ?hr ?_;(case hd=>rfl);(case hg=>rfl);(case hr=>first | (go_simp;done) | (go_simp;rfl)));intro gR hgR w1 h1 hb1;have S:=Aside0.mk h1;have B:=Aside0.mk hb1;have L:=Aside0.mk (Nat.le_of_eq hgR.symm);clear h1 hb1 hgR;have gRw10 : w1.cell? ⟨gR,0,none⟩=some (.int .i64 0):=(blk_cell S.out 0).trans rfl;have fgRw10:=blk_frozen S.out 0;have gRw11 : w1.cell? ⟨gR,1,none⟩=some (.int .i64 0):=(blk_cell S.out 1).trans rfl;have fgRw11:=blk_frozen S.out 1;have gRw12 : w1.cell? ⟨gR,2,none⟩=some (.int .i64 0):=(blk_cell S.out 2).trans rfl;have fgRw12:=blk_frozen S.out 2;have gRw13 : w1.cell? ⟨gR,3,none⟩=some (.string (⟨#[]⟩ : ByteArray)):=(blk_cell S.out 3).trans rfl;have fgRw13:=blk_frozen S.out 3;have gRw14 : w1.cell? ⟨gR,4,none⟩=some (.int .i64 0):=(blk_cell S.out 4).trans rfl;have fgRw14:=blk_frozen S.out 4;have gRw15 : w1.cell? ⟨gR,5,none⟩=some (.int .i64 0):=(blk_cell S.out 5).trans rfl;have fgRw15:=blk_frozen S.out 5))
    refine bodyPost_ret (results_ct rfl _ _ gR 31 _ (0,0) _ rfl (impl_ReadFrame.filled S.out 0 0 0 ⟨#[]⟩ 0 0) Try.underlying31 rfl (by kernel_rfl)) rfl ?_
    exact ⟨rfl,impl_ReadFrame.below B.out L.out _ _ _ _ _ _⟩
  rw [if_pos (by omega)] at h
  have d1 : decide (a2 < 0)=false:=decide_eq_false c1
  have d2 : decide (24≤a2)=false:=decide_eq_false c2
  clear c1 c2
  obtain ⟨q,hq,h⟩:=Option.bind_eq_some_iff.mp h
  have Q:=Aside0.mk hq
  clear hq
  cases q with
  | false =>
    rw [if_neg (by simp)] at h
    obtain ⟨rfl,rfl,rfl,rfl,rfl,rfl,rfl⟩ : r1=0∧r2=0∧r3=0∧r4=⟨#[]⟩∧r5=0∧r6=0∧r7=-1:=by simpa [eq_comm,impl_ReadFrame.none_] using h
    clear h
    go_enter Try.func30,Try.ntmps30
    go_wp2_with (first
      | (((with_reducible refine gate_dst (N:=6) rfl ?_);refine box_event ?hg (N:=6) ?hd (cs:=#[.int .i64 0,.int .i64 0,.int .i64 0,.string (⟨#[]⟩ : ByteArray),.int .i64 0,.int .i64 0]) (t:=31) ?hr ?_;(case hd=>rfl);(case hg=>rfl);(case hr=>first | (go_simp;done) | (go_simp;rfl)));intro gR hgR w1 h1 hb1;have S:=Aside0.mk h1;have B:=Aside0.mk hb1;have L:=Aside0.mk (Nat.le_of_eq hgR.symm);clear h1 hb1 hgR;have gRw10 : w1.cell? ⟨gR,0,none⟩=some (.int .i64 0):=(blk_cell S.out 0).trans rfl;have fgRw10:=blk_frozen S.out 0;have gRw11 : w1.cell? ⟨gR,1,none⟩=some (.int .i64 0):=(blk_cell S.out 1).trans rfl;have fgRw11:=blk_frozen S.out 1;have gRw12 : w1.cell? ⟨gR,2,none⟩=some (.int .i64 0):=(blk_cell S.out 2).trans rfl;have fgRw12:=blk_frozen S.out 2;have gRw13 : w1.cell? ⟨gR,3,none⟩=some (.string (⟨#[]⟩ : ByteArray)):=(blk_cell S.out 3).trans rfl;have fgRw13:=blk_frozen S.out 3;have gRw14 : w1.cell? ⟨gR,4,none⟩=some (.int .i64 0):=(blk_cell S.out 4).trans rfl;have fgRw14:=blk_frozen S.out 4;have gRw15 : w1.cell? ⟨gR,5,none⟩=some (.int .i64 0):=(blk_cell S.out 5).trans rfl;have fgRw15:=blk_frozen S.out 5)
      | (go_at_call 42;(with_reducible refine (impl_BytesValid.calls k _ _ l0 false _ ?side1 ?side2 Q.out).mono ?_);(case side1=>exact Kd.C_below HR0.out B.out);(case side2=>exact HC0.out);rintro e w' ⟨rfl,⟨nd0,rfl⟩⟩))
    refine bodyPost_ret (results_ct rfl _ _ gR 31 _ (0,0) _ rfl (impl_ReadFrame.filled (blk_drewN S.out nd0) 0 0 0 ⟨#[]⟩ 0 0) Try.underlying31 rfl (by kernel_rfl)) rfl ?_
    exact ⟨rfl,impl_ReadFrame.below (pw_below_drewN B.out nd0) L.out _ _ _ _ _ _⟩
  | true =>
    rw [if_pos rfl] at h
    by_cases c3 : a1 < 0
    · rw [if_neg (by omega)] at h
      obtain ⟨rfl,rfl,rfl,rfl,rfl,rfl,rfl⟩ : r1=0∧r2=0∧r3=0∧r4=⟨#[]⟩∧r5=0∧r6=0∧r7=-1:=by simpa [eq_comm,impl_ReadFrame.none_] using h
      clear h
      have d3 : decide (a1 < 0)=true:=decide_eq_true c3
      clear c3
      go_enter Try.func30,Try.ntmps30
      go_wp2_with (first
        | (((with_reducible refine gate_dst (N:=6) rfl ?_);refine box_event ?hg (N:=6) ?hd (cs:=#[.int .i64 0,.int .i64 0,.int .i64 0,.string (⟨#[]⟩ : ByteArray),.int .i64 0,.int .i64 0]) (t:=31) ?hr ?_;(case hd=>rfl);(case hg=>rfl);(case hr=>first | (go_simp;done) | (go_simp;rfl)));intro gR hgR w1 h1 hb1;have S:=Aside0.mk h1;have B:=Aside0.mk hb1;have L:=Aside0.mk (Nat.le_of_eq hgR.symm);clear h1 hb1 hgR;have gRw10 : w1.cell? ⟨gR,0,none⟩=some (.int .i64 0):=(blk_cell S.out 0).trans rfl;have fgRw10:=blk_frozen S.out 0;have gRw11 : w1.cell? ⟨gR,1,none⟩=some (.int .i64 0):=(blk_cell S.out 1).trans rfl;have fgRw11:=blk_frozen S.out 1;have gRw12 : w1.cell? ⟨gR,2,none⟩=some (.int .i64 0):=(blk_cell S.out 2).trans rfl;have fgRw12:=blk_frozen S.out 2;have gRw13 : w1.cell? ⟨gR,3,none⟩=some (.string (⟨#[]⟩ : ByteArray)):=(blk_cell S.out 3).trans rfl;have fgRw13:=blk_frozen S.out 3;have gRw14 : w1.cell? ⟨gR,4,none⟩=some (.int .i64 0):=(blk_cell S.out 4).trans rfl;have fgRw14:=blk_frozen S.out 4;have gRw15 : w1.cell? ⟨gR,5,none⟩=some (.int .i64 0):=(blk_cell S.out 5).trans rfl;have fgRw15:=blk_frozen S.out 5)
        | (go_at_call 42;(with_reducible refine (impl_BytesValid.calls k _ _ l0 true _ ?side1 ?side2 Q.out).mono ?_);(case side1=>exact Kd.C_below HR0.out B.out);(case side2=>exact HC0.out);rintro e w' ⟨rfl,⟨nd0,rfl⟩⟩))
      refine bodyPost_ret (results_ct rfl _ _ gR 31 _ (0,0) _ rfl (impl_ReadFrame.filled (blk_drewN S.out nd0) 0 0 0 ⟨#[]⟩ 0 0) Try.underlying31 rfl (by kernel_rfl)) rfl ?_
      exact ⟨rfl,impl_ReadFrame.below (pw_below_drewN B.out nd0) L.out _ _ _ _ _ _⟩
    by_cases c4 : (l0.length : Int)≤a1
    · rw [if_neg (by omega)] at h
      obtain ⟨rfl,rfl,rfl,rfl,rfl,rfl,rfl⟩ : r1=0∧r2=0∧r3=0∧r4=⟨#[]⟩∧r5=0∧r6=0∧r7=-1:=by simpa [eq_comm,impl_ReadFrame.none_] using h
      clear h
      have d3 : decide (a1 < 0)=false:=decide_eq_false c3
      have d4 : decide ((l0.length : Int)≤a1)=true:=decide_eq_true c4
      clear c3 c4
      go_enter Try.func30,Try.ntmps30
      go_wp2_with (first
        | (((with_reducible refine gate_dst (N:=6) rfl ?_);refine box_event ?hg (N:=6) ?hd (cs:=#[.int .i64 0,.int .i64 0,.int .i64 0,.string (⟨#[]⟩ : ByteArray),.int .i64 0,.int .i64 0]) (t:=31) ?hr ?_;(case hd=>rfl);(case hg=>rfl);(case hr=>first | (go_simp;done) | (go_simp;rfl)));intro gR hgR w1 h1 hb1;have S:=Aside0.mk h1;have B:=Aside0.mk hb1;have L:=Aside0.mk (Nat.le_of_eq hgR.symm);clear h1 hb1 hgR;have gRw10 : w1.cell? ⟨gR,0,none⟩=some (.int .i64 0):=(blk_cell S.out 0).trans rfl;have fgRw10:=blk_frozen S.out 0;have gRw11 : w1.cell? ⟨gR,1,none⟩=some (.int .i64 0):=(blk_cell S.out 1).trans rfl;have fgRw11:=blk_frozen S.out 1;have gRw12 : w1.cell? ⟨gR,2,none⟩=some (.int .i64 0):=(blk_cell S.out 2).trans rfl;have fgRw12:=blk_frozen S.out 2;have gRw13 : w1.cell? ⟨gR,3,none⟩=some (.string (⟨#[]⟩ : ByteArray)):=(blk_cell S.out 3).trans rfl;have fgRw13:=blk_frozen S.out 3;have gRw14 : w1.cell? ⟨gR,4,none⟩=some (.int .i64 0):=(blk_cell S.out 4).trans rfl;have fgRw14:=blk_frozen S.out 4;have gRw15 : w1.cell? ⟨gR,5,none⟩=some (.int .i64 0):=(blk_cell S.out 5).trans rfl;have fgRw15:=blk_frozen S.out 5)
        | (go_at_call 42;(with_reducible refine (impl_BytesValid.calls k _ _ l0 true _ ?side1 ?side2 Q.out).mono ?_);(case side1=>exact Kd.C_below HR0.out B.out);(case side2=>exact HC0.out);rintro e w' ⟨rfl,⟨nd0,rfl⟩⟩))
      refine bodyPost_ret (results_ct rfl _ _ gR 31 _ (0,0) _ rfl (impl_ReadFrame.filled (blk_drewN S.out nd0) 0 0 0 ⟨#[]⟩ 0 0) Try.underlying31 rfl (by kernel_rfl)) rfl ?_
      exact ⟨rfl,impl_ReadFrame.below (pw_below_drewN B.out nd0) L.out _ _ _ _ _ _⟩
    rw [if_pos (by omega)] at h
    have d3 : decide (a1 < 0)=false:=decide_eq_false c3
    have d4 : decide ((l0.length : Int)≤a1)=false:=decide_eq_false c4
    clear c3 c4
    obtain ⟨⟨x,p1⟩,h1,h⟩:=Option.bind_eq_some_iff.mp h
    obtain ⟨⟨y,p2⟩,h2,h⟩:=Option.bind_eq_some_iff.mp h
    obtain ⟨⟨f1,f2,f3,f4,f5,f6,p3⟩,h3,h⟩:=Option.bind_eq_some_iff.mp h
    dsimp only at h2 h3 h
    have X1:=Aside0.mk h1
    have X2:=Aside0.mk h2
    have X3:=Aside0.mk h3
    clear h1 h2 h3
    by_cases c5 : p3 < 0
    · rw [if_pos c5] at h
      obtain ⟨rfl,rfl,rfl,rfl,rfl,rfl,rfl⟩ : r1=0∧r2=0∧r3=0∧r4=⟨#[]⟩∧r5=0∧r6=0∧r7=-1:=by simpa [eq_comm,impl_ReadFrame.none_] using h
      clear h
      have d5 : decide (p3 < 0)=true:=decide_eq_true c5
      clear c5
      go_enter Try.func30,Try.ntmps30
      go_wp2_with (first
        | (((with_reducible refine gate_dst (N:=6) rfl ?_);refine box_event ?hg (N:=6) ?hd (cs:=#[.int .i64 0,.int .i64 0,.int .i64 0,.string (⟨#[]⟩ : ByteArray),.int .i64 0,.int .i64 0]) (t:=31) ?hr ?_;(case hd=>rfl);(case hg=>rfl);(case hr=>first | (go_simp;done) | (go_simp;rfl)));intro gR hgR w1 h1 hb1;have S:=Aside0.mk h1;have B:=Aside0.mk hb1;have L:=Aside0.mk (Nat.le_of_eq hgR.symm);clear h1 hb1 hgR)
        | (go_at_call 42;(with_reducible refine (impl_BytesValid.calls k _ _ l0 true _ ?side1 ?side2 Q.out).mono ?_);(case side1=>exact Kd.C_below HR0.out B.out);(case side2=>exact HC0.out);rintro e w' ⟨rfl,⟨nd0,rfl⟩⟩)
        | (go_at_call 43;(with_reducible refine (impl_DecodeNumber.calls k _ _ l0 a1 x p1 _ ?side1 ?side2 X1.out).mono ?_);(case side1=>exact Kd.C_below HR0.out (pw_below_drewN B.out nd0));(case side2=>exact HC0.out);rintro e w' ⟨rfl,⟨nd1,rfl⟩⟩)
        | (go_at_call 43;(with_reducible refine (impl_DecodeNumber.calls k _ _ l0 p1 y p2 _ ?side1 ?side2 X2.out).mono ?_);(case side1=>exact Kd.C_below HR0.out (pw_below_drewN B.out (nd0 + nd1)));(case side2=>exact HC0.out);rintro e w' ⟨rfl,⟨nd2,rfl⟩⟩)
        | (go_at_call 20;(with_reducible refine (impl_DecodeEntry.calls k _ _ l0 p2 f1 f2 f3 f4 f5 f6 p3 _ ?side1 ?side2 X3.out).mono ?_);(case side1=>exact Kd.C_below HR0.out (pw_below_drewN B.out (nd0 + nd1 + nd2)));(case side2=>exact HC0.out);rintro e w2 ⟨rfl,hb⟩;have T:=Aside0.mk (blk_below (blk_drewN S.out (nd0 + nd1 + nd2)) hb);have C:=Aside0.mk (below_step (pw_below_drewN B.out (nd0 + nd1 + nd2)) hb);clear hb)
        | (((with_reducible refine gate_dst (N:=10) rfl ?_);refine box_event ?hg (N:=10) ?hd (cs:=#[.int .i64 0,.int .i64 0,.int .i64 0,.string (⟨#[]⟩ : ByteArray),.int .i64 0,.int .i64 0]) (t:=31) ?hr ?_;(case hd=>rfl);(case hg=>rfl);(case hr=>first | (go_simp;done) | (go_simp;rfl)));intro gE hgE w3 h3 hb3;have S0:=Aside0.mk (show impl_ReadFrame.At w w3 gR gE (impl_ReadFrame.row 0 0 0 ⟨#[]⟩ 0 0) from ⟨blk_below T.out hb3,h3,below_step C.out hb3,L.out,hgE ▸ below_size C.out,Nat.ne_of_lt (hgE ▸ blk_lt T.out)⟩);have nRE:=S0.out.ne;have nER:=S0.out.ne.symm;clear h3 hb3 hgE;obtain ⟨gEw30,gEw31,gEw32,gEw33,gEw34,gEw35,fgEw30,fgEw31,fgEw32,fgEw33,fgEw34,fgEw35⟩:=impl_ReadFrame.cells6 S0.out.ent;obtain ⟨gRw30,gRw31,gRw32,gRw33,gRw34,gRw35,fgRw30,fgRw31,fgRw32,fgRw33,fgRw34,fgRw35⟩:=impl_ReadFrame.cells6 S0.out.res))
      refine bodyPost_ret (results_ct rfl _ _ gR 31 _ (0,0) _ rfl (impl_ReadFrame.filled (S0.out.all f1 f2 f3 f4 f5 f6).res 0 0 0 ⟨#[]⟩ 0 0) Try.underlying31 rfl (by kernel_rfl)) rfl ?_
      exact ⟨rfl,impl_ReadFrame.below (S0.out.all f1 f2 f3 f4 f5 f6).bel S0.out.lowR _ _ _ _ _ _⟩
    rw [if_neg c5] at h
    have d5 : decide (p3 < 0)=false:=decide_eq_false c5
    clear c5
    obtain ⟨fr,h5,h⟩:=Option.bind_eq_some_iff.mp h
    have X5:=Aside0.mk h5
    clear h5
    unfold impl_ReadFrame.judge at h
    dsimp only at h
    by_cases c6 : (fr.length : Int) > wrap64 ((l0.length : Int) - a1)
    · rw [if_pos c6] at h
      obtain ⟨rfl,rfl,rfl,rfl,rfl,rfl,rfl⟩ : r1=0∧r2=0∧r3=0∧r4=⟨#[]⟩∧r5=0∧r6=0∧r7=-1:=by simpa [eq_comm,impl_ReadFrame.none_] using h
      clear h
      have d6 : decide (wrap64 ((l0.length : Int) - a1) < (fr.length : Int))=true:=decide_eq_true c6
      clear c6
      go_enter Try.func30,Try.ntmps30
      go_wp2_with (first
        | (((with_reducible refine gate_dst (N:=6) rfl ?_);refine box_event ?hg (N:=6) ?hd (cs:=#[.int .i64 0,.int .i64 0,.int .i64 0,.string (⟨#[]⟩ : ByteArray),.int .i64 0,.int .i64 0]) (t:=31) ?hr ?_;(case hd=>rfl);(case hg=>rfl);(case hr=>first | (go_simp;done) | (go_simp;rfl)));intro gR hgR w1 h1 hb1;have S:=Aside0.mk h1;have B:=Aside0.mk hb1;have L:=Aside0.mk (Nat.le_of_eq hgR.symm);clear h1 hb1 hgR)
        | (go_at_call 42;(with_reducible refine (impl_BytesValid.calls k _ _ l0 true _ ?side1 ?side2 Q.out).mono ?_);(case side1=>exact Kd.C_below HR0.out B.out);(case side2=>exact HC0.out);rintro e w' ⟨rfl,⟨nd0,rfl⟩⟩)
        | (go_at_call 43;(with_reducible refine (impl_DecodeNumber.calls k _ _ l0 a1 x p1 _ ?side1 ?side2 X1.out).mono ?_);(case side1=>exact Kd.C_below HR0.out (pw_below_drewN B.out nd0));(case side2=>exact HC0.out);rintro e w' ⟨rfl,⟨nd1,rfl⟩⟩)
        | (go_at_call 43;(with_reducible refine (impl_DecodeNumber.calls k _ _ l0 p1 y p2 _ ?side1 ?side2 X2.out).mono ?_);(case side1=>exact Kd.C_below HR0.out (pw_below_drewN B.out (nd0 + nd1)));(case side2=>exact HC0.out);rintro e w' ⟨rfl,⟨nd2,rfl⟩⟩)
        | (go_at_call 20;(with_reducible refine (impl_DecodeEntry.calls k _ _ l0 p2 f1 f2 f3 f4 f5 f6 p3 _ ?side1 ?side2 X3.out).mono ?_);(case side1=>exact Kd.C_below HR0.out (pw_below_drewN B.out (nd0 + nd1 + nd2)));(case side2=>exact HC0.out);rintro e w2 ⟨rfl,hb⟩;have T:=Aside0.mk (blk_below (blk_drewN S.out (nd0 + nd1 + nd2)) hb);have C:=Aside0.mk (below_step (pw_below_drewN B.out (nd0 + nd1 + nd2)) hb);clear hb)
        | (((with_reducible refine gate_dst (N:=10) rfl ?_);refine box_event ?hg (N:=10) ?hd (cs:=#[.int .i64 0,.int .i64 0,.int .i64 0,.string (⟨#[]⟩ : ByteArray),.int .i64 0,.int .i64 0]) (t:=31) ?hr ?_;(case hd=>rfl);(case hg=>rfl);(case hr=>first | (go_simp;done) | (go_simp;rfl)));intro gE hgE w3 h3 hb3;have S0:=Aside0.mk (show impl_ReadFrame.At w w3 gR gE (impl_ReadFrame.row 0 0 0 ⟨#[]⟩ 0 0) from ⟨blk_below T.out hb3,h3,below_step C.out hb3,L.out,hgE ▸ below_size C.out,Nat.ne_of_lt (hgE ▸ blk_lt T.out)⟩);have nRE:=S0.out.ne;have nER:=S0.out.ne.symm;clear h3 hb3 hgE;obtain ⟨gEw30,gEw31,gEw32,gEw33,gEw34,gEw35,fgEw30,fgEw31,fgEw32,fgEw33,fgEw34,fgEw35⟩:=impl_ReadFrame.cells6 S0.out.ent;obtain ⟨gRw30,gRw31,gRw32,gRw33,gRw34,gRw35,fgRw30,fgRw31,fgRw32,fgRw33,fgRw34,fgRw35⟩:=impl_ReadFrame.cells6 S0.out.res)
        | (go_at_call 28;(with_reducible refine (impl_FrameEntry.calls k a2 f1 f2 f3 f4 f5 f6 fr _ X5.out).mono ?_);rintro e w4 ⟨v4,rfl,ho,hb⟩;obtain ⟨Ao,co,eo⟩:=Kd.R_slice ho;subst eo;have HO:=Aside0.mk ho;have S1:=Aside0.mk ((S0.out.all f1 f2 f3 f4 f5 f6).on hb);clear hb ho;obtain ⟨gEw40,gEw41,gEw42,gEw43,gEw44,gEw45,fgEw40,fgEw41,fgEw42,fgEw43,fgEw44,fgEw45⟩:=impl_ReadFrame.cells6 S1.out.ent;obtain ⟨gRw40,gRw41,gRw42,gRw43,gRw44,gRw45,fgRw40,fgRw41,fgRw42,fgRw43,fgRw44,fgRw45⟩:=impl_ReadFrame.cells6 S1.out.res))
      refine bodyPost_ret (results_ct rfl _ _ gR 31 _ (0,0) _ rfl (impl_ReadFrame.filled S1.out.res 0 0 0 ⟨#[]⟩ 0 0) Try.underlying31 rfl (by kernel_rfl)) rfl ?_
      exact ⟨rfl,impl_ReadFrame.below S1.out.bel S1.out.lowR _ _ _ _ _ _⟩
    rw [if_neg c6] at h
    have d6 : decide (wrap64 ((l0.length : Int) - a1) < (fr.length : Int))=false:=decide_eq_false c6
    clear c6
    by_cases c7 : 0≤a1∧a1≤wrap64 (a1 + (fr.length : Int))∧wrap64 (a1 + (fr.length : Int))≤(l0.length : Int)
    · rw [if_pos c7] at h
      obtain ⟨z,hz,h⟩:=Option.bind_eq_some_iff.mp h
      have X6:=Aside0.mk hz
      clear hz
      obtain ⟨i0,hi,_,hsz,_⟩:=info_parts info3
      obtain ⟨A',hcut,hA,hC⟩:=print_mid_of (P:=Try.prog) (Value.int .i64) 0 27 3 .i64 .i64 Try.underlying27 hi hsz A0 c0 l0 a1 (wrap64 (a1 + (fr.length : Int))) c7.1 c7.2.1 c7.2.2 HC0.out
      have HA:=Aside0.mk (Kd.C_of_reads (h1:=fun _=>rfl) (hA _ (Kd.reads_of_C HR0.out)))
      have HCC:=Aside0.mk hC
      obtain ⟨n',hn'⟩ : ∃ n',n'=((l0.take (wrap64 (a1 + (fr.length : Int))).toNat).drop a1.toNat).length:=⟨_,rfl⟩
      rw [← hn'] at hcut
      have HN:=Aside0.mk hn'
      clear hn' hA hC hi hsz c7
      cases z with
      | true =>
        rw [if_pos rfl] at h
        obtain ⟨rfl,rfl,rfl,rfl,rfl,rfl,rfl⟩ : f1=r1∧f2=r2∧f3=r3∧f4=r4∧f5=r5∧f6=r6∧wrap64 (a1 + (fr.length : Int))=r7:=by simpa using h
        clear h
        go_enter Try.func30,Try.ntmps30
        go_wp2_with (first
          | (((with_reducible refine gate_dst (N:=6) rfl ?_);refine box_event ?hg (N:=6) ?hd (cs:=#[.int .i64 0,.int .i64 0,.int .i64 0,.string (⟨#[]⟩ : ByteArray),.int .i64 0,.int .i64 0]) (t:=31) ?hr ?_;(case hd=>rfl);(case hg=>rfl);(case hr=>first | (go_simp;done) | (go_simp;rfl)));intro gR hgR w1 h1 hb1;have S:=Aside0.mk h1;have B:=Aside0.mk hb1;have L:=Aside0.mk (Nat.le_of_eq hgR.symm);clear h1 hb1 hgR)
          | (go_at_call 42;(with_reducible refine (impl_BytesValid.calls k _ _ l0 true _ ?side1 ?side2 Q.out).mono ?_);(case side1=>exact Kd.C_below HR0.out B.out);(case side2=>exact HC0.out);rintro e w' ⟨rfl,⟨nd0,rfl⟩⟩)
          | (go_at_call 43;(with_reducible refine (impl_DecodeNumber.calls k _ _ l0 a1 x p1 _ ?side1 ?side2 X1.out).mono ?_);(case side1=>exact Kd.C_below HR0.out (pw_below_drewN B.out nd0));(case side2=>exact HC0.out);rintro e w' ⟨rfl,⟨nd1,rfl⟩⟩)
          | (go_at_call 43;(with_reducible refine (impl_DecodeNumber.calls k _ _ l0 p1 y p2 _ ?side1 ?side2 X2.out).mono ?_);(case side1=>exact Kd.C_below HR0.out (pw_below_drewN B.out (nd0 + nd1)));(case side2=>exact HC0.out);rintro e w' ⟨rfl,⟨nd2,rfl⟩⟩)
          | (go_at_call 20;(with_reducible refine (impl_DecodeEntry.calls k _ _ l0 p2 f1 f2 f3 f4 f5 f6 p3 _ ?side1 ?side2 X3.out).mono ?_);(case side1=>exact Kd.C_below HR0.out (pw_below_drewN B.out (nd0 + nd1 + nd2)));(case side2=>exact HC0.out);rintro e w2 ⟨rfl,hb⟩;have T:=Aside0.mk (blk_below (blk_drewN S.out (nd0 + nd1 + nd2)) hb);have C:=Aside0.mk (below_step (pw_below_drewN B.out (nd0 + nd1 + nd2)) hb);clear hb)
          | (((with_reducible refine gate_dst (N:=10) rfl ?_);refine box_event ?hg (N:=10) ?hd (cs:=#[.int .i64 0,.int .i64 0,.int .i64 0,.string (⟨#[]⟩ : ByteArray),.int .i64 0,.int .i64 0]) (t:=31) ?hr ?_;(case hd=>rfl);(case hg=>rfl);(case hr=>first | (go_simp;done) | (go_simp;rfl)));intro gE hgE w3 h3 hb3;have S0:=Aside0.mk (show impl_ReadFrame.At w w3 gR gE (impl_ReadFrame.row 0 0 0 ⟨#[]⟩ 0 0) from ⟨blk_below T.out hb3,h3,below_step C.out hb3,L.out,hgE ▸ below_size C.out,Nat.ne_of_lt (hgE ▸ blk_lt T.out)⟩);have nRE:=S0.out.ne;have nER:=S0.out.ne.symm;clear h3 hb3 hgE;obtain ⟨gEw30,gEw31,gEw32,gEw33,gEw34,gEw35,fgEw30,fgEw31,fgEw32,fgEw33,fgEw34,fgEw35⟩:=impl_ReadFrame.cells6 S0.out.ent;obtain ⟨gRw30,gRw31,gRw32,gRw33,gRw34,gRw35,fgRw30,fgRw31,fgRw32,fgRw33,fgRw34,fgRw35⟩:=impl_ReadFrame.cells6 S0.out.res)
          | (go_at_call 28;(with_reducible refine (impl_FrameEntry.calls k a2 f1 f2 f3 f4 f5 f6 fr _ X5.out).mono ?_);rintro e w4 ⟨v4,rfl,ho,hb⟩;obtain ⟨Ao,co,eo⟩:=Kd.R_slice ho;subst eo;have HO:=Aside0.mk ho;have S1:=Aside0.mk ((S0.out.all f1 f2 f3 f4 f5 f6).on hb);clear hb ho;obtain ⟨gEw40,gEw41,gEw42,gEw43,gEw44,gEw45,fgEw40,fgEw41,fgEw42,fgEw43,fgEw44,fgEw45⟩:=impl_ReadFrame.cells6 S1.out.ent;obtain ⟨gRw40,gRw41,gRw42,gRw43,gRw44,gRw45,fgRw40,fgRw41,fgRw42,fgRw43,fgRw44,fgRw45⟩:=impl_ReadFrame.cells6 S1.out.res)
          | (go_at_call 56;rw [HN.out];(with_reducible refine (slices_Equal_int_int.calls k _ _ fr _ _ ((l0.take (wrap64 (a1 + (fr.length : Int))).toNat).drop a1.toNat) true _ ?side1 ?side2 ?side3 ?side4 X6.out).mono ?_);(case side1=>exact (Kd.R_reads' HO.out).2.2);(case side2=>exact (Kd.R_reads' HO.out).2.1);(case side3=>exact Kd.C_below HA.out S1.out.bel);(case side4=>exact HCC.out);rintro e w5 ⟨rfl,⟨nd5,hw⟩⟩;have S2:=Aside0.mk (S1.out.drawn hw);clear hw;obtain ⟨gEw50,gEw51,gEw52,gEw53,gEw54,gEw55,fgEw50,fgEw51,fgEw52,fgEw53,fgEw54,fgEw55⟩:=impl_ReadFrame.cells6 S2.out.ent;obtain ⟨gRw50,gRw51,gRw52,gRw53,gRw54,gRw55,fgRw50,fgRw51,fgRw52,fgRw53,fgRw54,fgRw55⟩:=impl_ReadFrame.cells6 S2.out.res))
        refine bodyPost_ret (results_ct rfl _ _ gR 31 _ (0,0) _ rfl (impl_ReadFrame.filled S2.out.res _ _ _ _ _ _) Try.underlying31 rfl (by kernel_rfl)) rfl ?_
        exact ⟨rfl,impl_ReadFrame.below S2.out.bel S2.out.lowR _ _ _ _ _ _⟩
      | false =>
        rw [if_neg (by simp)] at h
        obtain ⟨rfl,rfl,rfl,rfl,rfl,rfl,rfl⟩ : r1=0∧r2=0∧r3=0∧r4=⟨#[]⟩∧r5=0∧r6=0∧r7=-1:=by simpa [eq_comm,impl_ReadFrame.none_] using h
        clear h
        go_enter Try.func30,Try.ntmps30
        go_wp2_with (first
          | (((with_reducible refine gate_dst (N:=6) rfl ?_);refine box_event ?hg (N:=6) ?hd (cs:=#[.int .i64 0,.int .i64 0,.int .i64 0,.string (⟨#[]⟩ : ByteArray),.int .i64 0,.int .i64 0]) (t:=31) ?hr ?_;(case hd=>rfl);(case hg=>rfl);(case hr=>first | (go_simp;done) | (go_simp;rfl)));intro gR hgR w1 h1 hb1;have S:=Aside0.mk h1;have B:=Aside0.mk hb1;have L:=Aside0.mk (Nat.le_of_eq hgR.symm);clear h1 hb1 hgR)
          | (go_at_call 42;(with_reducible refine (impl_BytesValid.calls k _ _ l0 true _ ?side1 ?side2 Q.out).mono ?_);(case side1=>exact Kd.C_below HR0.out B.out);(case side2=>exact HC0.out);rintro e w' ⟨rfl,⟨nd0,rfl⟩⟩)
          | (go_at_call 43;(with_reducible refine (impl_DecodeNumber.calls k _ _ l0 a1 x p1 _ ?side1 ?side2 X1.out).mono ?_);(case side1=>exact Kd.C_below HR0.out (pw_below_drewN B.out nd0));(case side2=>exact HC0.out);rintro e w' ⟨rfl,⟨nd1,rfl⟩⟩)
          | (go_at_call 43;(with_reducible refine (impl_DecodeNumber.calls k _ _ l0 p1 y p2 _ ?side1 ?side2 X2.out).mono ?_);(case side1=>exact Kd.C_below HR0.out (pw_below_drewN B.out (nd0 + nd1)));(case side2=>exact HC0.out);rintro e w' ⟨rfl,⟨nd2,rfl⟩⟩)
          | (go_at_call 20;(with_reducible refine (impl_DecodeEntry.calls k _ _ l0 p2 f1 f2 f3 f4 f5 f6 p3 _ ?side1 ?side2 X3.out).mono ?_);(case side1=>exact Kd.C_below HR0.out (pw_below_drewN B.out (nd0 + nd1 + nd2)));(case side2=>exact HC0.out);rintro e w2 ⟨rfl,hb⟩;have T:=Aside0.mk (blk_below (blk_drewN S.out (nd0 + nd1 + nd2)) hb);have C:=Aside0.mk (below_step (pw_below_drewN B.out (nd0 + nd1 + nd2)) hb);clear hb)
          | (((with_reducible refine gate_dst (N:=10) rfl ?_);refine box_event ?hg (N:=10) ?hd (cs:=#[.int .i64 0,.int .i64 0,.int .i64 0,.string (⟨#[]⟩ : ByteArray),.int .i64 0,.int .i64 0]) (t:=31) ?hr ?_;(case hd=>rfl);(case hg=>rfl);(case hr=>first | (go_simp;done) | (go_simp;rfl)));intro gE hgE w3 h3 hb3;have S0:=Aside0.mk (show impl_ReadFrame.At w w3 gR gE (impl_ReadFrame.row 0 0 0 ⟨#[]⟩ 0 0) from ⟨blk_below T.out hb3,h3,below_step C.out hb3,L.out,hgE ▸ below_size C.out,Nat.ne_of_lt (hgE ▸ blk_lt T.out)⟩);have nRE:=S0.out.ne;have nER:=S0.out.ne.symm;clear h3 hb3 hgE;obtain ⟨gEw30,gEw31,gEw32,gEw33,gEw34,gEw35,fgEw30,fgEw31,fgEw32,fgEw33,fgEw34,fgEw35⟩:=impl_ReadFrame.cells6 S0.out.ent;obtain ⟨gRw30,gRw31,gRw32,gRw33,gRw34,gRw35,fgRw30,fgRw31,fgRw32,fgRw33,fgRw34,fgRw35⟩:=impl_ReadFrame.cells6 S0.out.res)
          | (go_at_call 28;(with_reducible refine (impl_FrameEntry.calls k a2 f1 f2 f3 f4 f5 f6 fr _ X5.out).mono ?_);rintro e w4 ⟨v4,rfl,ho,hb⟩;obtain ⟨Ao,co,eo⟩:=Kd.R_slice ho;subst eo;have HO:=Aside0.mk ho;have S1:=Aside0.mk ((S0.out.all f1 f2 f3 f4 f5 f6).on hb);clear hb ho;obtain ⟨gEw40,gEw41,gEw42,gEw43,gEw44,gEw45,fgEw40,fgEw41,fgEw42,fgEw43,fgEw44,fgEw45⟩:=impl_ReadFrame.cells6 S1.out.ent;obtain ⟨gRw40,gRw41,gRw42,gRw43,gRw44,gRw45,fgRw40,fgRw41,fgRw42,fgRw43,fgRw44,fgRw45⟩:=impl_ReadFrame.cells6 S1.out.res)
          | (go_at_call 56;rw [HN.out];(with_reducible refine (slices_Equal_int_int.calls k _ _ fr _ _ ((l0.take (wrap64 (a1 + (fr.length : Int))).toNat).drop a1.toNat) false _ ?side1 ?side2 ?side3 ?side4 X6.out).mono ?_);(case side1=>exact (Kd.R_reads' HO.out).2.2);(case side2=>exact (Kd.R_reads' HO.out).2.1);(case side3=>exact Kd.C_below HA.out S1.out.bel);(case side4=>exact HCC.out);rintro e w5 ⟨rfl,⟨nd5,hw⟩⟩;have S2:=Aside0.mk (S1.out.drawn hw);clear hw;obtain ⟨gEw50,gEw51,gEw52,gEw53,gEw54,gEw55,fgEw50,fgEw51,fgEw52,fgEw53,fgEw54,fgEw55⟩:=impl_ReadFrame.cells6 S2.out.ent;obtain ⟨gRw50,gRw51,gRw52,gRw53,gRw54,gRw55,fgRw50,fgRw51,fgRw52,fgRw53,fgRw54,fgRw55⟩:=impl_ReadFrame.cells6 S2.out.res))
        refine bodyPost_ret (results_ct rfl _ _ gR 31 _ (0,0) _ rfl (impl_ReadFrame.filled S2.out.res 0 0 0 ⟨#[]⟩ 0 0) Try.underlying31 rfl (by kernel_rfl)) rfl ?_
        exact ⟨rfl,impl_ReadFrame.below S2.out.bel S2.out.lowR _ _ _ _ _ _⟩
    · rw [if_neg c7] at h
      cases h
end Go.Proofs.Ytlimhkjnnpmpkaa.PFnReadFrame
