/- impl_DecodeEntry by hand (the printed text of this function does not build): six readings into an entry,and the entry if it is valid. -/
import Derived.Test.YtlimhkjnnpmpkaaPFnReadFramex0
import Derived.Test.YtlimhkjnnpmpkaaPFnReadFramex6
import Derived.Test.YtlimhkjnnpmpkaaPFnReadFramex8
import Derived.Test.YtlimhkjnnpmpkaaPFnReadFramex17
import Derived.Test.YtlimhkjnnpmpkaaPFnReadFramex18
namespace Go.Proofs.Ytlimhkjnnpmpkaa.PFnReadFrame
open Go.RowKit Go.Proofs.YtlimhkjnnpmpkaaW.PrintWords Go.Proofs.YtlimhkjnnpmpkaaW.PrintLast Go.Proofs.YtlimhkjnnpmpkaaW.PrintMore
set_option linter.unusedVariables false
set_option linter.unusedSimpArgs false

/-- six cells of an entry -/
def impl_DecodeEntry.row (c s kd : Int) (t : ByteArray) (v o : Int) : Array Value:=#[.int .i64 c,.int .i64 s,.int .i64 kd,.string t,.int .i64 v,.int .i64 o]
/-- what comes of the six readings -/
def impl_DecodeEntry.judge (k : Nat) (c s kd : Int) (t : ByteArray) (v o p : Int) : Option (Int × Int × Int × ByteArray × Int × Int × Int) :=
  if p < 0 then some (0,0,0,⟨#[]⟩,0,0,-1)
  else (impl_EntryValid.f k c s kd t v (wrap64 (o - 1))).bind fun q=>if q=true then some (c,s,kd,t,v,wrap64 (o - 1),p) else some (0,0,0,⟨#[]⟩,0,0,-1)
def impl_DecodeEntry.f (k : Nat) (b : List Int) (a : Int) : Option (Int × Int × Int × ByteArray × Int × Int × Int) :=
  (impl_BytesValid.f k b).bind fun q =>
    if q=true then
      (impl_DecodeNumber.f k b a).bind fun x1=>(impl_DecodeNumber.f k b x1.2).bind fun x2=>(impl_DecodeNumber.f k b x2.2).bind fun x3 =>
        (impl_DecodeText.f k b x3.2).bind fun x4=>(impl_DecodeNumber.f k b x4.2).bind fun x5=>(impl_DecodeNumber.f k b x5.2).bind fun x6 =>
          impl_DecodeEntry.judge k x1.1 x2.1 x3.1 x4.1 x5.1 x6.1 x6.2
    else some (0,0,0,⟨#[]⟩,0,0,-1)

theorem impl_DecodeEntry.mono : ∀ a0 a1 k,LeO (impl_DecodeEntry.f k a0 a1) (impl_DecodeEntry.f (k + 1) a0 a1):=by
  intro a0 a1 k
  unfold impl_DecodeEntry.f
  refine LeO.bind (impl_BytesValid.mono _ _) fun _=>LeO.ite ?_ (LeO.refl _)
  refine LeO.bind (impl_DecodeNumber.mono _ _ _) fun _=>LeO.bind (impl_DecodeNumber.mono _ _ _) fun _=>LeO.bind (impl_DecodeNumber.mono _ _ _) fun _=>?_
  refine LeO.bind (impl_DecodeText.mono _ _ _) fun _=>LeO.bind (impl_DecodeNumber.mono _ _ _) fun _=>LeO.bind (impl_DecodeNumber.mono _ _ _) fun _=>?_
  unfold impl_DecodeEntry.judge
  exact LeO.ite (LeO.refl _) (LeO.bind (impl_EntryValid.mono _ _ _ _ _ _ _) fun _=>LeO.refl _)

/-- The place of the result holds zeros,the entry under way lies in a block of its own. -/
structure impl_DecodeEntry.At (w W : World) (gR gE : Nat) (cs : Array Value) : Prop where
  res : W.heap[gR]?=some (.cells (impl_DecodeEntry.row 0 0 0 ⟨#[]⟩ 0 0) 31 (0,0))
  ent : W.heap[gE]?=some (.cells cs 31 (0,0))
  bel : Below w.heap.size w W
  lowR : w.heap.size≤gR
  lowE : w.heap.size≤gE
  ne : gR ≠ gE
theorem impl_DecodeEntry.At.store {w W : World} {gR gE : Nat} {cs cs' : Array Value} (h : impl_DecodeEntry.At w W gR gE cs) (i : Nat) (u : Value) (e : cs.setIfInBounds i u=cs') : impl_DecodeEntry.At w (W.setCell ⟨gE,i,none⟩ u) gR gE cs' :=
  ⟨blk_far h.res h.ne u,blk_put h.ent i u e,below_set h.bel h.lowE,h.lowR,h.lowE,h.ne⟩
theorem impl_DecodeEntry.At.on {w W w' : World} {gR gE : Nat} {cs : Array Value} (h : impl_DecodeEntry.At w W gR gE cs) (hb : Below W.heap.size W w') : impl_DecodeEntry.At w w' gR gE cs :=
  ⟨blk_below h.res hb,blk_below h.ent hb,below_step h.bel hb,h.lowR,h.lowE,h.ne⟩
theorem impl_DecodeEntry.At.drawn {w W w' : World} {gR gE : Nat} {cs : Array Value} (h : impl_DecodeEntry.At w W gR gE cs) {nd : Nat} (e : w'=W.drewN nd) : impl_DecodeEntry.At w w' gR gE cs:=by
  rw [e]
  exact h.on (pw_below_drewN (Below.refl _ _) nd)
/-- six stores over the place of the result -/
theorem impl_DecodeEntry.filled {W : World} {gR : Nat} (h : W.heap[gR]?=some (.cells (impl_DecodeEntry.row 0 0 0 ⟨#[]⟩ 0 0) 31 (0,0))) (c s kd : Int) (t : ByteArray) (v o : Int) :
    ((((((W.setCell ⟨gR,0,none⟩ (.int .i64 c)).setCell ⟨gR,1,none⟩ (.int .i64 s)).setCell ⟨gR,2,none⟩ (.int .i64 kd)).setCell ⟨gR,3,none⟩ (.string t)).setCell ⟨gR,4,none⟩ (.int .i64 v)).setCell ⟨gR,5,none⟩ (.int .i64 o)).heap[gR]? =
      some (.cells #[.int .i64 c,.int .i64 s,.int .i64 kd,.string t,.int .i64 v,.int .i64 o] 31 (0,0)) :=
  blk_put (blk_put (blk_put (blk_put (blk_put (blk_put h 0 _ rfl) 1 _ rfl) 2 _ rfl) 3 _ rfl) 4 _ rfl) 5 _ rfl
theorem impl_DecodeEntry.below {w W : World} {gR : Nat} (h : Below w.heap.size w W) (hg : w.heap.size≤gR) (c s kd : Value) (t v o : Value) :
    Below w.heap.size w ((((((W.setCell ⟨gR,0,none⟩ c).setCell ⟨gR,1,none⟩ s).setCell ⟨gR,2,none⟩ kd).setCell ⟨gR,3,none⟩ t).setCell ⟨gR,4,none⟩ v).setCell ⟨gR,5,none⟩ o) :=
  below_set (below_set (below_set (below_set (below_set (below_set h hg) hg) hg) hg) hg) hg

/-- the cells of a block of six -/
theorem impl_DecodeEntry.cells6 {W : World} {g : Nat} {c s kd : Int} {t : ByteArray} {v o : Int} (h : W.heap[g]?=some (.cells #[.int .i64 c,.int .i64 s,.int .i64 kd,.string t,.int .i64 v,.int .i64 o] 31 (0,0))) :
    W.cell? ⟨g,0,none⟩=some (.int .i64 c)∧W.cell? ⟨g,1,none⟩=some (.int .i64 s)∧W.cell? ⟨g,2,none⟩=some (.int .i64 kd)∧W.cell? ⟨g,3,none⟩=some (.string t)∧W.cell? ⟨g,4,none⟩=some (.int .i64 v)∧W.cell? ⟨g,5,none⟩=some (.int .i64 o) ∧
      W.frozen? ⟨g,0,none⟩=false∧W.frozen? ⟨g,1,none⟩=false∧W.frozen? ⟨g,2,none⟩=false∧W.frozen? ⟨g,3,none⟩=false∧W.frozen? ⟨g,4,none⟩=false∧W.frozen? ⟨g,5,none⟩=false :=
  ⟨(blk_cell h 0).trans rfl,(blk_cell h 1).trans rfl,(blk_cell h 2).trans rfl,(blk_cell h 3).trans rfl,(blk_cell h 4).trans rfl,(blk_cell h 5).trans rfl,blk_frozen h 0,blk_frozen h 1,blk_frozen h 2,blk_frozen h 3,blk_frozen h 4,blk_frozen h 5⟩

set_option maxHeartbeats 2000000 in
set_option maxRecDepth 100000 in
theorem impl_DecodeEntry.calls (k : Nat) (A0 : Option Addr) (c0 : Nat) (l0 : List Int) (a1 : Int) (r1 : Int) (r2 : Int) (r3 : Int) (r4 : ByteArray) (r5 : Int) (r6 : Int) (r7 : Int) (w : World) (hr0 : Kd.C (Kd.int .i64) w A0 l0.length l0) (hc0 : l0.length≤c0) (h : impl_DecodeEntry.f k l0 a1=some (r1,r2,r3,r4,r5,r6,r7)) :
    Calls Try.prog 20 #[.slice A0 l0.length c0,.int .i64 a1] w fun e w'=>e=.returned (.tuple #[.agg #[.int .i64 r1,.int .i64 r2,.int .i64 r3,.string r4,.int .i64 r5,.int .i64 r6],.int .i64 r7])∧Below w.heap.size w w':=by
  have hu:=Try.underlying31
  have HR0:=Aside0.mk hr0
  have HC0:=Aside0.mk hc0
  clear hr0 hc0
  unfold impl_DecodeEntry.f at h
  obtain ⟨q,hq,h⟩:=Option.bind_eq_some_iff.mp h
  have Q:=Aside0.mk hq
  clear hq
  cases q with
  | false =>
    obtain ⟨rfl,rfl,rfl,rfl,rfl,rfl,rfl⟩ : r1=0∧r2=0∧r3=0∧r4=⟨#[]⟩∧r5=0∧r6=0∧r7=-1:=by simpa [eq_comm] using h
    clear h
    go_enter Try.func20,Try.ntmps20
    go_wp2_with (first
      | (((with_reducible refine gate_dst (N:=4) rfl ?_);refine box_event ?hg (N:=4) ?hd (cs:=#[.int .i64 0,.int .i64 0,.int .i64 0,.string (⟨#[]⟩ : ByteArray),.int .i64 0,.int .i64 0]) (t:=31) ?hr ?_;(case hd=>rfl);(case hg=>rfl);(case hr=>first | (go_simp;done) | (go_simp;rfl)));intro gR hgR w1 h1 hb1;have S:=Aside0.mk h1;have B:=Aside0.mk hb1;have L:=Aside0.mk (Nat.le_of_eq hgR.symm);clear h1 hb1 hgR)
      | (go_at_call 42;(with_reducible refine (impl_BytesValid.calls k _ _ l0 false _ ?side1 ?side2 Q.out).mono ?_);(case side1=>exact Kd.C_below HR0.out B.out);(case side2=>exact HC0.out);rintro e w' ⟨rfl,⟨nd,rfl⟩⟩
         have e0 : w1.cell? ⟨gR,0,none⟩=some (.int .i64 0):=(blk_cell S.out 0).trans rfl
         have e1 : w1.cell? ⟨gR,1,none⟩=some (.int .i64 0):=(blk_cell S.out 1).trans rfl
         have e2 : w1.cell? ⟨gR,2,none⟩=some (.int .i64 0):=(blk_cell S.out 2).trans rfl
         have e3 : w1.cell? ⟨gR,3,none⟩=some (.string (⟨#[]⟩ : ByteArray)):=(blk_cell S.out 3).trans rfl
         have e4 : w1.cell? ⟨gR,4,none⟩=some (.int .i64 0):=(blk_cell S.out 4).trans rfl
         have e5 : w1.cell? ⟨gR,5,none⟩=some (.int .i64 0):=(blk_cell S.out 5).trans rfl
         have f0:=blk_frozen S.out 0
         have f1:=blk_frozen S.out 1
         have f2:=blk_frozen S.out 2
         have f3:=blk_frozen S.out 3
         have f4:=blk_frozen S.out 4
         have f5:=blk_frozen S.out 5))
    refine bodyPost_ret (results_ct rfl _ _ gR 31 _ (0,0) _ rfl (impl_DecodeEntry.filled (blk_drewN S.out nd) 0 0 0 ⟨#[]⟩ 0 0) Try.underlying31 rfl (by kernel_rfl)) rfl ?_
    exact ⟨rfl,impl_DecodeEntry.below (pw_below_drewN B.out nd) L.out _ _ _ _ _ _⟩
  | true =>
    rw [if_pos rfl] at h
    obtain ⟨⟨c,p1⟩,h1,h⟩:=Option.bind_eq_some_iff.mp h
    obtain ⟨⟨s,p2⟩,h2,h⟩:=Option.bind_eq_some_iff.mp h
    obtain ⟨⟨kd,p3⟩,h3,h⟩:=Option.bind_eq_some_iff.mp h
    obtain ⟨⟨t,p4⟩,h4,h⟩:=Option.bind_eq_some_iff.mp h
    obtain ⟨⟨v,p5⟩,h5,h⟩:=Option.bind_eq_some_iff.mp h
    obtain ⟨⟨o,p6⟩,h6,h⟩:=Option.bind_eq_some_iff.mp h
    dsimp only at h2 h3 h4 h5 h6 h
    have X1:=Aside0.mk h1
    have X2:=Aside0.mk h2
    have X3:=Aside0.mk h3
    have X4:=Aside0.mk h4
    have X5:=Aside0.mk h5
    have X6:=Aside0.mk h6
    clear h1 h2 h3 h4 h5 h6
    unfold impl_DecodeEntry.judge at h
    -- the two ways to answer,and how the walk comes there
    by_cases hp : p6 < 0
    · rw [if_pos hp] at h
      obtain ⟨rfl,rfl,rfl,rfl,rfl,rfl,rfl⟩ : r1=0∧r2=0∧r3=0∧r4=⟨#[]⟩∧r5=0∧r6=0∧r7=-1:=by simpa [eq_comm] using h
      clear h
      have cp : decide (p6 < 0)=true:=decide_eq_true hp
      clear hp
      go_enter Try.func20,Try.ntmps20
      go_wp2_with (first
        | (((with_reducible refine gate_dst (N:=4) rfl ?_);refine box_event ?hg (N:=4) ?hd (cs:=#[.int .i64 0,.int .i64 0,.int .i64 0,.string (⟨#[]⟩ : ByteArray),.int .i64 0,.int .i64 0]) (t:=31) ?hr ?_;(case hd=>rfl);(case hg=>rfl);(case hr=>first | (go_simp;done) | (go_simp;rfl)));intro gR hgR w1 h1 hb1;have S:=Aside0.mk h1;have B:=Aside0.mk hb1;have L:=Aside0.mk (Nat.le_of_eq hgR.symm);clear h1 hb1 hgR)
          | (go_at_call 42;(with_reducible refine (impl_BytesValid.calls k _ _ l0 true _ ?side1 ?side2 Q.out).mono ?_);(case side1=>exact Kd.C_below HR0.out B.out);(case side2=>exact HC0.out);rintro e w' ⟨rfl,⟨nd,rfl⟩⟩)
          | (((with_reducible refine gate_dst (N:=6) rfl ?_);refine box_event ?hg (N:=6) ?hd (cs:=#[.int .i64 0,.int .i64 0,.int .i64 0,.string (⟨#[]⟩ : ByteArray),.int .i64 0,.int .i64 0]) (t:=31) ?hr ?_;(case hd=>rfl);(case hg=>rfl);(case hr=>first | (go_simp;done) | (go_simp;rfl)));intro gE hgE w2 h2 hb2;have S0:=Aside0.mk (show impl_DecodeEntry.At w w2 gR gE (impl_DecodeEntry.row 0 0 0 ⟨#[]⟩ 0 0) from ⟨blk_below (blk_drewN S.out nd) hb2,h2,below_step (pw_below_drewN B.out nd) hb2,L.out,hgE ▸ below_size (pw_below_drewN B.out nd),Nat.ne_of_lt (hgE ▸ blk_lt (blk_drewN S.out nd))⟩);have nRE:=S0.out.ne;have nER:=S0.out.ne.symm;clear h2 hb2 hgE)
          | (go_at_call 43;(with_reducible refine (impl_DecodeNumber.calls k _ _ l0 a1 c p1 _ ?side1 ?side2 X1.out).mono ?_);(case side1=>exact Kd.C_below HR0.out S0.out.bel);(case side2=>exact HC0.out);rintro e w3 ⟨rfl,⟨nd0,hw⟩⟩;have S1:=Aside0.mk (S0.out.drawn hw);clear hw;have gEw30 : w3.cell? ⟨gE,0,none⟩=some (.int .i64 0):=(blk_cell S1.out.ent 0).trans rfl;have fgEw30:=blk_frozen S1.out.ent 0)
          | (go_at_call 43;(with_reducible refine (impl_DecodeNumber.calls k _ _ l0 p1 s p2 _ ?side1 ?side2 X2.out).mono ?_);(case side1=>exact Kd.C_below HR0.out (S1.out.store 0 (.int .i64 c) (show _=impl_DecodeEntry.row c 0 0 (⟨#[]⟩ : ByteArray) 0 0 from rfl)).bel);(case side2=>exact HC0.out);rintro e w4 ⟨rfl,⟨nd1,hw⟩⟩;have S2:=Aside0.mk ((S1.out.store 0 (.int .i64 c) (show _=impl_DecodeEntry.row c 0 0 (⟨#[]⟩ : ByteArray) 0 0 from rfl)).drawn hw);clear hw;have gEw41 : w4.cell? ⟨gE,1,none⟩=some (.int .i64 0):=(blk_cell S2.out.ent 1).trans rfl;have fgEw41:=blk_frozen S2.out.ent 1)
          | (go_at_call 43;(with_reducible refine (impl_DecodeNumber.calls k _ _ l0 p2 kd p3 _ ?side1 ?side2 X3.out).mono ?_);(case side1=>exact Kd.C_below HR0.out (S2.out.store 1 (.int .i64 s) (show _=impl_DecodeEntry.row c s 0 (⟨#[]⟩ : ByteArray) 0 0 from rfl)).bel);(case side2=>exact HC0.out);rintro e w5 ⟨rfl,⟨nd2,hw⟩⟩;have S3:=Aside0.mk ((S2.out.store 1 (.int .i64 s) (show _=impl_DecodeEntry.row c s 0 (⟨#[]⟩ : ByteArray) 0 0 from rfl)).drawn hw);clear hw;have gEw52 : w5.cell? ⟨gE,2,none⟩=some (.int .i64 0):=(blk_cell S3.out.ent 2).trans rfl;have fgEw52:=blk_frozen S3.out.ent 2)
          | (go_at_call 44;(with_reducible refine (impl_DecodeText.calls k _ _ l0 p3 t p4 _ ?side1 ?side2 X4.out).mono ?_);(case side1=>exact Kd.C_below HR0.out (S3.out.store 2 (.int .i64 kd) (show _=impl_DecodeEntry.row c s kd (⟨#[]⟩ : ByteArray) 0 0 from rfl)).bel);(case side2=>exact HC0.out);rintro e w6 ⟨rfl,hb⟩;have S4:=Aside0.mk ((S3.out.store 2 (.int .i64 kd) (show _=impl_DecodeEntry.row c s kd (⟨#[]⟩ : ByteArray) 0 0 from rfl)).on hb);clear hb;have gEw63 : w6.cell? ⟨gE,3,none⟩=some (.string (⟨#[]⟩ : ByteArray)):=(blk_cell S4.out.ent 3).trans rfl;have fgEw63:=blk_frozen S4.out.ent 3)
          | (go_at_call 43;(with_reducible refine (impl_DecodeNumber.calls k _ _ l0 p4 v p5 _ ?side1 ?side2 X5.out).mono ?_);(case side1=>exact Kd.C_below HR0.out (S4.out.store 3 (.string t) (show _=impl_DecodeEntry.row c s kd t 0 0 from rfl)).bel);(case side2=>exact HC0.out);rintro e w7 ⟨rfl,⟨nd4,hw⟩⟩;have S5:=Aside0.mk ((S4.out.store 3 (.string t) (show _=impl_DecodeEntry.row c s kd t 0 0 from rfl)).drawn hw);clear hw;have gEw74 : w7.cell? ⟨gE,4,none⟩=some (.int .i64 0):=(blk_cell S5.out.ent 4).trans rfl;have fgEw74:=blk_frozen S5.out.ent 4)
          | (go_at_call 43;(with_reducible refine (impl_DecodeNumber.calls k _ _ l0 p5 o p6 _ ?side1 ?side2 X6.out).mono ?_);(case side1=>exact Kd.C_below HR0.out (S5.out.store 4 (.int .i64 v) (show _=impl_DecodeEntry.row c s kd t v 0 from rfl)).bel);(case side2=>exact HC0.out);rintro e w8 ⟨rfl,⟨nd5,hw⟩⟩;have S6:=Aside0.mk ((S5.out.store 4 (.int .i64 v) (show _=impl_DecodeEntry.row c s kd t v 0 from rfl)).drawn hw);clear hw;obtain ⟨gEw80,gEw81,gEw82,gEw83,gEw84,gEw85,fgEw80,fgEw81,fgEw82,fgEw83,fgEw84,fgEw85⟩:=impl_DecodeEntry.cells6 S6.out.ent;obtain ⟨gRw80,gRw81,gRw82,gRw83,gRw84,gRw85,fgRw80,fgRw81,fgRw82,fgRw83,fgRw84,fgRw85⟩:=impl_DecodeEntry.cells6 S6.out.res))
      refine bodyPost_ret (results_ct rfl _ _ gR 31 _ (0,0) _ rfl (impl_DecodeEntry.filled ((S6.out.store 5 _ rfl).store 5 _ rfl).res 0 0 0 ⟨#[]⟩ 0 0) Try.underlying31 rfl (by kernel_rfl)) rfl ?_
      exact ⟨rfl,impl_DecodeEntry.below ((S6.out.store 5 _ rfl).store 5 _ rfl).bel S6.out.lowR _ _ _ _ _ _⟩
    · rw [if_neg hp] at h
      obtain ⟨z,hz,h⟩:=Option.bind_eq_some_iff.mp h
      have Z:=Aside0.mk hz
      clear hz
      have cp : decide (p6 < 0)=false:=decide_eq_false hp
      clear hp
      cases z with
      | false =>
        obtain ⟨rfl,rfl,rfl,rfl,rfl,rfl,rfl⟩ : r1=0∧r2=0∧r3=0∧r4=⟨#[]⟩∧r5=0∧r6=0∧r7=-1:=by simpa [eq_comm] using h
        clear h
        go_enter Try.func20,Try.ntmps20
        go_wp2_with (first
          | (((with_reducible refine gate_dst (N:=4) rfl ?_);refine box_event ?hg (N:=4) ?hd (cs:=#[.int .i64 0,.int .i64 0,.int .i64 0,.string (⟨#[]⟩ : ByteArray),.int .i64 0,.int .i64 0]) (t:=31) ?hr ?_;(case hd=>rfl);(case hg=>rfl);(case hr=>first | (go_simp;done) | (go_simp;rfl)));intro gR hgR w1 h1 hb1;have S:=Aside0.mk h1;have B:=Aside0.mk hb1;have L:=Aside0.mk (Nat.le_of_eq hgR.symm);clear h1 hb1 hgR)
          | (go_at_call 42;(with_reducible refine (impl_BytesValid.calls k _ _ l0 true _ ?side1 ?side2 Q.out).mono ?_);(case side1=>exact Kd.C_below HR0.out B.out);(case side2=>exact HC0.out);rintro e w' ⟨rfl,⟨nd,rfl⟩⟩)
          | (((with_reducible refine gate_dst (N:=6) rfl ?_);refine box_event ?hg (N:=6) ?hd (cs:=#[.int .i64 0,.int .i64 0,.int .i64 0,.string (⟨#[]⟩ : ByteArray),.int .i64 0,.int .i64 0]) (t:=31) ?hr ?_;(case hd=>rfl);(case hg=>rfl);(case hr=>first | (go_simp;done) | (go_simp;rfl)));intro gE hgE w2 h2 hb2;have S0:=Aside0.mk (show impl_DecodeEntry.At w w2 gR gE (impl_DecodeEntry.row 0 0 0 ⟨#[]⟩ 0 0) from ⟨blk_below (blk_drewN S.out nd) hb2,h2,below_step (pw_below_drewN B.out nd) hb2,L.out,hgE ▸ below_size (pw_below_drewN B.out nd),Nat.ne_of_lt (hgE ▸ blk_lt (blk_drewN S.out nd))⟩);have nRE:=S0.out.ne;have nER:=S0.out.ne.symm;clear h2 hb2 hgE)
          | (go_at_call 43;(with_reducible refine (impl_DecodeNumber.calls k _ _ l0 a1 c p1 _ ?side1 ?side2 X1.out).mono ?_);(case side1=>exact Kd.C_below HR0.out S0.out.bel);(case side2=>exact HC0.out);rintro e w3 ⟨rfl,⟨nd0,hw⟩⟩;have S1:=Aside0.mk (S0.out.drawn hw);clear hw;have gEw30 : w3.cell? ⟨gE,0,none⟩=some (.int .i64 0):=(blk_cell S1.out.ent 0).trans rfl;have fgEw30:=blk_frozen S1.out.ent 0)
          | (go_at_call 43;(with_reducible refine (impl_DecodeNumber.calls k _ _ l0 p1 s p2 _ ?side1 ?side2 X2.out).mono ?_);(case side1=>exact Kd.C_below HR0.out (S1.out.store 0 (.int .i64 c) (show _=impl_DecodeEntry.row c 0 0 (⟨#[]⟩ : ByteArray) 0 0 from rfl)).bel);(case side2=>exact HC0.out);rintro e w4 ⟨rfl,⟨nd1,hw⟩⟩;have S2:=Aside0.mk ((S1.out.store 0 (.int .i64 c) (show _=impl_DecodeEntry.row c 0 0 (⟨#[]⟩ : ByteArray) 0 0 from rfl)).drawn hw);clear hw;have gEw41 : w4.cell? ⟨gE,1,none⟩=some (.int .i64 0):=(blk_cell S2.out.ent 1).trans rfl;have fgEw41:=blk_frozen S2.out.ent 1)
          | (go_at_call 43;(with_reducible refine (impl_DecodeNumber.calls k _ _ l0 p2 kd p3 _ ?side1 ?side2 X3.out).mono ?_);(case side1=>exact Kd.C_below HR0.out (S2.out.store 1 (.int .i64 s) (show _=impl_DecodeEntry.row c s 0 (⟨#[]⟩ : ByteArray) 0 0 from rfl)).bel);(case side2=>exact HC0.out);rintro e w5 ⟨rfl,⟨nd2,hw⟩⟩;have S3:=Aside0.mk ((S2.out.store 1 (.int .i64 s) (show _=impl_DecodeEntry.row c s 0 (⟨#[]⟩ : ByteArray) 0 0 from rfl)).drawn hw);clear hw;have gEw52 : w5.cell? ⟨gE,2,none⟩=some (.int .i64 0):=(blk_cell S3.out.ent 2).trans rfl;have fgEw52:=blk_frozen S3.out.ent 2)
          | (go_at_call 44;(with_reducible refine (impl_DecodeText.calls k _ _ l0 p3 t p4 _ ?side1 ?side2 X4.out).mono ?_);(case side1=>exact Kd.C_below HR0.out (S3.out.store 2 (.int .i64 kd) (show _=impl_DecodeEntry.row c s kd (⟨#[]⟩ : ByteArray) 0 0 from rfl)).bel);(case side2=>exact HC0.out);rintro e w6 ⟨rfl,hb⟩;have S4:=Aside0.mk ((S3.out.store 2 (.int .i64 kd) (show _=impl_DecodeEntry.row c s kd (⟨#[]⟩ : ByteArray) 0 0 from rfl)).on hb);clear hb;have gEw63 : w6.cell? ⟨gE,3,none⟩=some (.string (⟨#[]⟩ : ByteArray)):=(blk_cell S4.out.ent 3).trans rfl;have fgEw63:=blk_frozen S4.out.ent 3)
          | (go_at_call 43;(with_reducible refine (impl_DecodeNumber.calls k _ _ l0 p4 v p5 _ ?side1 ?side2 X5.out).mono ?_);(case side1=>exact Kd.C_below HR0.out (S4.out.store 3 (.string t) (show _=impl_DecodeEntry.row c s kd t 0 0 from rfl)).bel);(case side2=>exact HC0.out);rintro e w7 ⟨rfl,⟨nd4,hw⟩⟩;have S5:=Aside0.mk ((S4.out.store 3 (.string t) (show _=impl_DecodeEntry.row c s kd t 0 0 from rfl)).drawn hw);clear hw;have gEw74 : w7.cell? ⟨gE,4,none⟩=some (.int .i64 0):=(blk_cell S5.out.ent 4).trans rfl;have fgEw74:=blk_frozen S5.out.ent 4)
          | (go_at_call 43;(with_reducible refine (impl_DecodeNumber.calls k _ _ l0 p5 o p6 _ ?side1 ?side2 X6.out).mono ?_);(case side1=>exact Kd.C_below HR0.out (S5.out.store 4 (.int .i64 v) (show _=impl_DecodeEntry.row c s kd t v 0 from rfl)).bel);(case side2=>exact HC0.out);rintro e w8 ⟨rfl,⟨nd5,hw⟩⟩;have S6:=Aside0.mk ((S5.out.store 4 (.int .i64 v) (show _=impl_DecodeEntry.row c s kd t v 0 from rfl)).drawn hw);clear hw;obtain ⟨gEw80,gEw81,gEw82,gEw83,gEw84,gEw85,fgEw80,fgEw81,fgEw82,fgEw83,fgEw84,fgEw85⟩:=impl_DecodeEntry.cells6 S6.out.ent;obtain ⟨gRw80,gRw81,gRw82,gRw83,gRw84,gRw85,fgRw80,fgRw81,fgRw82,fgRw83,fgRw84,fgRw85⟩:=impl_DecodeEntry.cells6 S6.out.res)
          | (go_at_call 24;(with_reducible refine (impl_EntryValid.calls k c s kd t v (wrap64 (o - 1)) false _ Z.out).mono ?_);rintro e w9 ⟨rfl,hb⟩;have S7:=Aside0.mk (((S6.out.store 5 (.int .i64 o) rfl).store 5 (.int .i64 (wrap64 (o - 1))) (show _=impl_DecodeEntry.row c s kd t v (wrap64 (o - 1)) from rfl)).on hb);clear hb;have gEw90 : w9.cell? ⟨gE,0,none⟩=some (.int .i64 c):=(blk_cell S7.out.ent 0).trans rfl;have fgEw90:=blk_frozen S7.out.ent 0;have gEw91 : w9.cell? ⟨gE,1,none⟩=some (.int .i64 s):=(blk_cell S7.out.ent 1).trans rfl;have fgEw91:=blk_frozen S7.out.ent 1;have gEw92 : w9.cell? ⟨gE,2,none⟩=some (.int .i64 kd):=(blk_cell S7.out.ent 2).trans rfl;have fgEw92:=blk_frozen S7.out.ent 2;have gEw93 : w9.cell? ⟨gE,3,none⟩=some (.string t):=(blk_cell S7.out.ent 3).trans rfl;have fgEw93:=blk_frozen S7.out.ent 3;have gEw94 : w9.cell? ⟨gE,4,none⟩=some (.int .i64 v):=(blk_cell S7.out.ent 4).trans rfl;have fgEw94:=blk_frozen S7.out.ent 4;have gEw95 : w9.cell? ⟨gE,5,none⟩=some (.int .i64 (wrap64 (o - 1))):=(blk_cell S7.out.ent 5).trans rfl;have fgEw95:=blk_frozen S7.out.ent 5;obtain ⟨gRw90,gRw91,gRw92,gRw93,gRw94,gRw95,fgRw90,fgRw91,fgRw92,fgRw93,fgRw94,fgRw95⟩:=impl_DecodeEntry.cells6 S7.out.res))
        refine bodyPost_ret (results_ct rfl _ _ gR 31 _ (0,0) _ rfl (impl_DecodeEntry.filled S7.out.res 0 0 0 ⟨#[]⟩ 0 0) Try.underlying31 rfl (by kernel_rfl)) rfl ?_
        exact ⟨rfl,impl_DecodeEntry.below S7.out.bel S7.out.lowR _ _ _ _ _ _⟩
      | true =>
        obtain ⟨rfl,rfl,rfl,rfl,rfl,rfl,rfl⟩ : c=r1∧s=r2∧kd=r3∧t=r4∧v=r5∧wrap64 (o - 1)=r6∧p6=r7:=by simpa using h
        clear h
        go_enter Try.func20,Try.ntmps20
        go_wp2_with (first
          | (((with_reducible refine gate_dst (N:=4) rfl ?_);refine box_event ?hg (N:=4) ?hd (cs:=#[.int .i64 0,.int .i64 0,.int .i64 0,.string (⟨#[]⟩ : ByteArray),.int .i64 0,.int .i64 0]) (t:=31) ?hr ?_;(case hd=>rfl);(case hg=>rfl);(case hr=>first | (go_simp;done) | (go_simp;rfl)));intro gR hgR w1 h1 hb1;have S:=Aside0.mk h1;have B:=Aside0.mk hb1;have L:=Aside0.mk (Nat.le_of_eq hgR.symm);clear h1 hb1 hgR)
          | (go_at_call 42;(with_reducible refine (impl_BytesValid.calls k _ _ l0 true _ ?side1 ?side2 Q.out).mono ?_);(case side1=>exact Kd.C_below HR0.out B.out);(case side2=>exact HC0.out);rintro e w' ⟨rfl,⟨nd,rfl⟩⟩)
          | (((with_reducible refine gate_dst (N:=6) rfl ?_);refine box_event ?hg (N:=6) ?hd (cs:=#[.int .i64 0,.int .i64 0,.int .i64 0,.string (⟨#[]⟩ : ByteArray),.int .i64 0,.int .i64 0]) (t:=31) ?hr ?_;(case hd=>rfl);(case hg=>rfl);(case hr=>first | (go_simp;done) | (go_simp;rfl)));intro gE hgE w2 h2 hb2;have S0:=Aside0.mk (show impl_DecodeEntry.At w w2 gR gE (impl_DecodeEntry.row 0 0 0 ⟨#[]⟩ 0 0) from ⟨blk_below (blk_drewN S.out nd) hb2,h2,below_step (pw_below_drewN B.out nd) hb2,L.out,hgE ▸ below_size (pw_below_drewN B.out nd),Nat.ne_of_lt (hgE ▸ blk_lt (blk_drewN S.out nd))⟩);have nRE:=S0.out.ne;have nER:=S0.out.ne.symm;clear h2 hb2 hgE)
          | (go_at_call 43;(with_reducible refine (impl_DecodeNumber.calls k _ _ l0 a1 c p1 _ ?side1 ?side2 X1.out).mono ?_);(case side1=>exact Kd.C_below HR0.out S0.out.bel);(case side2=>exact HC0.out);rintro e w3 ⟨rfl,⟨nd0,hw⟩⟩;have S1:=Aside0.mk (S0.out.drawn hw);clear hw;have gEw30 : w3.cell? ⟨gE,0,none⟩=some (.int .i64 0):=(blk_cell S1.out.ent 0).trans rfl;have fgEw30:=blk_frozen S1.out.ent 0)
          | (go_at_call 43;(with_reducible refine (impl_DecodeNumber.calls k _ _ l0 p1 s p2 _ ?side1 ?side2 X2.out).mono ?_);(case side1=>exact Kd.C_below HR0.out (S1.out.store 0 (.int .i64 c) (show _=impl_DecodeEntry.row c 0 0 (⟨#[]⟩ : ByteArray) 0 0 from rfl)).bel);(case side2=>exact HC0.out);rintro e w4 ⟨rfl,⟨nd1,hw⟩⟩;have S2:=Aside0.mk ((S1.out.store 0 (.int .i64 c) (show _=impl_DecodeEntry.row c 0 0 (⟨#[]⟩ : ByteArray) 0 0 from rfl)).drawn hw);clear hw;have gEw41 : w4.cell? ⟨gE,1,none⟩=some (.int .i64 0):=(blk_cell S2.out.ent 1).trans rfl;have fgEw41:=blk_frozen S2.out.ent 1)
          | (go_at_call 43;(with_reducible refine (impl_DecodeNumber.calls k _ _ l0 p2 kd p3 _ ?side1 ?side2 X3.out).mono ?_);(case side1=>exact Kd.C_below HR0.out (S2.out.store 1 (.int .i64 s) (show _=impl_DecodeEntry.row c s 0 (⟨#[]⟩ : ByteArray) 0 0 from rfl)).bel);(case side2=>exact HC0.out);rintro e w5 ⟨rfl,⟨nd2,hw⟩⟩;have S3:=Aside0.mk ((S2.out.store 1 (.int .i64 s) (show _=impl_DecodeEntry.row c s 0 (⟨#[]⟩ : ByteArray) 0 0 from rfl)).drawn hw);clear hw;have gEw52 : w5.cell? ⟨gE,2,none⟩=some (.int .i64 0):=(blk_cell S3.out.ent 2).trans rfl;have fgEw52:=blk_frozen S3.out.ent 2)
          | (go_at_call 44;(with_reducible refine (impl_DecodeText.calls k _ _ l0 p3 t p4 _ ?side1 ?side2 X4.out).mono ?_);(case side1=>exact Kd.C_below HR0.out (S3.out.store 2 (.int .i64 kd) (show _=impl_DecodeEntry.row c s kd (⟨#[]⟩ : ByteArray) 0 0 from rfl)).bel);(case side2=>exact HC0.out);rintro e w6 ⟨rfl,hb⟩;have S4:=Aside0.mk ((S3.out.store 2 (.int .i64 kd) (show _=impl_DecodeEntry.row c s kd (⟨#[]⟩ : ByteArray) 0 0 from rfl)).on hb);clear hb;have gEw63 : w6.cell? ⟨gE,3,none⟩=some (.string (⟨#[]⟩ : ByteArray)):=(blk_cell S4.out.ent 3).trans rfl;have fgEw63:=blk_frozen S4.out.ent 3)
          | (go_at_call 43;(with_reducible refine (impl_DecodeNumber.calls k _ _ l0 p4 v p5 _ ?side1 ?side2 X5.out).mono ?_);(case side1=>exact Kd.C_below HR0.out (S4.out.store 3 (.string t) (show _=impl_DecodeEntry.row c s kd t 0 0 from rfl)).bel);(case side2=>exact HC0.out);rintro e w7 ⟨rfl,⟨nd4,hw⟩⟩;have S5:=Aside0.mk ((S4.out.store 3 (.string t) (show _=impl_DecodeEntry.row c s kd t 0 0 from rfl)).drawn hw);clear hw;have gEw74 : w7.cell? ⟨gE,4,none⟩=some (.int .i64 0):=(blk_cell S5.out.ent 4).trans rfl;have fgEw74:=blk_frozen S5.out.ent 4)
          | (go_at_call 43;(with_reducible refine (impl_DecodeNumber.calls k _ _ l0 p5 o p6 _ ?side1 ?side2 X6.out).mono ?_);(case side1=>exact Kd.C_below HR0.out (S5.out.store 4 (.int .i64 v) (show _=impl_DecodeEntry.row c s kd t v 0 from rfl)).bel);(case side2=>exact HC0.out);rintro e w8 ⟨rfl,⟨nd5,hw⟩⟩;have S6:=Aside0.mk ((S5.out.store 4 (.int .i64 v) (show _=impl_DecodeEntry.row c s kd t v 0 from rfl)).drawn hw);clear hw;obtain ⟨gEw80,gEw81,gEw82,gEw83,gEw84,gEw85,fgEw80,fgEw81,fgEw82,fgEw83,fgEw84,fgEw85⟩:=impl_DecodeEntry.cells6 S6.out.ent;obtain ⟨gRw80,gRw81,gRw82,gRw83,gRw84,gRw85,fgRw80,fgRw81,fgRw82,fgRw83,fgRw84,fgRw85⟩:=impl_DecodeEntry.cells6 S6.out.res)
          | (go_at_call 24;(with_reducible refine (impl_EntryValid.calls k c s kd t v (wrap64 (o - 1)) true _ Z.out).mono ?_);rintro e w9 ⟨rfl,hb⟩;have S7:=Aside0.mk (((S6.out.store 5 (.int .i64 o) rfl).store 5 (.int .i64 (wrap64 (o - 1))) (show _=impl_DecodeEntry.row c s kd t v (wrap64 (o - 1)) from rfl)).on hb);clear hb;have gEw90 : w9.cell? ⟨gE,0,none⟩=some (.int .i64 c):=(blk_cell S7.out.ent 0).trans rfl;have fgEw90:=blk_frozen S7.out.ent 0;have gEw91 : w9.cell? ⟨gE,1,none⟩=some (.int .i64 s):=(blk_cell S7.out.ent 1).trans rfl;have fgEw91:=blk_frozen S7.out.ent 1;have gEw92 : w9.cell? ⟨gE,2,none⟩=some (.int .i64 kd):=(blk_cell S7.out.ent 2).trans rfl;have fgEw92:=blk_frozen S7.out.ent 2;have gEw93 : w9.cell? ⟨gE,3,none⟩=some (.string t):=(blk_cell S7.out.ent 3).trans rfl;have fgEw93:=blk_frozen S7.out.ent 3;have gEw94 : w9.cell? ⟨gE,4,none⟩=some (.int .i64 v):=(blk_cell S7.out.ent 4).trans rfl;have fgEw94:=blk_frozen S7.out.ent 4;have gEw95 : w9.cell? ⟨gE,5,none⟩=some (.int .i64 (wrap64 (o - 1))):=(blk_cell S7.out.ent 5).trans rfl;have fgEw95:=blk_frozen S7.out.ent 5;obtain ⟨gRw90,gRw91,gRw92,gRw93,gRw94,gRw95,fgRw90,fgRw91,fgRw92,fgRw93,fgRw94,fgRw95⟩:=impl_DecodeEntry.cells6 S7.out.res))
        refine bodyPost_ret (results_ct rfl _ _ gR 31 _ (0,0) _ rfl (impl_DecodeEntry.filled S7.out.res _ _ _ _ _ _) Try.underlying31 rfl (by kernel_rfl)) rfl ?_
        exact ⟨rfl,impl_DecodeEntry.below S7.out.bel S7.out.lowR _ _ _ _ _ _⟩
end Go.Proofs.Ytlimhkjnnpmpkaa.PFnReadFrame
