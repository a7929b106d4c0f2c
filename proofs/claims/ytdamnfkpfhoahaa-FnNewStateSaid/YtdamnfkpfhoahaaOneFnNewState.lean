/- New states are empty: the state of a valid interval is valid, has that interval, no pairs, no sessions, and is not sealed; of another one it is the zero value; and the reference says the same. No condition beyond the row's own. -/
import Derived.Test.YtdamnfkpfhoahaaWWords
import Derived.Deep.Slices
import Derived.ChangeArms
import Derived.WideShapes
import Derived.Test.YtdamnfkpfhoahaaPFnNewStatex0
import Derived.Test.YtdamnfkpfhoahaaPFnNewStatex13
import Derived.Test.YtdamnfkpfhoahaaPFnNewStatex15
import Derived.Test.YtdamnfkpfhoahaaPFnNewStatex16
import Derived.Test.YtdamnfkpfhoahaaPFnNewStatex22
import Derived.Test.YtdamnfkpfhoahaaPFnNewStatex25
import Derived.Test.YtdamnfkpfhoahaaPFnNewStatex26
import Derived.Test.YtdamnfkpfhoahaaPFnNewStatex33
import Derived.Test.YtdamnfkpfhoahaaPFnNewStatex9
import Derived.Laws.BytesArg
import Derived.Lib.Strings
import Derived.Test.YtdamnfkpfhoahaaRows
import Derived.WalkKit
import Derived.ProofKit
import Derived.OpenShut
import Derived.ShutString
import Derived.ChangeOld
import Derived.Below
import Derived.SizedLaws
import Derived.Carry
namespace Go.Proofs.Ytdamnfkpfhoahaa.Opens
open Go.RowKit Go.ChangeShapes Go.WideShapes Go.Deep Go.Proofs.YtdamnfkpfhoahaaW.PrintWords

/-- Whatever reads as a value of type t, its cells are those of a value of the kind d, of which G holds. -/
structure Opens {α : Type} (P : Program) (t : TypeId) (d : Kd α) (G : α → Prop) : Prop where
  out : ∀ {H : Type} {enc : TypeId × Value → H} {w : World} {base : Nat} {spare : Nat → Bool} {held : Bool} {fuel : Nat} {cs : List Value} {x : DataW H × List MemPlace},
    DataW.trod enc P w base spare held fuel t cs = some x → ∃ y, d.K w y cs ∧ G y

theorem Opens.mono {α : Type} {P : Program} {t : TypeId} {d : Kd α} {G G' : α → Prop} (h : Opens P t d G) (hg : ∀ y, G y → G' y) : Opens P t d G' := ⟨fun q => by
  obtain ⟨y, hk, hy⟩ := h.out q
  exact ⟨y, hk, hg y hy⟩⟩

theorem Opens.int {P : Program} {t : TypeId} {k : IntKind} (h : P.underlying t = some (.int k)) : Opens P t (Kd.int k) (fun n => (Lit.int k n).wf = true) := ⟨fun q => by
  obtain ⟨n, hc, _, hw⟩ := DataW.trod_int h q
  exact ⟨n, hc, hw⟩⟩

theorem Opens.bool {P : Program} {t : TypeId} (h : P.underlying t = some .bool) : Opens P t Kd.bool (fun _ => True) := ⟨fun q => by
  obtain ⟨b, hc, _⟩ := DataW.trod_bool h q
  exact ⟨b, hc, trivial⟩⟩

theorem Opens.string {P : Program} {t : TypeId} (h : P.underlying t = some .string) : Opens P t Kd.string (fun s => s.size ≤ maxLen) := ⟨fun q => by
  obtain ⟨s, hc, _, hs⟩ := DataW.trod_string h q
  exact ⟨s, hc, hs⟩⟩

theorem Opens.slice {α : Type} {P : Program} {t e : TypeId} {d : Kd α} {G : α → Prop} (h : P.underlying t = some (.slice e)) (hs : P.cellsOf e = d.sz) (he : Opens P e d G) :
    Opens P t (Kd.slice e d) (fun l => l.length ≤ maxLen ∧ ∀ y ∈ l, G y) := ⟨fun {H enc w base spare held fuel cs x} q => by
  rcases open_slice h q with ⟨rfl, _⟩ | ⟨a, len, cap, m, n, D, Pl, rfl, _, hl, hm, hmm, _, hi⟩
  · exact ⟨[], ⟨none, 0, rfl, Nat.le_refl 0, rfl, by simp, fun h0 => absurd h0 (Nat.lt_irrefl 0)⟩, by simp [maxLen], by simp⟩
  · have hlm : len ≤ m := by rw [hmm]; split <;> omega
    have hx : ∀ i, ∃ y : Option α, i < len → ∃ z c, y = some z ∧ c.length = d.sz ∧ d.K w z c ∧ G z ∧ ∀ j u, c[j]? = some u → w.cell? (a.add (i * d.sz + j)) = some u := by
      intro i
      by_cases hlt : i < len
      · obtain ⟨c, hc, ht⟩ := hi i (by omega)
        obtain ⟨z, hk, hg⟩ := he.out ht
        obtain ⟨_, hcl, hat⟩ := World.cells?_some hc
        refine ⟨some z, fun _ => ⟨z, c, rfl, d.K_len hk, hk, hg, fun j u hj => ?_⟩⟩
        have hjl : j < c.length := by
          rcases Nat.lt_or_ge j c.length with h0 | h0
          · exact h0
          · rw [List.getElem?_eq_none h0] at hj
            cases hj
        have := hat j (by omega)
        rw [hs] at this
        rw [← Go.Deep.add_add, this]
        exact hj
      · exact ⟨none, fun h0 => absurd h0 hlt⟩
    obtain ⟨f, hf⟩ := Classical.axiomOfChoice hx
    have hz : ∀ i, i < len → ∃ z, f i = some z := fun i hlt => by
      obtain ⟨z, _, h0, _⟩ := hf i hlt
      exact ⟨z, h0⟩
    have hlen : ∀ n, n ≤ len → ((List.range n).filterMap f).length = n ∧ ∀ j p, ((List.range n).filterMap f)[j]? = some p → j < n ∧ f j = some p := by
      intro n
      induction n with
      | zero => intro _; exact ⟨rfl, fun j p hj => by simp at hj⟩
      | succ n ih =>
        intro hn
        obtain ⟨hl1, hl2⟩ := ih (by omega)
        obtain ⟨z, hz⟩ := hz n (by omega)
        rw [List.range_succ, List.filterMap_append]
        simp only [List.filterMap_cons, List.filterMap_nil, hz]
        refine ⟨by rw [List.length_append, hl1]; rfl, fun j p hj => ?_⟩
        by_cases hjn : j < n
        · rw [List.getElem?_append_left (by omega)] at hj
          exact ⟨by omega, (hl2 j p hj).2⟩
        · rw [List.getElem?_append_right (by omega), hl1] at hj
          by_cases hj0 : j - n = 0
          · rw [hj0] at hj
            simp at hj
            have : j = n := by omega
            subst this
            exact ⟨by omega, by rw [hz, hj]⟩
          · obtain ⟨q, hq⟩ : ∃ q, j - n = q + 1 := ⟨j - n - 1, by omega⟩
            rw [hq] at hj
            simp at hj
    obtain ⟨hl1, hl2⟩ := hlen len (Nat.le_refl len)
    refine ⟨(List.range len).filterMap f, ⟨some a, cap, by rw [hl1], by rw [hl1]; exact hl, rfl, by rw [hl1]; unfold maxLen at hm; omega, fun _ => ⟨a, rfl, fun j p hj => ?_⟩⟩, by rw [hl1]; omega, fun y hy => ?_⟩
    · obtain ⟨hjl, hfj⟩ := hl2 j p hj
      obtain ⟨z, c, h0, hcl, hk, _, hat⟩ := hf j hjl
      obtain rfl : z = p := by rw [hfj] at h0; exact (Option.some.inj h0).symm
      exact ⟨c, hcl, hk, hat⟩
    · obtain ⟨i, hi', hfi⟩ := List.mem_filterMap.mp hy
      obtain ⟨z, _, h0, _, _, hg, _⟩ := hf i (List.mem_range.mp hi')
      obtain rfl : z = y := by rw [hfi] at h0; exact (Option.some.inj h0).symm
      exact hg⟩

theorem Opens.iso {α β : Type} {P : Program} {t : TypeId} {d : Kd α} {G : α → Prop} (f : β → α) (g : α → β) (hfg : ∀ a, f (g a) = a) (h : Opens P t d G) : Opens P t (Kd.iso d f) (fun b => G (f b)) := ⟨fun q => by
  obtain ⟨y, hk, hg⟩ := h.out q
  exact ⟨g y, by show d.K _ (f (g y)) _; rw [hfg]; exact hk, by show G (f (g y)); rw [hfg]; exact hg⟩⟩

/-- the cells of a struct's fields from one on, field by field -/
structure Fields {α : Type} (P : Program) (fs : List Field) (o : Nat) (d : Kd α) (G : α → Prop) : Prop where
  out : ∀ {H : Type} {enc : TypeId × Value → H} {w : World} {base : Nat} {spare : Nat → Bool} {held : Bool} {n : Nat} {cs : List Value},
    cs.length = o + d.sz → (∀ (j : Nat) (f : Field), fs[j]? = some f → ∃ x : DataW H × List MemPlace, DataW.trod enc P w base spare held n f.type ((cs.drop f.offset).take (P.cellsOf f.type)) = some x) →
    ∃ y, d.K w y (cs.drop o) ∧ G y

theorem Fields.one {α : Type} {P : Program} {l : List Field} {f : Field} {o : Nat} {d : Kd α} {G : α → Prop} (hl : l = [f]) (ho : f.offset = o) {t : TypeId} (ht : f.type = t) (h : Opens P t d G) (hs : P.cellsOf t = d.sz) : Fields P l o d G := ⟨fun {H enc w base spare held n cs} hn hf => by
  subst hl
  subst ht
  obtain ⟨x, hx⟩ := hf 0 f rfl
  rw [ho, hs, List.take_of_length_le (by rw [List.length_drop]; omega)] at hx
  exact h.out hx⟩

theorem Fields.cons {α β : Type} {P : Program} {l : List Field} {f : Field} {fs : List Field} {o o' : Nat} {d : Kd α} {d' : Kd β} {G : α → Prop} {G' : β → Prop} (hl : l = f :: fs) (ho : f.offset = o) {t : TypeId} (ht : f.type = t) (h : Opens P t d G) (hs : P.cellsOf t = d.sz) (h' : Fields P fs o' d' G') (ho' : o' = o + d.sz) :
    Fields P l o (Kd.pair d d') (fun p => G p.1 ∧ G' p.2) := ⟨fun {H enc w base spare held n cs} hn hf => by
  subst hl
  subst ho'
  subst ht
  have hl' : cs.length = o + (d.sz + d'.sz) := hn
  obtain ⟨x, hx⟩ := hf 0 f rfl
  rw [ho, hs] at hx
  obtain ⟨y, hk, hg⟩ := h.out hx
  obtain ⟨y', hk', hg'⟩ := h'.out (by omega) (fun j g hj => hf (j + 1) g hj)
  refine ⟨(y, y'), ⟨(cs.drop o).take d.sz, cs.drop (o + d.sz), ?_, hk, hk'⟩, hg, hg'⟩
  rw [← List.drop_drop, List.take_append_drop]⟩

theorem Opens.struct {α : Type} {P : Program} {t : TypeId} {fs : Array Field} {d : Kd α} {G : α → Prop} (h : P.underlying t = some (.struct fs)) (hf : Fields P fs.toList 0 d G) (hs : P.cellsOf t = d.sz) : Opens P t d G := ⟨fun {H enc w base spare held fuel cs x} q => by
  obtain ⟨xs, n, _, _, hlen, hxl, hg⟩ := DataW.trod_struct h q
  obtain ⟨y, hk, hy⟩ := hf.out (cs := cs) (by rw [hlen, hs, Nat.zero_add]) (fun j f hj => by
    rw [Array.getElem?_toList] at hj
    have hjl : j < fs.size := (Array.getElem?_eq_some_iff.1 hj).1
    have := hg j f hj
    rw [List.getElem?_eq_getElem (by omega)] at this
    exact ⟨_, this⟩)
  exact ⟨y, hk, hy⟩⟩
end Go.Proofs.Ytdamnfkpfhoahaa.Opens
namespace Go.Proofs.Ytdamnfkpfhoahaa.PFnNewState
open Go.RowKit Go.Proofs.YtdamnfkpfhoahaaW.PrintWords Go.Proofs.YtdamnfkpfhoahaaW.PrintLast Go.Proofs.YtdamnfkpfhoahaaW.PrintMore
set_option linter.unusedVariables false
set_option linter.unusedSimpArgs false

attribute [local go_sem high] eqA45
def bits (n m : Nat) : Array Bool := ((List.range n).map fun i => m.testBit i).toArray
theorem C0 {α : Type} {d : Kd α} {W : World} {A : Option Addr} {xs : List α} (h : xs.length = 0) : Kd.C d W A xs.length xs := by
  obtain rfl : xs = [] := List.eq_nil_of_length_eq_zero h
  exact ⟨rfl, by simp, fun h => absurd h (Nat.lt_irrefl 0)⟩
def laws_FnNewState.judge (k : Nat) (v1 v2 : ByteArray) : Option Bool :=
  (impl_NewState.f k v1 v2).bind fun x => (spec_NewState.f k v1 v2).bind fun y => (laws_sameState.f k x.1 x.2.1 x.2.2.1 x.2.2.2.1 x.2.2.2.2.1 x.2.2.2.2.2 y.1 y.2.1 y.2.2.1 y.2.2.2.1 y.2.2.2.2.1 y.2.2.2.2.2).bind fun t =>
    if t = true ∧ x.2.2.1.length = 0 ∧ x.2.2.2.1.length = 0 ∧ y.2.2.1.length = 0 ∧ y.2.2.2.1.length = 0 then
      (impl_IntervalValid.f k v1 v2).bind fun q => if q = false then
        (laws_noState.f k x.1 x.2.1 x.2.2.1 x.2.2.2.1 x.2.2.2.2.1 x.2.2.2.2.2).bind fun n => (laws_alive.f k).bind fun al => if n = true ∧ al = true then some true else none
      else (impl_StateValid.f k x.1 x.2.1 x.2.2.1 x.2.2.2.1 x.2.2.2.2.1 x.2.2.2.2.2).bind fun n => (laws_alive.f k).bind fun al => if n = true ∧ al = true ∧ x.1 = v1 ∧ x.2.1 = v2 ∧ x.2.2.2.2.1 = false then some true else none
    else none
def laws_FnNewState.f (k : Nat) (l : List Int) : Option Bool :=
  if (l.length : Int) > 1048576 then some true else (spec_DrawNewState.f k l).bind fun x => laws_FnNewState.judge k x.1 x.2
def laws_FnNewState.T5 : Bool × List (List Nat × List Nat) := (true, [([], []), ([], []), ([1], [1]), ([0, 2, 2], [0, 2]), ([3], [3])])
def laws_FnNewState.B5 : List Nat := [0, 0, 2, 7, 15]
theorem laws_FnNewState.tab5 : rtab .any (opsOf Try.f10 5) = laws_FnNewState.T5 := by kernel_rfl
theorem laws_FnNewState.bits5 : waitsOk laws_FnNewState.T5.2 laws_FnNewState.B5 = true := by kernel_rfl

set_option maxHeartbeats 4000000 in
set_option maxRecDepth 100000 in
theorem laws_FnNewState.calls (k : Nat) (A0 : Option Addr) (c0 : Nat) (l0 : List Int) (r : Bool) (w : World) (hr0 : Kd.C (Kd.int .u8) w A0 l0.length l0) (hc0 : l0.length ≤ c0) (h : laws_FnNewState.f k l0 = some r) :
    Calls Try.prog 10 #[.slice A0 l0.length c0] w fun e w' => e = .returned (.bool r) ∧ Below w.heap.size w w' := by
  have hu := Try.underlying49
  have hu2 := Try.underlying45
  have B0 := Aside0.mk (Below.refl w.heap.size w)
  have HR0 := Aside0.mk hr0
  have HC0 := Aside0.mk hc0
  clear hr0 hc0
  unfold laws_FnNewState.f at h
  by_cases hl : (l0.length : Int) > 1048576
  · rw [if_pos hl] at h
    obtain rfl := Option.some.inj h
    have cl : decide ((l0.length : Int) > 1048576) = true := decide_eq_true hl
    clear h hl
    go_enter Try.func10, Try.ntmps10
    go_wp2
    go_ret
    exact ⟨rfl, Below.refl _ _⟩
  · rw [if_neg hl] at h
    have cl : decide ((l0.length : Int) > 1048576) = false := decide_eq_false hl
    clear hl
    replace h := Option.bind_eq_some_iff.mp h
    obtain ⟨⟨v1, v2⟩, h1, h⟩ := h
    have J1 := Aside0.mk h1
    clear h1
    unfold laws_FnNewState.judge at h
    dsimp only at h
    replace h := Option.bind_eq_some_iff.mp h
    obtain ⟨⟨x1, x2, x3, x4, x5, x6⟩, h2, h⟩ := h
    replace h := Option.bind_eq_some_iff.mp h
    obtain ⟨⟨y1, y2, y3, y4, y5, y6⟩, h3, h⟩ := h
    replace h := Option.bind_eq_some_iff.mp h
    obtain ⟨t, h4, h⟩ := h
    dsimp only at h4 h
    by_cases hj : t = true ∧ x3.length = 0 ∧ x4.length = 0 ∧ y3.length = 0 ∧ y4.length = 0
    · rw [if_pos hj] at h
      obtain ⟨rfl, hx3, hx4, hy3, hy4⟩ := hj
      have J2 := Aside0.mk h2
      have J3 := Aside0.mk h3
      have J4 := Aside0.mk h4
      have HZx3 := Aside0.mk hx3
      have HZx4 := Aside0.mk hx4
      have HZy3 := Aside0.mk hy3
      have HZy4 := Aside0.mk hy4
      have z3 : ((x3.length : Int) == 0) = true := by simp [hx3]
      have z4 : ((x4.length : Int) == 0) = true := by simp [hx4]
      clear h2 h3 h4 hx3 hx4 hy3 hy4
      replace h := Option.bind_eq_some_iff.mp h
      obtain ⟨q, h5, h⟩ := h
      have J5 := Aside0.mk h5
      clear h5
      cases q with
      | false =>
        rw [if_pos rfl] at h
        replace h := Option.bind_eq_some_iff.mp h
        obtain ⟨n, h6, h⟩ := h
        replace h := Option.bind_eq_some_iff.mp h
        obtain ⟨al, h7, h⟩ := h
        by_cases hj : n = true ∧ al = true
        · rw [if_pos hj] at h
          obtain ⟨rfl, rfl⟩ := hj
          obtain rfl := Option.some.inj h
          have J6 := Aside0.mk h6
          have J7 := Aside0.mk h7
          clear h h6 h7
          go_enter Try.func10, Try.ntmps10
          go_wp2_with (first
            | (go_at_call 32; (with_reducible refine (spec_DrawNewState.calls k _ _ l0 v1 v2 w HR0.out HC0.out J1.out).mono ?_); rintro e w1 ⟨rfl, hb⟩; have B1 := Aside0.mk hb; clear hb)
            | ((with_reducible refine gate_dst (N := 3) rfl ?_); refine box_event ?hg (N := 3) ?hd (cs := #[.string (⟨#[]⟩ : ByteArray), .string (⟨#[]⟩ : ByteArray)]) (t := 45) ?hr ?_; (case hd => rfl); (case hg => rfl); (case hr => first | (go_simp; done) | (go_simp; rfl)); intro gV hg w2 hc hb; have B2 := Aside0.mk (below_step B1.out hb); have FgV2 := Aside0.mk hc; have LgV := Aside0.mk (Nat.le_of_eq hg.symm); clear hb hc hg; have cgV2_0 : w2.cell? ⟨gV, 0, none⟩ = some (.string (⟨#[]⟩ : ByteArray)) := (blk_cell FgV2.out 0).trans rfl; have cgV2_1 : w2.cell? ⟨gV, 1, none⟩ = some (.string (⟨#[]⟩ : ByteArray)) := (blk_cell FgV2.out 1).trans rfl; have fgV2_0 := blk_frozen FgV2.out 0; have fgV2_1 := blk_frozen FgV2.out 1)
            | ((with_reducible refine gate_store (t := 45) (p := 3) rfl ?_); refine store_event (t := 45) (p := 3) (v := ?vo_gV) (w1 := ((w2.setCell ⟨gV, 0, none⟩ (.string v1)).setCell ⟨gV, 1, none⟩ (.string v2))) ?hg ?ho ?hn ?hr ?_; (case ho => rfl); (case hg => rfl); (case hn => rfl); (case hr => first | (go_simp; done) | (go_simp; rfl)); intro w3 hw; have FgV3 := Aside0.mk (show w3.heap[gV]? = some (.cells #[.string v1, .string v2] 45 (0, 0)) from hw ▸ (blk_put (blk_put FgV2.out 0 _ rfl) 1 _ rfl)); have B3 := Aside0.mk (show Below w.heap.size w w3 from hw ▸ (below_set (below_set B2.out (Nat.le_trans (below_size B1.out) LgV.out)) (Nat.le_trans (below_size B1.out) LgV.out))); clear hw; have cgV3_0 : w3.cell? ⟨gV, 0, none⟩ = some (.string v1) := (blk_cell FgV3.out 0).trans rfl; have cgV3_1 : w3.cell? ⟨gV, 1, none⟩ = some (.string v2) := (blk_cell FgV3.out 1).trans rfl)
            | (go_at_call 28; (with_reducible refine (impl_NewState.calls k v1 v2 x1 x2 x3 x4 x5 x6 w3 J2.out).mono ?_); rintro e w4 ⟨v2_, v3_, rfl, h2, h3, hb⟩; have FgV4 := Aside0.mk (blk_below FgV3.out hb); have B4 := Aside0.mk (below_step B3.out hb); obtain ⟨AX2, kX2, e2⟩ := Kd.R_slice h2; subst e2; obtain ⟨AX3, kX3, e3⟩ := Kd.R_slice h3; subst e3; have LX2 := Aside0.mk (Kd.R_reads' h2).2.1; have LX3 := Aside0.mk (Kd.R_reads' h3).2.1; clear h2 h3; clear hb; have cgV4_0 : w4.cell? ⟨gV, 0, none⟩ = some (.string v1) := (blk_cell FgV4.out 0).trans rfl; have cgV4_1 : w4.cell? ⟨gV, 1, none⟩ = some (.string v2) := (blk_cell FgV4.out 1).trans rfl)
            | ((with_reducible refine gate_dst (N := 4) rfl ?_); refine box_event ?hg (N := 4) ?hd (cs := #[.string (⟨#[]⟩ : ByteArray), .string (⟨#[]⟩ : ByteArray), .slice none 0 0, .slice none 0 0, .bool false, .string (⟨#[]⟩ : ByteArray)]) (t := 49) ?hr ?_; (case hd => rfl); (case hg => rfl); (case hr => first | (go_simp; done) | (go_simp; rfl)); intro gX hg w5 hc hb; have FgV5 := Aside0.mk (blk_below FgV4.out hb); have B5 := Aside0.mk (below_step B4.out hb); have FgX5 := Aside0.mk hc; have LgX := Aside0.mk (Nat.le_of_eq hg.symm); have NgVgX := Aside0.mk (Nat.ne_of_lt (hg ▸ blk_lt FgV4.out)); clear hb hc hg; have cgX5_0 : w5.cell? ⟨gX, 0, none⟩ = some (.string (⟨#[]⟩ : ByteArray)) := (blk_cell FgX5.out 0).trans rfl; have cgX5_1 : w5.cell? ⟨gX, 1, none⟩ = some (.string (⟨#[]⟩ : ByteArray)) := (blk_cell FgX5.out 1).trans rfl; have cgX5_2 : w5.cell? ⟨gX, 2, none⟩ = some (.slice none 0 0) := (blk_cell FgX5.out 2).trans rfl; have cgX5_3 : w5.cell? ⟨gX, 3, none⟩ = some (.slice none 0 0) := (blk_cell FgX5.out 3).trans rfl; have cgX5_4 : w5.cell? ⟨gX, 4, none⟩ = some (.bool false) := (blk_cell FgX5.out 4).trans rfl; have cgX5_5 : w5.cell? ⟨gX, 5, none⟩ = some (.string (⟨#[]⟩ : ByteArray)) := (blk_cell FgX5.out 5).trans rfl; have fgX5_0 := blk_frozen FgX5.out 0; have fgX5_1 := blk_frozen FgX5.out 1; have fgX5_2 := blk_frozen FgX5.out 2; have fgX5_3 := blk_frozen FgX5.out 3; have fgX5_4 := blk_frozen FgX5.out 4; have fgX5_5 := blk_frozen FgX5.out 5)
            | ((with_reducible refine gate_store (t := 49) (p := 4) rfl ?_); refine store_event (t := 49) (p := 4) (v := ?vo_gX) (w1 := ((((((w5.setCell ⟨gX, 0, none⟩ (.string x1)).setCell ⟨gX, 1, none⟩ (.string x2)).setCell ⟨gX, 2, none⟩ (.slice AX2 x3.length kX2)).setCell ⟨gX, 3, none⟩ (.slice AX3 x4.length kX3)).setCell ⟨gX, 4, none⟩ (.bool x5)).setCell ⟨gX, 5, none⟩ (.string x6))) ?hg ?ho ?hn ?hr ?_; (case ho => rfl); (case hg => rfl); (case hn => rfl); (case hr => first | (go_simp; done) | (go_simp; rfl)); intro w6 hw; have FgV6 := Aside0.mk (show w6.heap[gV]? = _ from hw ▸ (blk_far (blk_far (blk_far (blk_far (blk_far (blk_far FgV5.out (p := ⟨gX, 0, none⟩) NgVgX.out _) (p := ⟨gX, 1, none⟩) NgVgX.out _) (p := ⟨gX, 2, none⟩) NgVgX.out _) (p := ⟨gX, 3, none⟩) NgVgX.out _) (p := ⟨gX, 4, none⟩) NgVgX.out _) (p := ⟨gX, 5, none⟩) NgVgX.out _)); have FgX6 := Aside0.mk (show w6.heap[gX]? = some (.cells #[.string x1, .string x2, .slice AX2 x3.length kX2, .slice AX3 x4.length kX3, .bool x5, .string x6] 49 (0, 0)) from hw ▸ (blk_put (blk_put (blk_put (blk_put (blk_put (blk_put FgX5.out 0 _ rfl) 1 _ rfl) 2 _ rfl) 3 _ rfl) 4 _ rfl) 5 _ rfl)); have B6 := Aside0.mk (show Below w.heap.size w w6 from hw ▸ (below_set (below_set (below_set (below_set (below_set (below_set B5.out (Nat.le_trans (below_size B4.out) LgX.out)) (Nat.le_trans (below_size B4.out) LgX.out)) (Nat.le_trans (below_size B4.out) LgX.out)) (Nat.le_trans (below_size B4.out) LgX.out)) (Nat.le_trans (below_size B4.out) LgX.out)) (Nat.le_trans (below_size B4.out) LgX.out))); clear hw; have cgV6_0 : w6.cell? ⟨gV, 0, none⟩ = some (.string v1) := (blk_cell FgV6.out 0).trans rfl; have cgV6_1 : w6.cell? ⟨gV, 1, none⟩ = some (.string v2) := (blk_cell FgV6.out 1).trans rfl; have cgX6_0 : w6.cell? ⟨gX, 0, none⟩ = some (.string x1) := (blk_cell FgX6.out 0).trans rfl; have cgX6_1 : w6.cell? ⟨gX, 1, none⟩ = some (.string x2) := (blk_cell FgX6.out 1).trans rfl; have cgX6_2 : w6.cell? ⟨gX, 2, none⟩ = some (.slice AX2 x3.length kX2) := (blk_cell FgX6.out 2).trans rfl; have cgX6_3 : w6.cell? ⟨gX, 3, none⟩ = some (.slice AX3 x4.length kX3) := (blk_cell FgX6.out 3).trans rfl; have cgX6_4 : w6.cell? ⟨gX, 4, none⟩ = some (.bool x5) := (blk_cell FgX6.out 4).trans rfl; have cgX6_5 : w6.cell? ⟨gX, 5, none⟩ = some (.string x6) := (blk_cell FgX6.out 5).trans rfl))
          refine start_ (n := 5) (S := fun W => W.heap[gV]? = some (.cells #[.string v1, .string v2] 45 (0, 0)) ∧ W.heap[gX]? = some (.cells #[.string x1, .string x2, .slice AX2 x3.length kX2, .slice AX3 x4.length kX3, .bool x5, .string x6] 49 (0, 0))) (ds := []) #[false, false, false, false, false] (by kernel_rfl) rfl rfl (⟨blk_drew FgV6.out, blk_drew FgX6.out⟩) (fun hHeld => ?_); refine with_tabW laws_FnNewState.tab5 laws_FnNewState.bits5 (fun HT_ HW_ => ?_)
          have B7 := Aside0.mk (below_drew B6.out)
          generalize w6.drew = w7 at B7 hHeld ⊢
          refine take_ (i := 0) (N := some 12) (v := ?_) (a' := ?_) (bits 5 1) rfl rfl (take_ofW HT_.out HW_.out (by kernel_rfl)) (fun _ _ _ h => h) (Or.inl ⟨by rfl, ?_⟩) hHeld ?_ ?_
          rotate_left
          · intro w' hS
            have hgX0 : w'.cell? ⟨gX, 0, none⟩ = some (.string x1) := (blk_cell hS.2 0).trans rfl
            have hgX1 : w'.cell? ⟨gX, 1, none⟩ = some (.string x2) := (blk_cell hS.2 1).trans rfl
            have hgX2 : w'.cell? ⟨gX, 2, none⟩ = some (.slice AX2 x3.length kX2) := (blk_cell hS.2 2).trans rfl
            have hgX3 : w'.cell? ⟨gX, 3, none⟩ = some (.slice AX3 x4.length kX3) := (blk_cell hS.2 3).trans rfl
            have hgX4 : w'.cell? ⟨gX, 4, none⟩ = some (.bool x5) := (blk_cell hS.2 4).trans rfl
            have hgX5 : w'.cell? ⟨gX, 5, none⟩ = some (.string x6) := (blk_cell hS.2 5).trans rfl
            go_simp
            with_reducible rfl
          rotate_left
          · simp only [Act.put, List.setIfInBounds_toArray, List.set_cons_zero, List.set_cons_succ, i64_w, i32_w]
            rfl
          refine take_ (i := 1) (N := some 13) (v := ?_) (a' := ?_) (bits 5 3) rfl rfl (take_ofW HT_.out HW_.out (by kernel_rfl)) (fun _ _ _ h => h) (Or.inl ⟨by rfl, ?_⟩) hHeld ?_ ?_
          rotate_left
          · intro w' hS
            have hgV0 : w'.cell? ⟨gV, 0, none⟩ = some (.string v1) := (blk_cell hS.1 0).trans rfl
            have hgV1 : w'.cell? ⟨gV, 1, none⟩ = some (.string v2) := (blk_cell hS.1 1).trans rfl
            go_simp
            with_reducible rfl
          rotate_left
          · simp only [Act.put, List.setIfInBounds_toArray, List.set_cons_zero, List.set_cons_succ, i64_w, i32_w]
            rfl
          refine one_ (i := 2) (N := some 14) (bits 5 7) rfl rfl (one_of HT_.out (by kernel_rfl)) (by decide) (fun K hK => ?_)
          refine goes_ Try.func26 (by kernel_rfl) rfl #[.agg #[.string v1, .string v2]] (by rfl) rfl rfl (by (try simp only [List.map_toArray, List.map_cons, List.map_nil]); rfl) ?_
          with_reducible refine (spec_NewState.calls k v1 v2 y1 y2 y3 y4 y5 y6 w7 J3.out).mono ?_
          rintro e w8 ⟨v2_, v3_, rfl, h2, h3, hb⟩
          refine ⟨_, rfl, ?_⟩
          obtain ⟨AY2, kY2, e2⟩ := Kd.R_slice h2
          subst e2
          obtain ⟨AY3, kY3, e3⟩ := Kd.R_slice h3
          subst e3
          have LY2 := Aside0.mk (Kd.R_reads' h2).2.1
          have LY3 := Aside0.mk (Kd.R_reads' h3).2.1
          have hF := And.intro (blk_below hHeld.1 hb) (blk_below hHeld.2 hb)
          have B8 := Aside0.mk (below_step B7.out hb)
          clear h2 h3 hb hHeld
          refine hK.out _ _ hF (fun hHeld => ?_)
          clear hK K
          refine norm_ (a' := ?_) ?_ ?_
          rotate_left
          · show Act.put _ (some 14) _ = _
            simp only [Act.put, List.setIfInBounds_toArray, List.set_cons_zero, List.set_cons_succ, i64_w, i32_w]
            rfl
          refine one_ (i := 3) (N := some 15) (bits 5 15) rfl rfl (one_of HT_.out (by kernel_rfl)) (by decide) (fun K hK => ?_)
          refine goes_ Try.func33 (by kernel_rfl) rfl #[.agg #[.string x1, .string x2, .slice AX2 x3.length kX2, .slice AX3 x4.length kX3, .bool x5, .string x6], .agg #[.string y1, .string y2, .slice AY2 y3.length kY2, .slice AY3 y4.length kY3, .bool y5, .string y6]] (by rfl) rfl rfl (by (try simp only [List.map_toArray, List.map_cons, List.map_nil]); rfl) ?_
          with_reducible refine (laws_sameState.calls k x1 x2 _ _ x3 _ _ x4 x5 x6 y1 y2 _ _ y3 _ _ y4 y5 y6 true w8 (C0 HZx3.out) LX2.out (C0 HZx4.out) LX3.out (C0 HZy3.out) LY2.out (C0 HZy4.out) LY3.out J4.out).mono ?_
          rintro e w9 ⟨rfl, hb⟩
          refine ⟨_, rfl, ?_⟩
          have hF := And.intro (blk_below hHeld.1 hb) (blk_below hHeld.2 hb)
          have B9 := Aside0.mk (below_step B8.out hb)
          clear hb hHeld
          refine hK.out _ _ hF (fun hHeld => ?_)
          clear hK K
          refine norm_ (a' := ?_) ?_ ?_
          rotate_left
          · show Act.put _ (some 15) _ = _
            simp only [Act.put, List.setIfInBounds_toArray, List.set_cons_zero, List.set_cons_succ, i64_w, i32_w]
            rfl
          refine pure_ (i := 4) (N := some 16) (v := ?_) (a' := ?_) (bits 5 31) rfl rfl (any_of HT_.out (by kernel_rfl)) (fun _ _ _ h => h) (Or.inl ⟨by rfl, ?_⟩) ?_ ?_
          rotate_left
          · intro w'
            go_simp
            with_reducible rfl
          rotate_left
          · simp only [Act.put, List.setIfInBounds_toArray, List.set_cons_zero, List.set_cons_succ, i64_w, i32_w]
            rfl
          refine done_ (done_of HT_.out (by kernel_rfl)) ?_
          have FgV9 := Aside0.mk hHeld.1
          have FgX9 := Aside0.mk hHeld.2
          clear hHeld
          have cgV9_0 : w9.cell? ⟨gV, 0, none⟩ = some (.string v1) := (blk_cell FgV9.out 0).trans rfl
          have cgV9_1 : w9.cell? ⟨gV, 1, none⟩ = some (.string v2) := (blk_cell FgV9.out 1).trans rfl
          have cgX9_0 : w9.cell? ⟨gX, 0, none⟩ = some (.string x1) := (blk_cell FgX9.out 0).trans rfl
          have cgX9_1 : w9.cell? ⟨gX, 1, none⟩ = some (.string x2) := (blk_cell FgX9.out 1).trans rfl
          have cgX9_2 : w9.cell? ⟨gX, 2, none⟩ = some (.slice AX2 x3.length kX2) := (blk_cell FgX9.out 2).trans rfl
          have cgX9_3 : w9.cell? ⟨gX, 3, none⟩ = some (.slice AX3 x4.length kX3) := (blk_cell FgX9.out 3).trans rfl
          have cgX9_4 : w9.cell? ⟨gX, 4, none⟩ = some (.bool x5) := (blk_cell FgX9.out 4).trans rfl
          have cgX9_5 : w9.cell? ⟨gX, 5, none⟩ = some (.string x6) := (blk_cell FgX9.out 5).trans rfl
          go_wp2_with (first
            | (go_at_call 34; (with_reducible refine (impl_IntervalValid.calls k v1 v2 false w9 J5.out).mono ?_); rintro e w10 ⟨rfl, hb⟩; have FgV10 := Aside0.mk (blk_below FgV9.out hb); have FgX10 := Aside0.mk (blk_below FgX9.out hb); have B10 := Aside0.mk (below_step B9.out hb); clear hb; have cgV10_0 : w10.cell? ⟨gV, 0, none⟩ = some (.string v1) := (blk_cell FgV10.out 0).trans rfl; have cgV10_1 : w10.cell? ⟨gV, 1, none⟩ = some (.string v2) := (blk_cell FgV10.out 1).trans rfl; have cgX10_0 : w10.cell? ⟨gX, 0, none⟩ = some (.string x1) := (blk_cell FgX10.out 0).trans rfl; have cgX10_1 : w10.cell? ⟨gX, 1, none⟩ = some (.string x2) := (blk_cell FgX10.out 1).trans rfl; have cgX10_2 : w10.cell? ⟨gX, 2, none⟩ = some (.slice AX2 x3.length kX2) := (blk_cell FgX10.out 2).trans rfl; have cgX10_3 : w10.cell? ⟨gX, 3, none⟩ = some (.slice AX3 x4.length kX3) := (blk_cell FgX10.out 3).trans rfl; have cgX10_4 : w10.cell? ⟨gX, 4, none⟩ = some (.bool x5) := (blk_cell FgX10.out 4).trans rfl; have cgX10_5 : w10.cell? ⟨gX, 5, none⟩ = some (.string x6) := (blk_cell FgX10.out 5).trans rfl)
            | (go_at_call 35; (with_reducible refine (laws_noState.calls k x1 x2 _ _ x3 _ _ x4 x5 x6 true w10 (C0 HZx3.out) LX2.out (C0 HZx4.out) LX3.out J6.out).mono ?_); rintro e w11 ⟨rfl, hb⟩; have FgV11 := Aside0.mk (blk_below FgV10.out hb); have FgX11 := Aside0.mk (blk_below FgX10.out hb); have B11 := Aside0.mk (below_step B10.out hb); clear hb; have cgV11_0 : w11.cell? ⟨gV, 0, none⟩ = some (.string v1) := (blk_cell FgV11.out 0).trans rfl; have cgV11_1 : w11.cell? ⟨gV, 1, none⟩ = some (.string v2) := (blk_cell FgV11.out 1).trans rfl; have cgX11_0 : w11.cell? ⟨gX, 0, none⟩ = some (.string x1) := (blk_cell FgX11.out 0).trans rfl; have cgX11_1 : w11.cell? ⟨gX, 1, none⟩ = some (.string x2) := (blk_cell FgX11.out 1).trans rfl; have cgX11_2 : w11.cell? ⟨gX, 2, none⟩ = some (.slice AX2 x3.length kX2) := (blk_cell FgX11.out 2).trans rfl; have cgX11_3 : w11.cell? ⟨gX, 3, none⟩ = some (.slice AX3 x4.length kX3) := (blk_cell FgX11.out 3).trans rfl; have cgX11_4 : w11.cell? ⟨gX, 4, none⟩ = some (.bool x5) := (blk_cell FgX11.out 4).trans rfl; have cgX11_5 : w11.cell? ⟨gX, 5, none⟩ = some (.string x6) := (blk_cell FgX11.out 5).trans rfl)
            | (go_at_call 22; (with_reducible refine (laws_alive.calls k true w11 J7.out).mono ?_); rintro e w12 ⟨rfl, hb⟩; have FgV12 := Aside0.mk (blk_below FgV11.out hb); have FgX12 := Aside0.mk (blk_below FgX11.out hb); have B12 := Aside0.mk (below_step B11.out hb); clear hb; have cgV12_0 : w12.cell? ⟨gV, 0, none⟩ = some (.string v1) := (blk_cell FgV12.out 0).trans rfl; have cgV12_1 : w12.cell? ⟨gV, 1, none⟩ = some (.string v2) := (blk_cell FgV12.out 1).trans rfl; have cgX12_0 : w12.cell? ⟨gX, 0, none⟩ = some (.string x1) := (blk_cell FgX12.out 0).trans rfl; have cgX12_1 : w12.cell? ⟨gX, 1, none⟩ = some (.string x2) := (blk_cell FgX12.out 1).trans rfl; have cgX12_2 : w12.cell? ⟨gX, 2, none⟩ = some (.slice AX2 x3.length kX2) := (blk_cell FgX12.out 2).trans rfl; have cgX12_3 : w12.cell? ⟨gX, 3, none⟩ = some (.slice AX3 x4.length kX3) := (blk_cell FgX12.out 3).trans rfl; have cgX12_4 : w12.cell? ⟨gX, 4, none⟩ = some (.bool x5) := (blk_cell FgX12.out 4).trans rfl; have cgX12_5 : w12.cell? ⟨gX, 5, none⟩ = some (.string x6) := (blk_cell FgX12.out 5).trans rfl))
          go_ret
          exact ⟨rfl, B12.out⟩
        · rw [if_neg hj] at h
          cases h
      | true =>
        rw [if_neg (by simp)] at h
        replace h := Option.bind_eq_some_iff.mp h
        obtain ⟨n, h6, h⟩ := h
        replace h := Option.bind_eq_some_iff.mp h
        obtain ⟨al, h7, h⟩ := h
        by_cases hj : n = true ∧ al = true ∧ x1 = v1 ∧ x2 = v2 ∧ x5 = false
        · rw [if_pos hj] at h
          obtain ⟨rfl, rfl, hv1, hv2, rfl⟩ := hj
          obtain rfl := Option.some.inj h
          have J6 := Aside0.mk h6
          have J7 := Aside0.mk h7
          have g1 : (x1.toList == v1.toList) = true := by simp [hv1]
          have g2 : (x2.toList == v2.toList) = true := by simp [hv2]
          clear h h6 h7 hv1 hv2
          go_enter Try.func10, Try.ntmps10
          go_wp2_with (first
            | (go_at_call 32; (with_reducible refine (spec_DrawNewState.calls k _ _ l0 v1 v2 w HR0.out HC0.out J1.out).mono ?_); rintro e w1 ⟨rfl, hb⟩; have B1 := Aside0.mk hb; clear hb)
            | ((with_reducible refine gate_dst (N := 3) rfl ?_); refine box_event ?hg (N := 3) ?hd (cs := #[.string (⟨#[]⟩ : ByteArray), .string (⟨#[]⟩ : ByteArray)]) (t := 45) ?hr ?_; (case hd => rfl); (case hg => rfl); (case hr => first | (go_simp; done) | (go_simp; rfl)); intro gV hg w2 hc hb; have B2 := Aside0.mk (below_step B1.out hb); have FgV2 := Aside0.mk hc; have LgV := Aside0.mk (Nat.le_of_eq hg.symm); clear hb hc hg; have cgV2_0 : w2.cell? ⟨gV, 0, none⟩ = some (.string (⟨#[]⟩ : ByteArray)) := (blk_cell FgV2.out 0).trans rfl; have cgV2_1 : w2.cell? ⟨gV, 1, none⟩ = some (.string (⟨#[]⟩ : ByteArray)) := (blk_cell FgV2.out 1).trans rfl; have fgV2_0 := blk_frozen FgV2.out 0; have fgV2_1 := blk_frozen FgV2.out 1)
            | ((with_reducible refine gate_store (t := 45) (p := 3) rfl ?_); refine store_event (t := 45) (p := 3) (v := ?vo_gV) (w1 := ((w2.setCell ⟨gV, 0, none⟩ (.string v1)).setCell ⟨gV, 1, none⟩ (.string v2))) ?hg ?ho ?hn ?hr ?_; (case ho => rfl); (case hg => rfl); (case hn => rfl); (case hr => first | (go_simp; done) | (go_simp; rfl)); intro w3 hw; have FgV3 := Aside0.mk (show w3.heap[gV]? = some (.cells #[.string v1, .string v2] 45 (0, 0)) from hw ▸ (blk_put (blk_put FgV2.out 0 _ rfl) 1 _ rfl)); have B3 := Aside0.mk (show Below w.heap.size w w3 from hw ▸ (below_set (below_set B2.out (Nat.le_trans (below_size B1.out) LgV.out)) (Nat.le_trans (below_size B1.out) LgV.out))); clear hw; have cgV3_0 : w3.cell? ⟨gV, 0, none⟩ = some (.string v1) := (blk_cell FgV3.out 0).trans rfl; have cgV3_1 : w3.cell? ⟨gV, 1, none⟩ = some (.string v2) := (blk_cell FgV3.out 1).trans rfl)
            | (go_at_call 28; (with_reducible refine (impl_NewState.calls k v1 v2 x1 x2 x3 x4 false x6 w3 J2.out).mono ?_); rintro e w4 ⟨v2_, v3_, rfl, h2, h3, hb⟩; have FgV4 := Aside0.mk (blk_below FgV3.out hb); have B4 := Aside0.mk (below_step B3.out hb); obtain ⟨AX2, kX2, e2⟩ := Kd.R_slice h2; subst e2; obtain ⟨AX3, kX3, e3⟩ := Kd.R_slice h3; subst e3; have LX2 := Aside0.mk (Kd.R_reads' h2).2.1; have LX3 := Aside0.mk (Kd.R_reads' h3).2.1; clear h2 h3; clear hb; have cgV4_0 : w4.cell? ⟨gV, 0, none⟩ = some (.string v1) := (blk_cell FgV4.out 0).trans rfl; have cgV4_1 : w4.cell? ⟨gV, 1, none⟩ = some (.string v2) := (blk_cell FgV4.out 1).trans rfl)
            | ((with_reducible refine gate_dst (N := 4) rfl ?_); refine box_event ?hg (N := 4) ?hd (cs := #[.string (⟨#[]⟩ : ByteArray), .string (⟨#[]⟩ : ByteArray), .slice none 0 0, .slice none 0 0, .bool false, .string (⟨#[]⟩ : ByteArray)]) (t := 49) ?hr ?_; (case hd => rfl); (case hg => rfl); (case hr => first | (go_simp; done) | (go_simp; rfl)); intro gX hg w5 hc hb; have FgV5 := Aside0.mk (blk_below FgV4.out hb); have B5 := Aside0.mk (below_step B4.out hb); have FgX5 := Aside0.mk hc; have LgX := Aside0.mk (Nat.le_of_eq hg.symm); have NgVgX := Aside0.mk (Nat.ne_of_lt (hg ▸ blk_lt FgV4.out)); clear hb hc hg; have cgX5_0 : w5.cell? ⟨gX, 0, none⟩ = some (.string (⟨#[]⟩ : ByteArray)) := (blk_cell FgX5.out 0).trans rfl; have cgX5_1 : w5.cell? ⟨gX, 1, none⟩ = some (.string (⟨#[]⟩ : ByteArray)) := (blk_cell FgX5.out 1).trans rfl; have cgX5_2 : w5.cell? ⟨gX, 2, none⟩ = some (.slice none 0 0) := (blk_cell FgX5.out 2).trans rfl; have cgX5_3 : w5.cell? ⟨gX, 3, none⟩ = some (.slice none 0 0) := (blk_cell FgX5.out 3).trans rfl; have cgX5_4 : w5.cell? ⟨gX, 4, none⟩ = some (.bool false) := (blk_cell FgX5.out 4).trans rfl; have cgX5_5 : w5.cell? ⟨gX, 5, none⟩ = some (.string (⟨#[]⟩ : ByteArray)) := (blk_cell FgX5.out 5).trans rfl; have fgX5_0 := blk_frozen FgX5.out 0; have fgX5_1 := blk_frozen FgX5.out 1; have fgX5_2 := blk_frozen FgX5.out 2; have fgX5_3 := blk_frozen FgX5.out 3; have fgX5_4 := blk_frozen FgX5.out 4; have fgX5_5 := blk_frozen FgX5.out 5)
            | ((with_reducible refine gate_store (t := 49) (p := 4) rfl ?_); refine store_event (t := 49) (p := 4) (v := ?vo_gX) (w1 := ((((((w5.setCell ⟨gX, 0, none⟩ (.string x1)).setCell ⟨gX, 1, none⟩ (.string x2)).setCell ⟨gX, 2, none⟩ (.slice AX2 x3.length kX2)).setCell ⟨gX, 3, none⟩ (.slice AX3 x4.length kX3)).setCell ⟨gX, 4, none⟩ (.bool false)).setCell ⟨gX, 5, none⟩ (.string x6))) ?hg ?ho ?hn ?hr ?_; (case ho => rfl); (case hg => rfl); (case hn => rfl); (case hr => first | (go_simp; done) | (go_simp; rfl)); intro w6 hw; have FgV6 := Aside0.mk (show w6.heap[gV]? = _ from hw ▸ (blk_far (blk_far (blk_far (blk_far (blk_far (blk_far FgV5.out (p := ⟨gX, 0, none⟩) NgVgX.out _) (p := ⟨gX, 1, none⟩) NgVgX.out _) (p := ⟨gX, 2, none⟩) NgVgX.out _) (p := ⟨gX, 3, none⟩) NgVgX.out _) (p := ⟨gX, 4, none⟩) NgVgX.out _) (p := ⟨gX, 5, none⟩) NgVgX.out _)); have FgX6 := Aside0.mk (show w6.heap[gX]? = some (.cells #[.string x1, .string x2, .slice AX2 x3.length kX2, .slice AX3 x4.length kX3, .bool false, .string x6] 49 (0, 0)) from hw ▸ (blk_put (blk_put (blk_put (blk_put (blk_put (blk_put FgX5.out 0 _ rfl) 1 _ rfl) 2 _ rfl) 3 _ rfl) 4 _ rfl) 5 _ rfl)); have B6 := Aside0.mk (show Below w.heap.size w w6 from hw ▸ (below_set (below_set (below_set (below_set (below_set (below_set B5.out (Nat.le_trans (below_size B4.out) LgX.out)) (Nat.le_trans (below_size B4.out) LgX.out)) (Nat.le_trans (below_size B4.out) LgX.out)) (Nat.le_trans (below_size B4.out) LgX.out)) (Nat.le_trans (below_size B4.out) LgX.out)) (Nat.le_trans (below_size B4.out) LgX.out))); clear hw; have cgV6_0 : w6.cell? ⟨gV, 0, none⟩ = some (.string v1) := (blk_cell FgV6.out 0).trans rfl; have cgV6_1 : w6.cell? ⟨gV, 1, none⟩ = some (.string v2) := (blk_cell FgV6.out 1).trans rfl; have cgX6_0 : w6.cell? ⟨gX, 0, none⟩ = some (.string x1) := (blk_cell FgX6.out 0).trans rfl; have cgX6_1 : w6.cell? ⟨gX, 1, none⟩ = some (.string x2) := (blk_cell FgX6.out 1).trans rfl; have cgX6_2 : w6.cell? ⟨gX, 2, none⟩ = some (.slice AX2 x3.length kX2) := (blk_cell FgX6.out 2).trans rfl; have cgX6_3 : w6.cell? ⟨gX, 3, none⟩ = some (.slice AX3 x4.length kX3) := (blk_cell FgX6.out 3).trans rfl; have cgX6_4 : w6.cell? ⟨gX, 4, none⟩ = some (.bool false) := (blk_cell FgX6.out 4).trans rfl; have cgX6_5 : w6.cell? ⟨gX, 5, none⟩ = some (.string x6) := (blk_cell FgX6.out 5).trans rfl))
          refine start_ (n := 5) (S := fun W => W.heap[gV]? = some (.cells #[.string v1, .string v2] 45 (0, 0)) ∧ W.heap[gX]? = some (.cells #[.string x1, .string x2, .slice AX2 x3.length kX2, .slice AX3 x4.length kX3, .bool false, .string x6] 49 (0, 0))) (ds := []) #[false, false, false, false, false] (by kernel_rfl) rfl rfl (⟨blk_drew FgV6.out, blk_drew FgX6.out⟩) (fun hHeld => ?_); refine with_tabW laws_FnNewState.tab5 laws_FnNewState.bits5 (fun HT_ HW_ => ?_)
          have B7 := Aside0.mk (below_drew B6.out)
          generalize w6.drew = w7 at B7 hHeld ⊢
          refine take_ (i := 0) (N := some 12) (v := ?_) (a' := ?_) (bits 5 1) rfl rfl (take_ofW HT_.out HW_.out (by kernel_rfl)) (fun _ _ _ h => h) (Or.inl ⟨by rfl, ?_⟩) hHeld ?_ ?_
          rotate_left
          · intro w' hS
            have hgX0 : w'.cell? ⟨gX, 0, none⟩ = some (.string x1) := (blk_cell hS.2 0).trans rfl
            have hgX1 : w'.cell? ⟨gX, 1, none⟩ = some (.string x2) := (blk_cell hS.2 1).trans rfl
            have hgX2 : w'.cell? ⟨gX, 2, none⟩ = some (.slice AX2 x3.length kX2) := (blk_cell hS.2 2).trans rfl
            have hgX3 : w'.cell? ⟨gX, 3, none⟩ = some (.slice AX3 x4.length kX3) := (blk_cell hS.2 3).trans rfl
            have hgX4 : w'.cell? ⟨gX, 4, none⟩ = some (.bool false) := (blk_cell hS.2 4).trans rfl
            have hgX5 : w'.cell? ⟨gX, 5, none⟩ = some (.string x6) := (blk_cell hS.2 5).trans rfl
            go_simp
            with_reducible rfl
          rotate_left
          · simp only [Act.put, List.setIfInBounds_toArray, List.set_cons_zero, List.set_cons_succ, i64_w, i32_w]
            rfl
          refine take_ (i := 1) (N := some 13) (v := ?_) (a' := ?_) (bits 5 3) rfl rfl (take_ofW HT_.out HW_.out (by kernel_rfl)) (fun _ _ _ h => h) (Or.inl ⟨by rfl, ?_⟩) hHeld ?_ ?_
          rotate_left
          · intro w' hS
            have hgV0 : w'.cell? ⟨gV, 0, none⟩ = some (.string v1) := (blk_cell hS.1 0).trans rfl
            have hgV1 : w'.cell? ⟨gV, 1, none⟩ = some (.string v2) := (blk_cell hS.1 1).trans rfl
            go_simp
            with_reducible rfl
          rotate_left
          · simp only [Act.put, List.setIfInBounds_toArray, List.set_cons_zero, List.set_cons_succ, i64_w, i32_w]
            rfl
          refine one_ (i := 2) (N := some 14) (bits 5 7) rfl rfl (one_of HT_.out (by kernel_rfl)) (by decide) (fun K hK => ?_)
          refine goes_ Try.func26 (by kernel_rfl) rfl #[.agg #[.string v1, .string v2]] (by rfl) rfl rfl (by (try simp only [List.map_toArray, List.map_cons, List.map_nil]); rfl) ?_
          with_reducible refine (spec_NewState.calls k v1 v2 y1 y2 y3 y4 y5 y6 w7 J3.out).mono ?_
          rintro e w8 ⟨v2_, v3_, rfl, h2, h3, hb⟩
          refine ⟨_, rfl, ?_⟩
          obtain ⟨AY2, kY2, e2⟩ := Kd.R_slice h2
          subst e2
          obtain ⟨AY3, kY3, e3⟩ := Kd.R_slice h3
          subst e3
          have LY2 := Aside0.mk (Kd.R_reads' h2).2.1
          have LY3 := Aside0.mk (Kd.R_reads' h3).2.1
          have hF := And.intro (blk_below hHeld.1 hb) (blk_below hHeld.2 hb)
          have B8 := Aside0.mk (below_step B7.out hb)
          clear h2 h3 hb hHeld
          refine hK.out _ _ hF (fun hHeld => ?_)
          clear hK K
          refine norm_ (a' := ?_) ?_ ?_
          rotate_left
          · show Act.put _ (some 14) _ = _
            simp only [Act.put, List.setIfInBounds_toArray, List.set_cons_zero, List.set_cons_succ, i64_w, i32_w]
            rfl
          refine one_ (i := 3) (N := some 15) (bits 5 15) rfl rfl (one_of HT_.out (by kernel_rfl)) (by decide) (fun K hK => ?_)
          refine goes_ Try.func33 (by kernel_rfl) rfl #[.agg #[.string x1, .string x2, .slice AX2 x3.length kX2, .slice AX3 x4.length kX3, .bool false, .string x6], .agg #[.string y1, .string y2, .slice AY2 y3.length kY2, .slice AY3 y4.length kY3, .bool y5, .string y6]] (by rfl) rfl rfl (by (try simp only [List.map_toArray, List.map_cons, List.map_nil]); rfl) ?_
          with_reducible refine (laws_sameState.calls k x1 x2 _ _ x3 _ _ x4 false x6 y1 y2 _ _ y3 _ _ y4 y5 y6 true w8 (C0 HZx3.out) LX2.out (C0 HZx4.out) LX3.out (C0 HZy3.out) LY2.out (C0 HZy4.out) LY3.out J4.out).mono ?_
          rintro e w9 ⟨rfl, hb⟩
          refine ⟨_, rfl, ?_⟩
          have hF := And.intro (blk_below hHeld.1 hb) (blk_below hHeld.2 hb)
          have B9 := Aside0.mk (below_step B8.out hb)
          clear hb hHeld
          refine hK.out _ _ hF (fun hHeld => ?_)
          clear hK K
          refine norm_ (a' := ?_) ?_ ?_
          rotate_left
          · show Act.put _ (some 15) _ = _
            simp only [Act.put, List.setIfInBounds_toArray, List.set_cons_zero, List.set_cons_succ, i64_w, i32_w]
            rfl
          refine pure_ (i := 4) (N := some 16) (v := ?_) (a' := ?_) (bits 5 31) rfl rfl (any_of HT_.out (by kernel_rfl)) (fun _ _ _ h => h) (Or.inl ⟨by rfl, ?_⟩) ?_ ?_
          rotate_left
          · intro w'
            go_simp
            with_reducible rfl
          rotate_left
          · simp only [Act.put, List.setIfInBounds_toArray, List.set_cons_zero, List.set_cons_succ, i64_w, i32_w]
            rfl
          refine done_ (done_of HT_.out (by kernel_rfl)) ?_
          have FgV9 := Aside0.mk hHeld.1
          have FgX9 := Aside0.mk hHeld.2
          clear hHeld
          have cgV9_0 : w9.cell? ⟨gV, 0, none⟩ = some (.string v1) := (blk_cell FgV9.out 0).trans rfl
          have cgV9_1 : w9.cell? ⟨gV, 1, none⟩ = some (.string v2) := (blk_cell FgV9.out 1).trans rfl
          have cgX9_0 : w9.cell? ⟨gX, 0, none⟩ = some (.string x1) := (blk_cell FgX9.out 0).trans rfl
          have cgX9_1 : w9.cell? ⟨gX, 1, none⟩ = some (.string x2) := (blk_cell FgX9.out 1).trans rfl
          have cgX9_2 : w9.cell? ⟨gX, 2, none⟩ = some (.slice AX2 x3.length kX2) := (blk_cell FgX9.out 2).trans rfl
          have cgX9_3 : w9.cell? ⟨gX, 3, none⟩ = some (.slice AX3 x4.length kX3) := (blk_cell FgX9.out 3).trans rfl
          have cgX9_4 : w9.cell? ⟨gX, 4, none⟩ = some (.bool false) := (blk_cell FgX9.out 4).trans rfl
          have cgX9_5 : w9.cell? ⟨gX, 5, none⟩ = some (.string x6) := (blk_cell FgX9.out 5).trans rfl
          go_wp2_with (first
            | (go_at_call 34; (with_reducible refine (impl_IntervalValid.calls k v1 v2 true w9 J5.out).mono ?_); rintro e w10 ⟨rfl, hb⟩; have FgV10 := Aside0.mk (blk_below FgV9.out hb); have FgX10 := Aside0.mk (blk_below FgX9.out hb); have B10 := Aside0.mk (below_step B9.out hb); clear hb; have cgV10_0 : w10.cell? ⟨gV, 0, none⟩ = some (.string v1) := (blk_cell FgV10.out 0).trans rfl; have cgV10_1 : w10.cell? ⟨gV, 1, none⟩ = some (.string v2) := (blk_cell FgV10.out 1).trans rfl; have cgX10_0 : w10.cell? ⟨gX, 0, none⟩ = some (.string x1) := (blk_cell FgX10.out 0).trans rfl; have cgX10_1 : w10.cell? ⟨gX, 1, none⟩ = some (.string x2) := (blk_cell FgX10.out 1).trans rfl; have cgX10_2 : w10.cell? ⟨gX, 2, none⟩ = some (.slice AX2 x3.length kX2) := (blk_cell FgX10.out 2).trans rfl; have cgX10_3 : w10.cell? ⟨gX, 3, none⟩ = some (.slice AX3 x4.length kX3) := (blk_cell FgX10.out 3).trans rfl; have cgX10_4 : w10.cell? ⟨gX, 4, none⟩ = some (.bool false) := (blk_cell FgX10.out 4).trans rfl; have cgX10_5 : w10.cell? ⟨gX, 5, none⟩ = some (.string x6) := (blk_cell FgX10.out 5).trans rfl)
            | (go_at_call 36; (with_reducible refine (impl_StateValid.calls k x1 x2 _ _ x3 _ _ x4 false x6 true w10 (C0 HZx3.out) LX2.out (C0 HZx4.out) LX3.out J6.out).mono ?_); rintro e w11 ⟨rfl, hb⟩; have FgV11 := Aside0.mk (blk_below FgV10.out hb); have FgX11 := Aside0.mk (blk_below FgX10.out hb); have B11 := Aside0.mk (below_step B10.out hb); clear hb; have cgV11_0 : w11.cell? ⟨gV, 0, none⟩ = some (.string v1) := (blk_cell FgV11.out 0).trans rfl; have cgV11_1 : w11.cell? ⟨gV, 1, none⟩ = some (.string v2) := (blk_cell FgV11.out 1).trans rfl; have cgX11_0 : w11.cell? ⟨gX, 0, none⟩ = some (.string x1) := (blk_cell FgX11.out 0).trans rfl; have cgX11_1 : w11.cell? ⟨gX, 1, none⟩ = some (.string x2) := (blk_cell FgX11.out 1).trans rfl; have cgX11_2 : w11.cell? ⟨gX, 2, none⟩ = some (.slice AX2 x3.length kX2) := (blk_cell FgX11.out 2).trans rfl; have cgX11_3 : w11.cell? ⟨gX, 3, none⟩ = some (.slice AX3 x4.length kX3) := (blk_cell FgX11.out 3).trans rfl; have cgX11_4 : w11.cell? ⟨gX, 4, none⟩ = some (.bool false) := (blk_cell FgX11.out 4).trans rfl; have cgX11_5 : w11.cell? ⟨gX, 5, none⟩ = some (.string x6) := (blk_cell FgX11.out 5).trans rfl)
            | (go_at_call 22; (with_reducible refine (laws_alive.calls k true w11 J7.out).mono ?_); rintro e w12 ⟨rfl, hb⟩; have FgV12 := Aside0.mk (blk_below FgV11.out hb); have FgX12 := Aside0.mk (blk_below FgX11.out hb); have B12 := Aside0.mk (below_step B11.out hb); clear hb; have cgV12_0 : w12.cell? ⟨gV, 0, none⟩ = some (.string v1) := (blk_cell FgV12.out 0).trans rfl; have cgV12_1 : w12.cell? ⟨gV, 1, none⟩ = some (.string v2) := (blk_cell FgV12.out 1).trans rfl; have cgX12_0 : w12.cell? ⟨gX, 0, none⟩ = some (.string x1) := (blk_cell FgX12.out 0).trans rfl; have cgX12_1 : w12.cell? ⟨gX, 1, none⟩ = some (.string x2) := (blk_cell FgX12.out 1).trans rfl; have cgX12_2 : w12.cell? ⟨gX, 2, none⟩ = some (.slice AX2 x3.length kX2) := (blk_cell FgX12.out 2).trans rfl; have cgX12_3 : w12.cell? ⟨gX, 3, none⟩ = some (.slice AX3 x4.length kX3) := (blk_cell FgX12.out 3).trans rfl; have cgX12_4 : w12.cell? ⟨gX, 4, none⟩ = some (.bool false) := (blk_cell FgX12.out 4).trans rfl; have cgX12_5 : w12.cell? ⟨gX, 5, none⟩ = some (.string x6) := (blk_cell FgX12.out 5).trans rfl))
          go_ret
          exact ⟨rfl, B12.out⟩
        · rw [if_neg hj] at h
          cases h
    · rw [if_neg hj] at h
      cases h

end Go.Proofs.Ytdamnfkpfhoahaa.PFnNewState
namespace Go.Proofs.Ytdamnfkpfhoahaa.Pure
open Go.RowKit Go.Proofs.Ytdamnfkpfhoahaa.PFnNewState Go.Proofs.YtdamnfkpfhoahaaW.PrintWords Go.Proofs.YtdamnfkpfhoahaaW.PrintLast
def FnNewState.Said : Prop := ∀ (l0 : (List Int)), (l0.length ≤ maxLen ∧ ∀ y ∈ l0, (Lit.int .u8 y).wf = true) → ∃ k, laws_FnNewState.f k l0 = some true
end Go.Proofs.Ytdamnfkpfhoahaa.Pure
namespace Go.Proofs.Ytdamnfkpfhoahaa.Pure
open Go.RowKit Go.Proofs.Ytdamnfkpfhoahaa.PFnNewState Go.Proofs.YtdamnfkpfhoahaaW.PrintWords Go.Proofs.YtdamnfkpfhoahaaW.PrintLast
set_option linter.unusedVariables false
set_option linter.unusedSimpArgs false
def Evn (P : Nat → Prop) : Prop := ∃ K, ∀ k, K ≤ k → P k
theorem Evn.all {P : Nat → Prop} (h : ∀ k, P k) : Evn P := ⟨0, fun k _ => h k⟩
theorem Evn.mp {P Q : Nat → Prop} (hp : Evn P) (hq : Evn fun k => P k → Q k) : Evn Q := by
  obtain ⟨K1, h1⟩ := hp
  obtain ⟨K2, h2⟩ := hq
  exact ⟨max K1 K2, fun k hk => h2 k (by omega) (h1 k (by omega))⟩
theorem Evn.succ {P : Nat → Prop} (h : Evn fun k => P (k + 1)) : Evn P := by
  obtain ⟨K, h⟩ := h
  refine ⟨K + 1, fun k hk => ?_⟩
  obtain ⟨m, rfl⟩ : ∃ m, k = m + 1 := ⟨k - 1, by omega⟩
  exact h m (by omega)
theorem Evn.some {P : Nat → Prop} (h : Evn P) : ∃ k, P k := by
  obtain ⟨K, h⟩ := h
  exact ⟨K, h K (Nat.le_refl K)⟩
theorem w64 {x : Int} (h0 : -9223372036854775808 ≤ x) (h1 : x ≤ 9223372036854775807) : wrap64 x = x := by
  unfold wrap64
  omega
theorem rd_drop {xs : List Int} {j : Nat} (h : j < xs.length) : xs.drop j = rd xs (j : Int) :: xs.drop (j + 1) := by
  rw [List.drop_eq_getElem_cons h]
  simp [rd, List.getD_eq_getElem?_getD, List.getElem?_eq_getElem h]
theorem ba_append (a b : ByteArray) : (a ++ b).data.toList = a.data.toList ++ b.data.toList := by
  rw [ByteArray.data_append, Array.toList_append]
theorem bytes_str {xs : List Int} (h : ∀ x ∈ xs, 0 ≤ x ∧ x ≤ 255) : bytesOf (strOfNums xs) = xs := by
  rw [bytesOf, strOfNums_data, List.map_map]
  refine (List.map_congr_left (g := id) fun x hx => ?_).trans (List.map_id _)
  have := h x hx
  simp only [Function.comp, id]
  rw [UInt8.toNat_ofNat_of_lt' (by simp [UInt8.size]; omega)]
  omega
theorem ba_toList (s : ByteArray) : s.toList = s.data.toList := Lib.toList_data s
def lowB (x : Int) : Bool := decide (97 ≤ x) && decide (x ≤ 122)
def keyB (s : ByteArray) : Bool := decide (1 ≤ s.size) && decide (s.size ≤ 4) && (bytesOf s).all lowB
theorem bt_drop' {s : ByteArray} {j : Nat} (h : j < s.size) : (bytesOf s).drop j = bt s (j : Int) :: (bytesOf s).drop (j + 1) := by
  rw [rd_drop (by rw [bytesOf_length]; exact h), rd_bytesOf]
theorem bytesOf_tail (s : ByteArray) : bytesOf (s.extract 1 s.size) = (bytesOf s).drop 1 := by
  unfold bytesOf
  rw [← List.map_drop]
  refine congrArg _ ?_
  rw [ByteArray.data_extract, Array.toList_extract]
  rw [List.extract_eq_take_drop, List.take_of_length_le (by rw [List.length_drop, data_length]; omega)]
theorem nil_iff (s : ByteArray) : s.toList = ([] : List UInt8) ↔ s.size = 0 := by
  rw [ba_toList]
  refine ⟨fun h => ?_, fun h => ?_⟩
  · have := data_length s
    rw [h] at this
    exact this.symm
  · exact List.eq_nil_of_length_eq_zero (by rw [data_length]; exact h)
def ltB (a b : ByteArray) : Bool := Op.bytesLess a.toList b.toList
def okP (p : S76) : Bool := keyB p.f0 && decide (0 ≤ p.f1 ∧ p.f1 ≤ 999)
def aboveP (p : Option ByteArray) (c : ByteArray) : Bool := match p with
  | none => true
  | some q => ltB q c
def prG : Option ByteArray → List S76 → Bool
  | _, [] => true
  | p, s :: r => okP s && (aboveP p s.f0 && prG (some s.f0) r)
def prB (l : List S76) : Bool := decide (l.length ≤ 48) && prG none l
def prP (l : List S76) (j : Nat) : Option ByteArray := if j = 0 then none else some (l.getD (j - 1) z76).f0
theorem pr_nat {l : List S76} {j : Nat} (h : j < l.length) : rd_T76 l (j : Int) = l[j] := by
  simp [rd_T76, List.getD_eq_getElem?_getD, List.getElem?_eq_getElem h]
theorem pr_drop {l : List S76} {j : Nat} (h : j < l.length) : l.drop j = rd_T76 l (j : Int) :: l.drop (j + 1) := by
  rw [pr_nat h, List.drop_eq_getElem_cons h]
theorem pr_prev (l : List S76) (j : Nat) : prP l (j + 1) = some (rd_T76 l (j : Int)).f0 := by
  unfold prP rd_T76
  rw [if_neg (by omega), Int.toNat_natCast, Nat.add_sub_cancel]
theorem prB_len {l : List S76} (h : prB l = true) : l.length ≤ 48 := by
  unfold prB at h
  rw [Bool.and_eq_true, decide_eq_true_eq] at h
  exact h.1
def prJ (l : List S76) (j : Nat) : Bool := prG (prP l j) (l.drop j)
theorem prJ_end {l : List S76} {j : Nat} (h : ¬ j < l.length) : prJ l j = true := by
  unfold prJ
  rw [List.drop_of_length_le (by omega)]
  rfl
theorem prJ_step {l : List S76} {j : Nat} (h : j < l.length) :
    prJ l j = (keyB (rd_T76 l (j : Int)).f0 && (decide (0 ≤ (rd_T76 l (j : Int)).f1 ∧ (rd_T76 l (j : Int)).f1 ≤ 999) && ((if j = 0 then true else ltB (rd_T76 l ((j - 1 : Nat) : Int)).f0 (rd_T76 l (j : Int)).f0) && prJ l (j + 1)))) := by
  unfold prJ
  rw [pr_drop h, pr_prev]
  simp only [prG]
  unfold okP
  by_cases hj : j = 0
  · subst hj
    simp [prP, aboveP, Bool.and_assoc]
  · obtain ⟨i, rfl⟩ : ∃ i, j = i + 1 := ⟨j - 1, by omega⟩
    rw [pr_prev, if_neg hj, Nat.add_sub_cancel]
    simp [aboveP, Bool.and_assoc]
def ivB (lo hi : ByteArray) : Bool :=
  if lo.toList = ([] : List UInt8) then (if hi.toList = ([] : List UInt8) then true else keyB hi && Op.bytesLess [97] hi.toList)
  else keyB lo && (if hi.toList = ([] : List UInt8) then true else keyB hi && Op.bytesLess lo.toList hi.toList)
def insB (lo hi key : ByteArray) : Bool := !(Op.bytesLess key.toList lo.toList) && (if hi.toList = ([] : List UInt8) then true else Op.bytesLess key.toList hi.toList)
def cutB (lo hi key : ByteArray) : Bool := ivB lo hi && (keyB key && (ivB lo key && ivB key hi))
theorem key_a {s : ByteArray} (h : keyB s = true) : Op.bytesLess [97] s.toList = (Op.bytesLess [] s.toList && (s.toList != ([97] : List UInt8))) := by
  unfold keyB at h
  rw [Bool.and_eq_true, Bool.and_eq_true, decide_eq_true_eq] at h
  have h2 := h.2
  unfold bytesOf at h2
  rw [ba_toList]
  have hs : s.data.toList.length = s.size := data_length s
  generalize s.data.toList = x at *
  cases x with
  | nil => simp only [List.length_nil] at hs; omega
  | cons b r =>
    simp only [List.map_cons, List.all_cons, Bool.and_eq_true] at h2
    have hb := h2.1
    unfold lowB at hb
    rw [Bool.and_eq_true, decide_eq_true_eq] at hb
    have h97 : (97 : UInt8).toNat ≤ b.toNat := by have := hb.1; show 97 ≤ b.toNat; omega
    rw [show Op.bytesLess [] (b :: r) = true from rfl, Bool.true_and]
    simp only [Op.bytesLess]
    by_cases e : b = 97
    · subst e
      cases r with
      | nil => decide
      | cons c r => simp [Op.bytesLess]
    · have h3 : (97 : UInt8) < b := by
        rw [UInt8.lt_iff_toNat_lt]
        have : b.toNat ≠ (97 : UInt8).toNat := fun h => e (UInt8.toNat_inj.mp h)
        omega
      simp [h3, e]
theorem l1In (a b c : Int) : spec_l1In.f a b c = some (decide (b ≤ a ∧ a ≤ c)) := by
  unfold spec_l1In.f
  by_cases h : a ≥ b
  · rw [if_pos h]
    simp [h]
  · rw [if_neg h]
    simp [h]
theorem specKey_loop (s : ByteArray) (hs : s.size ≤ 4) (d : Nat) : ∀ j : Nat, j + d = s.size → Evn fun k => spec_KeyValid.l0 k s (j : Int) = some (((bytesOf s).drop j).all lowB) := by
  induction d with
  | zero =>
    intro j hj
    refine Evn.succ (Evn.all fun k => ?_)
    simp only [spec_KeyValid.l0]
    rw [if_neg (by omega), List.drop_of_length_le (by rw [bytesOf_length]; omega)]
    rfl
  | succ d ih =>
    intro j hj
    refine Evn.succ (Evn.mp (ih (j + 1) (by omega)) (Evn.all fun k e => ?_))
    simp only [spec_KeyValid.l0]
    rw [if_pos (by omega), if_pos (by omega), w64 (by omega) (by omega), bt_drop' (show j < s.size by omega), show ((j : Int) + 1) = ((j + 1 : Nat) : Int) by omega, e]
    unfold lowB
    by_cases h1 : bt s (j : Int) < 97
    · rw [if_pos h1]
      have : ¬ (97 : Int) ≤ bt s (j : Int) := by omega
      simp [this]
    · rw [if_neg h1]
      have a1 : (97 : Int) ≤ bt s (j : Int) := by omega
      by_cases h2 : bt s (j : Int) > 122
      · rw [if_pos h2]
        have : ¬ bt s (j : Int) ≤ 122 := by omega
        simp [this]
      · rw [if_neg h2]
        have : bt s (j : Int) ≤ 122 := by omega
        simp [a1, this]
theorem specKey (s : ByteArray) : Evn fun k => spec_KeyValid.f k s = some (keyB s) := by
  unfold keyB
  by_cases h : 1 ≤ s.size ∧ s.size ≤ 4
  · refine Evn.mp (specKey_loop s h.2 s.size 0 (by omega)) (Evn.all fun k e => ?_)
    unfold spec_KeyValid.f
    rw [l1In, decide_eq_true (by omega)]
    simp only [Option.bind_some, if_true]
    refine Eq.trans e ?_
    simp [h.1, h.2]
  · refine Evn.all fun k => ?_
    unfold spec_KeyValid.f
    rw [l1In, decide_eq_false (by omega)]
    simp only [Option.bind_some]
    rw [if_neg (by simp)]
    by_cases h1 : 1 ≤ s.size
    · have : ¬ s.size ≤ 4 := fun h2 => h ⟨h1, h2⟩
      simp [this]
    · simp [h1]
theorem specIv (lo hi : ByteArray) : Evn fun k => spec_IntervalValid.f k lo hi = some (ivB lo hi) := by
  refine Evn.mp (specKey lo) (Evn.mp (specKey hi) (Evn.all fun k e2 e1 => ?_))
  unfold spec_IntervalValid.f ivB
  rw [e1, e2]
  simp only [Option.bind_some]
  by_cases hl : lo.toList = ([] : List UInt8)
  · rw [if_pos hl, if_pos hl]
    by_cases hh : hi.toList = ([] : List UInt8)
    · rw [if_pos hh, if_pos hh]
    · rw [if_neg hh, if_neg hh]
      cases hk : keyB hi with
      | false => rfl
      | true =>
        rw [if_pos rfl, key_a hk, hl]
        cases Op.bytesLess [] hi.toList <;> simp
  · rw [if_neg hl, if_neg hl]
    cases keyB lo with
    | false => rfl
    | true =>
      rw [if_pos rfl]
      by_cases hh : hi.toList = ([] : List UInt8)
      · rw [if_pos hh, if_pos hh]
        rfl
      · rw [if_neg hh, if_neg hh]
        cases keyB hi with
        | false => rfl
        | true => cases Op.bytesLess lo.toList hi.toList <;> rfl
def cutV (lo hi key : ByteArray) : ByteArray × ByteArray × ByteArray × ByteArray × Bool := if cutB lo hi key = true then (lo, key, key, hi, true) else (⟨#[]⟩, ⟨#[]⟩, ⟨#[]⟩, ⟨#[]⟩, false)
theorem cutV_ok (lo hi key : ByteArray) : (cutV lo hi key).2.2.2.2 = cutB lo hi key := by
  unfold cutV
  cases cutB lo hi key <;> rfl
theorem implLetters (n : Nat) : ∀ s : ByteArray, s.size = n → Evn fun k => impl_lettersOnly.f k s = some ((bytesOf s).all lowB) := by
  induction n with
  | zero =>
    intro s hs
    refine Evn.succ (Evn.all fun k => ?_)
    simp only [impl_lettersOnly.f]
    rw [if_pos ((nil_iff s).mpr hs), List.eq_nil_of_length_eq_zero (l := bytesOf s) (by rw [bytesOf_length]; exact hs)]
    rfl
  | succ n ih =>
    intro s hs
    have hx := bt_drop' (s := s) (j := 0) (by omega)
    rw [List.drop_zero] at hx
    refine Evn.succ (Evn.mp (ih (s.extract 1 s.size) (by rw [ByteArray.size_extract]; omega)) (Evn.all fun k e => ?_))
    simp only [impl_lettersOnly.f]
    rw [if_neg (fun h => by have := (nil_iff s).mp h; omega), if_pos (by omega), e, bytesOf_tail, hx]
    simp only [Option.bind_some, List.all_cons, Nat.zero_add]
    unfold lowB
    rw [if_pos (show (1 : Int) ≤ (s.size : Int) by omega)]
    simp only [Int.ofNat_zero]
    by_cases h1 : bt s 0 ≥ 97
    · rw [if_pos h1]
      by_cases h2 : bt s 0 ≤ 122
      · rw [if_pos h2]
        have : (97 : Int) ≤ bt s 0 := h1
        simp [this, h2]
      · rw [if_neg h2]
        simp [h2]
    · rw [if_neg h1]
      have : ¬ (97 : Int) ≤ bt s 0 := h1
      simp [this]
theorem implKey (s : ByteArray) : Evn fun k => impl_KeyValid.f k s = some (keyB s) := by
  refine Evn.mp (implLetters s.size s rfl) (Evn.all fun k e => ?_)
  unfold impl_KeyValid.f keyB
  by_cases h1 : s.size < 1
  · rw [if_pos (by omega)]
    have : ¬ 1 ≤ s.size := by omega
    simp [this]
  · rw [if_neg (by omega)]
    have a1 : 1 ≤ s.size := by omega
    by_cases h2 : s.size > 4
    · rw [if_pos (by omega)]
      have : ¬ s.size ≤ 4 := by omega
      simp [this]
    · rw [if_neg (by omega), e]
      have a2 : s.size ≤ 4 := by omega
      simp [a1, a2]
theorem implIv (lo hi : ByteArray) : Evn fun k => impl_IntervalValid.f k lo hi = some (ivB lo hi) := by
  refine Evn.mp (implKey lo) (Evn.mp (implKey hi) (Evn.all fun k e2 e1 => ?_))
  unfold impl_IntervalValid.f ivB impl_lowestKey.f
  rw [e1, e2]
  simp only [Option.bind_some]
  by_cases hl : lo.toList = ([] : List UInt8)
  · simp only [if_pos hl, Option.bind_some]
    by_cases hh : hi.toList = ([] : List UInt8)
    · rw [if_pos hh, if_pos hh]
    · rw [if_neg hh, if_neg hh]
      have ha : (⟨#[97]⟩ : ByteArray).toList = [97] := by rw [ba_toList]
      rw [ha]
      cases keyB hi <;> rfl
  · simp only [if_neg hl, Option.bind_some]
    cases keyB lo with
    | false => rfl
    | true =>
      rw [if_pos rfl]
      by_cases hh : hi.toList = ([] : List UInt8)
      · rw [if_pos hh, if_pos hh]
        rfl
      · rw [if_neg hh, if_neg hh]
        cases keyB hi <;> rfl
theorem implIns (lo hi key : ByteArray) : impl_inside.f lo hi key = some (insB lo hi key) := by
  unfold impl_inside.f insB
  cases Op.bytesLess key.toList lo.toList with
  | true => rfl
  | false =>
    rw [if_neg (by simp)]
    by_cases hh : hi.toList = ([] : List UInt8)
    · rw [if_pos hh, if_pos hh]
      rfl
    · rw [if_neg hh, if_neg hh]
      rfl
def newB (lo hi : ByteArray) : ByteArray × ByteArray × List S76 × List S90 × Bool × ByteArray := if ivB lo hi = true then (lo, hi, [], [], false, ⟨#[]⟩) else (⟨#[]⟩, ⟨#[]⟩, [], [], false, ⟨#[]⟩)
theorem specNew (lo hi : ByteArray) : Evn fun k => spec_NewState.f k lo hi = some (newB lo hi) := by
  refine Evn.mp (specIv lo hi) (Evn.all fun k e => ?_)
  unfold spec_NewState.f newB
  rw [e]
  simp only [Option.bind_some]
  cases ivB lo hi <;> rfl
theorem implNew (lo hi : ByteArray) : Evn fun k => impl_NewState.f k lo hi = some (newB lo hi) := by
  refine Evn.mp (implIv lo hi) (Evn.all fun k e => ?_)
  unfold impl_NewState.f newB
  rw [e]
  simp only [Option.bind_some]
  cases ivB lo hi <;> rfl
def Code (b : List Int) : Prop := b.length ≤ 2000 ∧ ∀ x ∈ b, 0 ≤ x ∧ x ≤ 255
theorem rd_code {b : List Int} (h : Code b) (i : Int) : 0 ≤ rd b i ∧ rd b i ≤ 255 := by
  unfold rd
  rw [List.getD_eq_getElem?_getD]
  by_cases hi : i.toNat < b.length
  · rw [List.getElem?_eq_getElem hi]
    exact h.2 _ (List.getElem_mem hi)
  · rw [List.getElem?_eq_none (by omega)]
    simp
theorem xor_pos (a b : Int) (ha0 : 0 ≤ a) (ha1 : a < 4611686018427387904) (hb0 : 0 ≤ b) (hb1 : b < 4611686018427387904) : 0 ≤ Go.bits .xor .i64 a b := by
  obtain ⟨n, rfl⟩ := Int.eq_ofNat_of_zero_le ha0
  obtain ⟨m, rfl⟩ := Int.eq_ofNat_of_zero_le hb0
  have hn : n < 2 ^ 62 := by omega
  have hm : m < 2 ^ 62 := by omega
  have hx := Nat.xor_lt_two_pow hn hm
  have n64 : n % 2 ^ 64 = n := Nat.mod_eq_of_lt (by omega)
  have m64 : m % 2 ^ 64 = m := Nat.mod_eq_of_lt (by omega)
  have e : Go.bits .xor .i64 (n : Int) (m : Int) = IntKind.i64.wrap ((n ^^^ m : Nat) : Int) := by
    show IntKind.i64.wrap (((BitVec.ofInt 64 (n : Int) ^^^ BitVec.ofInt 64 (m : Int)).toNat : Nat) : Int) = _
    rw [BitVec.ofInt_natCast, BitVec.ofInt_natCast, BitVec.toNat_xor, BitVec.toNat_ofNat, BitVec.toNat_ofNat, n64, m64]
  rw [e, IntKind.wrap_i64]
  omega
theorem spec_pick (b : List Int) (hb : Code b) (p n : Int) (h0 : 0 ≤ p) (h1 : p ≤ 1099511627776) :
    ∃ r, 0 ≤ r ∧ (1 ≤ n → r < n) ∧ (n ≤ 1 → r = 0) ∧ Evn fun k => spec_l20Rd_pick.f k b p n = some (r, p + 1) := by
  have hw : wrap64 (p + 1) = p + 1 := w64 (by omega) (by omega)
  by_cases hn : n < 1
  · refine ⟨0, by omega, by omega, by omega, Evn.succ (Evn.all fun k => ?_)⟩
    unfold spec_l20Rd_pick.f
    rw [if_pos hn, hw]
    simp only [spec_l20Rd_pick.j0]
    rw [if_pos trivial]
  · by_cases hl : b.length = 0
    · refine ⟨0, by omega, by omega, by omega, Evn.succ (Evn.all fun k => ?_)⟩
      unfold spec_l20Rd_pick.f
      rw [if_neg hn, hw, hl]
      simp only [spec_l20Rd_pick.j0]
      rw [if_pos (by rfl)]
    · have hl1 : 1 ≤ (b.length : Int) := by omega
      have hle : ((b.length : Int) == 0) = false := by simpa using hl
      have e1 : wrap64 (p + 1 - 1) = p := by rw [show p + 1 - 1 = p by omega]; exact w64 (by omega) (by omega)
      by_cases hp : p < (b.length : Int)
      · have hr := rd_code hb p
        refine ⟨Int.tmod (rd b p) n, Int.tmod_nonneg n hr.1, fun h => Int.tmod_lt_of_pos _ (by omega), fun h => ?_, Evn.succ (Evn.all fun k => ?_)⟩
        · have : n = 1 := by omega
          subst this
          exact Int.tmod_one _
        · unfold spec_l20Rd_pick.f
          rw [if_neg hn, hw, hle]
          simp only [spec_l20Rd_pick.j0]
          rw [if_neg (by simp), e1, if_pos hp, if_pos h0, if_neg (by omega), w64 (x := rd b p) (by omega) (by omega)]
      · have ei : Int.tmod p (b.length : Int) = p % (b.length : Int) := Int.tmod_eq_emod_of_nonneg h0
        have i0 : 0 ≤ p % (b.length : Int) := Int.emod_nonneg _ (by omega)
        have i1 : p % (b.length : Int) < (b.length : Int) := Int.emod_lt_of_pos _ (by omega)
        have e7 : wrap64 (wrap64 (p * 7) + 3) = p * 7 + 3 := by rw [w64 (x := p * 7) (by omega) (by omega), w64 (by omega) (by omega)]
        have ej : Int.tmod (p * 7 + 3) (b.length : Int) = (p * 7 + 3) % (b.length : Int) := Int.tmod_eq_emod_of_nonneg (by omega)
        have j0 : 0 ≤ (p * 7 + 3) % (b.length : Int) := Int.emod_nonneg _ (by omega)
        have j1 : (p * 7 + 3) % (b.length : Int) < (b.length : Int) := Int.emod_lt_of_pos _ (by omega)
        have eq : Int.tdiv p (b.length : Int) = p / (b.length : Int) := Int.tdiv_eq_ediv_of_nonneg h0
        have q0 : 0 ≤ p / (b.length : Int) := Int.ediv_nonneg h0 (by omega)
        have q1 : p / (b.length : Int) ≤ p := Int.ediv_le_self _ h0
        have hu := rd_code hb (p % (b.length : Int))
        have hv := rd_code hb ((p * 7 + 3) % (b.length : Int))
        have main : ∀ u v q : Int, 0 ≤ u → u ≤ 255 → 0 ≤ v → v ≤ 255 → 0 ≤ q → q ≤ p →
            ∃ x, wrap64 ((wrap64 ((wrap64 ((wrap64 ((wrap64 u) * 131)) + (wrap64 ((wrap64 v) * 1117)))) + (wrap64 (p * 29)))) + (wrap64 ((wrap64 q) * 53))) = x ∧ 0 ≤ x ∧ x < 4611686018427387904 ∧ 0 ≤ wrap64 (Int.tdiv x 64) ∧ wrap64 (Int.tdiv x 64) < 4611686018427387904 := by
          intro u v q u0 u1 v0 v1 q0 q1
          refine ⟨u * 131 + v * 1117 + p * 29 + q * 53, ?_, by omega, by omega, ?_, ?_⟩
          · rw [w64 (x := u) (by omega) (by omega), w64 (x := v) (by omega) (by omega), w64 (x := q) (by omega) (by omega), w64 (x := u * 131) (by omega) (by omega), w64 (x := v * 1117) (by omega) (by omega), w64 (x := p * 29) (by omega) (by omega), w64 (x := q * 53) (by omega) (by omega), w64 (x := u * 131 + v * 1117) (by omega) (by omega), w64 (x := u * 131 + v * 1117 + p * 29) (by omega) (by omega), w64 (by omega) (by omega)]
          all_goals
            rw [Int.tdiv_eq_ediv_of_nonneg (by omega), w64 (by omega) (by omega)]
            omega
        obtain ⟨x, hx, x0, x1, y0, y1⟩ := main _ _ _ hu.1 hu.2 hv.1 hv.2 q0 q1
        refine ⟨Int.tmod (Go.bits .xor .i64 x (wrap64 (Int.tdiv x 64))) n, Int.tmod_nonneg n (xor_pos _ _ x0 x1 y0 y1), fun h => Int.tmod_lt_of_pos _ (by omega), fun h => ?_, Evn.succ (Evn.all fun k => ?_)⟩
        · have : n = 1 := by omega
          subst this
          exact Int.tmod_one _
        · unfold spec_l20Rd_pick.f
          rw [if_neg hn, hw, hle]
          simp only [spec_l20Rd_pick.j0]
          rw [if_neg (by simp), e1, if_neg hp, if_neg (by omega), ei, if_pos i0, if_pos i1, e7, ej, if_pos j0, if_pos j1, if_neg (by omega), eq, hx]
theorem spec_odd (b : List Int) (hb : Code b) (p n : Int) (h0 : 0 ≤ p) (h1 : p ≤ 1099511627776) (hn : n ≤ 1000000) :
    ∃ r q, p ≤ q ∧ q ≤ p + 1 ∧ (n ≤ 0 → r = false) ∧ Evn fun k => spec_l20Rd_odd.f k b p n = some (r, q) := by
  by_cases h : n > 0
  · obtain ⟨r, _, _, _, e⟩ := spec_pick b hb p n h0 h1
    refine ⟨r == wrap64 (n - 1), p + 1, by omega, by omega, by omega, Evn.mp e (Evn.all fun k e => ?_)⟩
    unfold spec_l20Rd_odd.f
    rw [if_pos h, e]
    rfl
  · refine ⟨false, p, by omega, by omega, fun _ => rfl, Evn.all fun k => ?_⟩
    unfold spec_l20Rd_odd.f
    rw [if_neg h]
theorem spec_open (l : List Int) (hl : ∀ x ∈ l, (Lit.int .u8 x).wf = true) : ∃ b, Code b ∧ spec_l20Open.f l = some (b, 0) := by
  have hx : ∀ x ∈ l, 0 ≤ x ∧ x ≤ 255 := fun x hx => by
    have h' : (decide (IntKind.u8.min ≤ x) && decide (x ≤ IntKind.u8.max)) = true := hl x hx
    rw [Bool.and_eq_true, decide_eq_true_eq, decide_eq_true_eq] at h'
    exact h'
  unfold spec_l20Open.f
  by_cases h : (l.length : Int) > 2000
  · refine ⟨l.take 2000, ⟨by rw [List.length_take]; omega, fun x hm => hx x (List.mem_of_mem_take hm)⟩, ?_⟩
    rw [if_pos h, if_pos (by omega)]
  · exact ⟨l, ⟨by omega, hx⟩, by rw [if_neg h]⟩
def Dr {α : Type} (g : Nat → Option (α × Int)) (p c : Int) (P : α → Prop) : Prop := ∃ r q, p ≤ q ∧ q ≤ p + c ∧ P r ∧ Evn fun k => g k = some (r, q)
theorem Dr.bind {α β : Type} {g : Nat → Option (α × Int)} {H : Nat → α × Int → Option (β × Int)} {p c C : Int} {P : α → Prop} {Q : β → Prop}
    (h1 : Dr g p c P) (h2 : ∀ bt : α × Int, P bt.1 → p ≤ bt.2 → bt.2 ≤ p + c → Dr (fun k => H k bt) bt.2 (C - c) Q) : Dr (fun k => (g k).bind (H k)) p C Q := by
  obtain ⟨r, q, hq0, hq1, hr, e⟩ := h1
  obtain ⟨r', q', h0, h1, hr', e'⟩ := h2 (r, q) hr hq0 hq1
  refine ⟨r', q', by simp only at h0; omega, by simp only at h1; omega, hr', Evn.mp e (Evn.mp e' (Evn.all fun k e' e => ?_))⟩
  dsimp only
  rw [e]
  exact e'
theorem Dr.pure {α : Type} {p c : Int} {P : α → Prop} {r : α} (hr : P r) (hc : 0 ≤ c) : Dr (fun _ => some (r, p)) p c P :=
  ⟨r, p, by omega, by omega, hr, Evn.all fun _ => rfl⟩
theorem Dr.ite {α : Type} {g h : Nat → Option (α × Int)} {p c : Int} {P : α → Prop} {b : Prop} [Decidable b] (h1 : b → Dr g p c P) (h2 : ¬ b → Dr h p c P) : Dr (fun k => if b then g k else h k) p c P := by
  by_cases hb : b
  · simpa [hb] using h1 hb
  · simpa [hb] using h2 hb
theorem Dr.some_bind {α β : Type} {H : Nat → α → Option (β × Int)} {p c : Int} {Q : β → Prop} {r : α} (h2 : Dr (fun k => H k r) p c Q) : Dr (fun k => (some r).bind (H k)) p c Q := h2
theorem Dr.le {α : Type} {g : Nat → Option (α × Int)} {p c C : Int} {P Q : α → Prop} (h : Dr g p c P) (hc : c ≤ C) (hp : ∀ r, P r → Q r) : Dr g p C Q := by
  obtain ⟨r, q, h0, h1, hr, e⟩ := h
  exact ⟨r, q, h0, by omega, hp r hr, e⟩
theorem Dr.congr {α : Type} {g h : Nat → Option (α × Int)} {p c : Int} {P : α → Prop} (hg : Dr h p c P) (e : ∀ k, g k = h k) : Dr g p c P := by
  obtain ⟨r, q, h0, h1, hr, e'⟩ := hg
  exact ⟨r, q, h0, h1, hr, Evn.mp e' (Evn.all fun k e' => (e k).trans e')⟩
theorem Dr.succ {α : Type} {g : Nat → Option (α × Int)} {p c : Int} {P : α → Prop} (h : Dr (fun k => g (k + 1)) p c P) : Dr g p c P := by
  obtain ⟨r, q, h0, h1, hr, e⟩ := h
  exact ⟨r, q, h0, h1, hr, Evn.succ e⟩
def InPick (n r : Int) : Prop := 0 ≤ r ∧ (1 ≤ n → r < n) ∧ (n ≤ 1 → r = 0)
theorem dr_pick {b : List Int} (hb : Code b) {p : Int} (n : Int) (h0 : 0 ≤ p) (h1 : p ≤ 1099511627776) : Dr (fun k => spec_l20Rd_pick.f k b p n) p 1 (InPick n) := by
  obtain ⟨r, a, c, d, e⟩ := spec_pick b hb p n h0 h1
  exact ⟨r, p + 1, by omega, by omega, ⟨a, c, d⟩, e⟩
theorem dr_odd {b : List Int} (hb : Code b) {p : Int} (n : Int) (h0 : 0 ≤ p) (h1 : p ≤ 1099511627776) (hn : n ≤ 1000000) : Dr (fun k => spec_l20Rd_odd.f k b p n) p 1 (fun r => n ≤ 0 → r = false) := by
  obtain ⟨r, q, a, c, d, e⟩ := spec_odd b hb p n h0 h1 hn
  exact ⟨r, q, a, c, d, e⟩
def Drw {α : Type} (g : Nat → Option α) (P : α → Prop) : Prop := ∃ r, P r ∧ Evn fun k => g k = some r
theorem Drw.pure {α : Type} {P : α → Prop} {r : α} (hr : P r) : Drw (fun _ => some r) P := ⟨r, hr, Evn.all fun _ => rfl⟩
theorem Drw.some_bind {α β : Type} {H : Nat → α → Option β} {Q : β → Prop} {r : α} (h2 : Drw (fun k => H k r) Q) : Drw (fun k => (some r).bind (H k)) Q := h2
def Dp {τ : Type} (pl : τ → Int) (g : Nat → Option τ) (p c : Int) (P : τ → Prop) : Prop := ∃ r, p ≤ pl r ∧ pl r ≤ p + c ∧ P r ∧ Evn fun k => g k = some r
theorem Dr.bindP {α τ : Type} {pl : τ → Int} {g : Nat → Option (α × Int)} {H : Nat → α × Int → Option τ} {p c C : Int} {P : α → Prop} {Q : τ → Prop}
    (h1 : Dr g p c P) (h2 : ∀ bt : α × Int, P bt.1 → p ≤ bt.2 → bt.2 ≤ p + c → Dp pl (fun k => H k bt) bt.2 (C - c) Q) : Dp pl (fun k => (g k).bind (H k)) p C Q := by
  obtain ⟨r, q, hq0, hq1, hr, e⟩ := h1
  obtain ⟨r', h0, h1, hr', e'⟩ := h2 (r, q) hr hq0 hq1
  refine ⟨r', by simp only at h0; omega, by simp only at h1; omega, hr', Evn.mp e (Evn.mp e' (Evn.all fun k e' e => ?_))⟩
  dsimp only
  rw [e]
  exact e'
theorem Dp.pure {τ : Type} {pl : τ → Int} {p c : Int} {P : τ → Prop} {r : τ} (hp : pl r = p) (hr : P r) (hc : 0 ≤ c) : Dp pl (fun _ => some r) p c P :=
  ⟨r, by omega, by omega, hr, Evn.all fun _ => rfl⟩
theorem Dp.ite {τ : Type} {pl : τ → Int} {g h : Nat → Option τ} {p c : Int} {P : τ → Prop} {b : Prop} [Decidable b] (h1 : b → Dp pl g p c P) (h2 : ¬ b → Dp pl h p c P) : Dp pl (fun k => if b then g k else h k) p c P := by
  by_cases hb : b
  · simpa [hb] using h1 hb
  · simpa [hb] using h2 hb
theorem Dp.some_bind {α τ : Type} {pl : τ → Int} {H : Nat → α → Option τ} {p c : Int} {Q : τ → Prop} {r : α} (h2 : Dp pl (fun k => H k r) p c Q) : Dp pl (fun k => (some r).bind (H k)) p c Q := h2
theorem Dp.le {τ : Type} {pl : τ → Int} {g : Nat → Option τ} {p c C : Int} {P Q : τ → Prop} (h : Dp pl g p c P) (hc : c ≤ C) (hp : ∀ r, P r → Q r) : Dp pl g p C Q := by
  obtain ⟨r, h0, h1, hr, e⟩ := h
  exact ⟨r, h0, by omega, hp r hr, e⟩
theorem Dp.congr {τ : Type} {pl : τ → Int} {g h : Nat → Option τ} {p c : Int} {P : τ → Prop} (hg : Dp pl h p c P) (e : ∀ k, g k = h k) : Dp pl g p c P := by
  obtain ⟨r, h0, h1, hr, e'⟩ := hg
  exact ⟨r, h0, h1, hr, Evn.mp e' (Evn.all fun k e' => (e k).trans e')⟩
theorem Dp.succ {τ : Type} {pl : τ → Int} {g : Nat → Option τ} {p c : Int} {P : τ → Prop} (h : Dp pl (fun k => g (k + 1)) p c P) : Dp pl g p c P := by
  obtain ⟨r, h0, h1, hr, e⟩ := h
  exact ⟨r, h0, h1, hr, Evn.succ e⟩
theorem Drw.bindP {σ β : Type} {pl : σ → Int} {g : Nat → Option σ} {H : Nat → σ → Option β} {p c : Int} {P : σ → Prop} {Q : β → Prop}
    (h1 : Dp pl g p c P) (h2 : ∀ r : σ, P r → p ≤ pl r → pl r ≤ p + c → Drw (fun k => H k r) Q) : Drw (fun k => (g k).bind (H k)) Q := by
  obtain ⟨r, hq0, hq1, hr, e⟩ := h1
  obtain ⟨r', hr', e'⟩ := h2 r hr hq0 hq1
  refine ⟨r', hr', Evn.mp e (Evn.mp e' (Evn.all fun k e' e => ?_))⟩
  dsimp only
  rw [e]
  exact e'
theorem rdOf_mem {α : Type} (d : α) {xs : List α} {i : Int} (h0 : 0 ≤ i) (h1 : i < (xs.length : Int)) : rdOf d xs i ∈ xs := by
  obtain ⟨j, rfl⟩ : ∃ j : Nat, i = (j : Int) := ⟨i.toNat, by omega⟩
  have hj : j < xs.length := by omega
  unfold rdOf
  rw [Int.toNat_natCast, List.getD_eq_getElem?_getD, List.getElem?_eq_getElem hj]
  exact List.getElem_mem hj
theorem Dr.eltOf {α : Type} (d : α) {p c : Int} {P : α → Prop} {xs : List α} {i : Int} (h0 : 0 ≤ i) (h1 : i < (xs.length : Int)) (hP : ∀ x ∈ xs, P x) (hc : 0 ≤ c) :
    Dr (fun _ => if 0 ≤ i then (if i < (xs.length : Int) then some (rdOf d xs i, p) else none) else none) p c P :=
  ⟨rdOf d xs i, p, by omega, by omega, hP _ (rdOf_mem d h0 h1), Evn.all fun k => by rw [if_pos h0, if_pos h1]⟩
theorem dr_keyl {b : List Int} (hb : Code b) (m : Nat) : ∀ (s : ByteArray) (p : Int), 0 ≤ p → p + (m : Int) ≤ 1099511627776 → s.size + m ≤ 4 → (bytesOf s).all lowB = true →
    Dr (fun k => spec_l20Key.l0 k s (m : Int) b p) p (m : Int) (fun r => r.size = s.size + m ∧ (bytesOf r).all lowB = true) := by
  induction m with
  | zero =>
    intro s p h0 h1 hs hl
    refine Dr.succ (Dr.congr ?_ fun k => spec_l20Key.l0.eq_2 ..)
    exact Dr.ite (fun h => absurd h (by omega)) fun _ => Dr.pure ⟨by omega, hl⟩ (by omega)
  | succ m ih =>
    intro s p h0 h1 hs hl
    refine Dr.succ (Dr.congr ?_ fun k => spec_l20Key.l0.eq_2 ..)
    refine Dr.ite (fun _ => ?_) fun h => absurd (show ((m + 1 : Nat) : Int) > 0 by omega) h
    refine Dr.bind (dr_pick hb 4 (by omega) (by omega)) fun bt hr _ _ => Dr.some_bind (Dr.ite (fun _ => ?_) fun h => absurd (show s.size + (strOfNums [wrap64 (97 + bt.1) % 256]).size ≤ 9223372036854775807 by rw [strOfNums_size]; simp only [List.length_cons, List.length_nil]; omega) h)
    have hr0 := hr.1
    have hr1 := hr.2.1 (by omega)
    have hw : wrap64 (97 + bt.1) % 256 = 97 + bt.1 := by rw [w64 (by omega) (by omega)]; omega
    rw [hw, show wrap64 (((m + 1 : Nat) : Int) - 1) = (m : Int) by rw [w64 (by omega) (by omega)]; omega]
    have hsz : (s ++ strOfNums [97 + bt.1]).size = s.size + 1 := by rw [ByteArray.size_append, strOfNums_size]; rfl
    have hbs : bytesOf (s ++ strOfNums [97 + bt.1]) = bytesOf s ++ [97 + bt.1] := by
      rw [show bytesOf (s ++ strOfNums [97 + bt.1]) = bytesOf s ++ bytesOf (strOfNums [97 + bt.1]) by unfold bytesOf; rw [ba_append, List.map_append], bytes_str (fun x hx => by simp at hx; omega)]
    refine Dr.le (ih _ bt.2 (by omega) (by omega) (by omega) ?_) (by omega) fun r hr => ⟨by rw [hr.1, hsz]; omega, hr.2⟩
    rw [hbs, List.all_append, hl]
    simp only [List.all_cons, List.all_nil, lowB, Bool.true_and, Bool.and_true]
    rw [decide_eq_true (by omega), decide_eq_true (by omega)]
    rfl
theorem dr_key {b : List Int} (hb : Code b) {p : Int} (n : Int) (h0 : 0 ≤ p) (h1 : p ≤ 1099511000000) (hn : n ≤ 1000000) :
    Dr (fun k => spec_l20Key.f k b p n) p 6 (fun s => s.size ≤ 5 ∧ (n ≤ 0 → keyB s = true)) := by
  unfold spec_l20Key.f
  refine Dr.bind (dr_odd hb n (by omega) (by omega) hn) fun bt ho _ _ => Dr.ite (fun ht => ?_) (fun _ => ?_)
  · refine Dr.some_bind (Dr.bind (dr_pick hb 6 (by omega) (by omega)) fun bt2 hr _ _ => Dr.eltOf _ hr.1 (hr.2.1 (by omega)) (fun x hx => ⟨?_, fun hn0 => ?_⟩) (by omega))
    · simp only [List.mem_cons, List.not_mem_nil, or_false] at hx
      rcases hx with rfl | rfl | rfl | rfl | rfl | rfl <;> decide
    · rw [ho hn0] at ht
      cases ht
  · refine Dr.bind (dr_pick hb 12 (by omega) (by omega)) fun bt2 _ _ _ => Dr.ite (fun _ => ?_) (fun _ => ?_)
    · refine Dr.some_bind (Dr.bind (dr_pick hb 5 (by omega) (by omega)) fun bt3 hr _ _ => Dr.eltOf _ hr.1 (hr.2.1 (by omega)) (fun x hx => ?_) (by omega))
      simp only [List.mem_cons, List.not_mem_nil, or_false] at hx
      rcases hx with rfl | rfl | rfl | rfl | rfl <;> exact ⟨by decide, fun _ => by decide +kernel⟩
    · refine Dr.bind (dr_pick hb 2 (by omega) (by omega)) fun bt3 hr _ _ => ?_
      have hr0 := hr.1
      have hr1 := hr.2.1 (by omega)
      obtain ⟨m, hm⟩ : ∃ m : Nat, wrap64 (1 + bt3.1) = (m : Int) := ⟨(1 + bt3.1).toNat, by rw [w64 (by omega) (by omega)]; omega⟩
      rw [hm]
      rw [w64 (by omega) (by omega)] at hm
      refine Dr.le (dr_keyl hb m ⟨#[]⟩ bt3.2 (by omega) (by omega) (by have : (⟨#[]⟩ : ByteArray).size = 0 := rfl; omega) rfl) (by omega) fun r hr => ?_
      have h00 : (⟨#[]⟩ : ByteArray).size = 0 := rfl
      refine ⟨by omega, fun _ => ?_⟩
      unfold keyB
      rw [hr.2, decide_eq_true (by omega), decide_eq_true (by omega)]
      rfl
def spanPl (r : ByteArray × ByteArray × Int) : Int := r.2.2
theorem dr_spanj (x y : ByteArray) (b : List Int) (p : Int) : Dp spanPl (fun k => spec_l20Span.j0 k x y b p) p 0 (fun _ => True) := by
  refine Dp.succ (Dp.congr ?_ fun k => spec_l20Span.j0.eq_2 ..)
  exact Dp.ite (fun _ => Dp.pure rfl trivial (by omega)) (fun _ => Dp.ite (fun _ => Dp.pure rfl trivial (by omega)) (fun _ => Dp.pure rfl trivial (by omega)))
theorem dr_span {b : List Int} (hb : Code b) {p : Int} (n : Int) (h0 : 0 ≤ p) (h1 : p ≤ 1099510900000) (hn : n ≤ 1000000) :
    Dp spanPl (fun k => spec_l20Span.f k b p n) p 20 (fun _ => True) := by
  unfold spec_l20Span.f
  refine Dr.bindP (dr_odd hb n (by omega) (by omega) hn) fun bt _ _ _ => Dp.ite (fun _ => ?_) (fun _ => ?_)
  · refine Dp.some_bind (Dr.bindP (dr_pick hb 5 (by omega) (by omega)) fun bt2 hr _ _ => ?_)
    exact Dp.ite (fun _ => Dp.ite (fun _ => Dp.pure rfl trivial (by omega)) (fun h => absurd (hr.2.1 (by omega)) h)) (fun h => absurd hr.1 h)
  · refine Dr.bindP (dr_key hb 0 (by omega) (by omega) (by omega)) fun bt2 _ _ _ => Dr.bindP (dr_key hb 0 (by omega) (by omega) (by omega)) fun bt3 _ _ _ => Dr.bindP (dr_pick hb 6 (by omega) (by omega)) fun bt4 _ _ _ => ?_
    refine Dp.ite (fun _ => Dp.pure rfl trivial (by omega)) fun _ => Dp.ite (fun _ => Dp.pure rfl trivial (by omega)) fun _ => Dp.ite (fun _ => Dp.ite (fun _ => ?_) (fun _ => Dp.pure rfl trivial (by omega))) (fun _ => ?_)
    · exact Dp.le (dr_spanj _ _ _ _) (by omega) fun _ h => h
    · exact Dp.le (dr_spanj _ _ _ _) (by omega) fun _ h => h
theorem implVal (x : Int) : impl_valueValid.f x = some (decide (0 ≤ x ∧ x ≤ 999)) := by
  unfold impl_valueValid.f
  by_cases h : x ≥ 0
  · rw [if_pos h]
    exact congrArg some (decide_eq_decide.mpr (by omega))
  · rw [if_neg h, decide_eq_false (by omega)]
theorem implPr_loop (l : List S76) (d : Nat) : ∀ j : Nat, j + d = l.length → Evn fun k => impl_PairsValid.l0 k l j = some (prJ l j) := by
  induction d with
  | zero =>
    intro j hj
    refine Evn.succ (Evn.all fun k => ?_)
    simp only [impl_PairsValid.l0]
    rw [if_neg (by omega), prJ_end (by omega)]
  | succ d ih =>
    intro j hj
    have hlt : j < l.length := by omega
    refine Evn.succ (Evn.mp (ih (j + 1) (by omega)) (Evn.mp (implKey (rd_T76 l (j : Int)).f0) (Evn.all fun k e1 e => ?_)))
    rw [prJ_step hlt]
    simp only [impl_PairsValid.l0, implVal]
    rw [if_pos hlt, e1]
    simp only [Option.bind_some]
    rw [e]
    cases keyB (rd_T76 l (j : Int)).f0 with
    | false => rfl
    | true =>
      rw [if_pos rfl]
      by_cases h1 : 0 ≤ (rd_T76 l (j : Int)).f1 ∧ (rd_T76 l (j : Int)).f1 ≤ 999
      · rw [if_pos (by simpa using h1), decide_eq_true h1]
        by_cases hz : j = 0
        · rw [if_pos hz, if_pos hz]
          rfl
        · rw [if_neg hz, if_neg hz]
          unfold ltB
          cases Op.bytesLess (rd_T76 l ((j - 1 : Nat) : Int)).f0.toList (rd_T76 l (j : Int)).f0.toList <;> rfl
      · rw [if_neg (by simpa using h1), decide_eq_false h1]
        rfl
theorem implPr (l : List S76) : Evn fun k => impl_PairsValid.f k l = some (prB l) := by
  by_cases hn : l.length ≤ 48
  · refine Evn.mp (implPr_loop l l.length 0 (by omega)) (Evn.all fun k e => ?_)
    unfold impl_PairsValid.f prB
    rw [if_neg (by omega), decide_eq_true hn, e]
    rfl
  · refine Evn.all fun k => ?_
    unfold impl_PairsValid.f prB
    rw [if_pos (by omega), decide_eq_false hn]
    rfl
def okS (s : S90) : Bool := decide (0 ≤ s.f0 ∧ s.f0 ≤ 3) && (decide (1 ≤ s.f1 ∧ s.f1 ≤ 999) && decide (-2 ≤ s.f2 ∧ s.f2 ≤ 999))
def above (p : Option Int) (c : Int) : Bool := match p with
  | none => true
  | some q => decide (q < c)
def sesG : Option Int → List S90 → Bool
  | _, [] => true
  | p, s :: r => okS s && (above p s.f0 && sesG (some s.f0) r)
def sesB (l : List S90) : Bool := sesG none l
def sesP (l : List S90) (j : Nat) : Option Int := if j = 0 then none else some (l.getD (j - 1) z90).f0
theorem ses_nat {l : List S90} {j : Nat} (h : j < l.length) : rd_T90 l (j : Int) = l[j] := by
  simp [rd_T90, List.getD_eq_getElem?_getD, List.getElem?_eq_getElem h]
theorem ses_drop {l : List S90} {j : Nat} (h : j < l.length) : l.drop j = rd_T90 l (j : Int) :: l.drop (j + 1) := by
  rw [ses_nat h, List.drop_eq_getElem_cons h]
theorem ses_prev (l : List S90) (j : Nat) : sesP l (j + 1) = some (rd_T90 l (j : Int)).f0 := by
  unfold sesP rd_T90
  rw [if_neg (by omega), Int.toNat_natCast, Nat.add_sub_cancel]
theorem implSeqS (x : Int) : impl_seqValid.f x = some (decide (1 ≤ x ∧ x ≤ 999)) := by
  unfold impl_seqValid.f
  by_cases h : x ≥ 1
  · rw [if_pos h]
    exact congrArg some (decide_eq_decide.mpr (by omega))
  · rw [if_neg h, decide_eq_false (by omega)]
theorem implSes_loop (l : List S90) (hn : l.length ≤ 1099511627776) (d : Nat) : ∀ j : Nat, j + d = l.length → Evn fun k => impl_SessionsValid.l0 k l l (l.length : Int) (j : Int) = some (sesG (sesP l j) (l.drop j)) := by
  induction d with
  | zero =>
    intro j hj
    refine Evn.succ (Evn.all fun k => ?_)
    simp only [impl_SessionsValid.l0]
    rw [if_neg (by omega), List.drop_of_length_le (by omega)]
    rfl
  | succ d ih =>
    intro j hj
    have hlt : j < l.length := by omega
    refine Evn.succ (Evn.succ (Evn.mp (ih (j + 1) (by omega)) (Evn.all fun k e => ?_)))
    rw [ses_drop hlt, ses_prev] at *
    have rest : ∀ b, impl_SessionsValid.j1 (k + 1) l (j : Int) l (l.length : Int) (j : Int) b (rd_T90 l (j : Int)).f0 (rd_T90 l (j : Int)).f1 (rd_T90 l (j : Int)).f2
        = some (!b && (above (sesP l j) (rd_T90 l (j : Int)).f0 && sesG (some (rd_T90 l (j : Int)).f0) (l.drop (j + 1)))) := by
      intro b
      simp only [impl_SessionsValid.j1]
      cases b with
      | true => rfl
      | false =>
        rw [if_neg (by simp), w64 (x := (j : Int) + 1) (by omega) (by omega), show ((j : Int) + 1) = ((j + 1 : Nat) : Int) by omega, e]
        by_cases hj0 : j = 0
        · rw [if_neg (by omega)]
          simp [sesP, hj0, above]
        · obtain ⟨i, rfl⟩ : ∃ i, j = i + 1 := ⟨j - 1, by omega⟩
          rw [if_pos (by omega), w64 (by omega) (by omega), if_pos (by omega), if_pos (by omega), ses_prev, show ((i + 1 : Nat) : Int) - 1 = (i : Int) by omega]
          simp only [above]
          by_cases hc : (rd_T90 l (i : Int)).f0 ≥ (rd_T90 l ((i + 1 : Nat) : Int)).f0
          · rw [if_pos hc, decide_eq_false (by omega)]
            rfl
          · rw [if_neg hc, decide_eq_true (by omega)]
            rfl
    simp only [impl_SessionsValid.l0, implSeqS, Option.bind_some, rest]
    rw [if_pos (by omega), if_pos (by omega), if_pos (by omega)]
    simp only [sesG]
    unfold okS
    by_cases h0 : (rd_T90 l (j : Int)).f0 < 0
    · rw [if_pos h0, decide_eq_false (show ¬ (0 ≤ (rd_T90 l (j : Int)).f0 ∧ (rd_T90 l (j : Int)).f0 ≤ 3) by omega)]
      rfl
    · rw [if_neg h0]
      by_cases h4 : (rd_T90 l (j : Int)).f0 ≥ 4
      · rw [if_pos h4, decide_eq_false (show ¬ (0 ≤ (rd_T90 l (j : Int)).f0 ∧ (rd_T90 l (j : Int)).f0 ≤ 3) by omega)]
        rfl
      · rw [if_neg h4, decide_eq_true (show (0 ≤ (rd_T90 l (j : Int)).f0 ∧ (rd_T90 l (j : Int)).f0 ≤ 3) by omega)]
        by_cases h1 : 1 ≤ (rd_T90 l (j : Int)).f1 ∧ (rd_T90 l (j : Int)).f1 ≤ 999
        · rw [decide_eq_true h1, if_pos rfl]
          by_cases h2 : (rd_T90 l (j : Int)).f2 < -2
          · rw [if_pos h2, decide_eq_false (show ¬ (-2 ≤ (rd_T90 l (j : Int)).f2 ∧ (rd_T90 l (j : Int)).f2 ≤ 999) by omega)]
            rfl
          · rw [if_neg h2]
            by_cases h3 : (rd_T90 l (j : Int)).f2 > 999
            · rw [decide_eq_true h3, decide_eq_false (show ¬ (-2 ≤ (rd_T90 l (j : Int)).f2 ∧ (rd_T90 l (j : Int)).f2 ≤ 999) by omega)]
              rfl
            · rw [decide_eq_false h3, decide_eq_true (show (-2 ≤ (rd_T90 l (j : Int)).f2 ∧ (rd_T90 l (j : Int)).f2 ≤ 999) by omega)]
              simp
        · rw [decide_eq_false h1, if_neg (by simp)]
          rfl
theorem implSes (l : List S90) (hn : l.length ≤ 1099511627776) : Evn fun k => impl_SessionsValid.f k l = some (sesB l) :=
  Evn.mp (implSes_loop l hn l.length 0 (by omega)) (Evn.all fun k e => by
    unfold impl_SessionsValid.f sesB
    exact e)
theorem implCut (lo hi key : ByteArray) : Evn fun k => impl_IntervalCut.f k lo hi key = some (cutV lo hi key) := by
  obtain ⟨K1, h1⟩ := implIv lo hi
  obtain ⟨K2, h2⟩ := implKey key
  obtain ⟨K3, h3⟩ := implIv lo key
  obtain ⟨K4, h4⟩ := implIv key hi
  refine ⟨K1 + K2 + K3 + K4 + 1, fun k hk => ?_⟩
  obtain ⟨m, rfl⟩ : ∃ m, k = m + 1 := ⟨k - 1, by omega⟩
  unfold impl_IntervalCut.f cutV cutB
  rw [h1 _ (by omega), h2 _ (by omega)]
  simp only [Option.bind_some, impl_IntervalCut.j0]
  rw [h3 m (by omega), h4 m (by omega)]
  simp only [Option.bind_some]
  cases ivB lo hi <;> cases keyB key <;> cases ivB lo key <;> cases ivB key hi <;> rfl
def stB (lo hi : ByteArray) (ps : List S76) (ss : List S90) (sealed : Bool) (cut : ByteArray) : Bool :=
  ivB lo hi && (prB ps && (sesB ss && ((ps.all fun p => insB lo hi p.f0) && (if cut.toList = ([] : List UInt8) then true else sealed && cutB lo hi cut))))
theorem implSt_loop (lo hi : ByteArray) (ps : List S76) (ss : List S90) (sealed : Bool) (cut : ByteArray) (hp : ps.length ≤ 48) (d : Nat) : ∀ j : Nat, j + d = ps.length →
    Evn fun k => impl_StateValid.l0 k ps (ps.length : Int) (j : Int) lo hi ps ss sealed cut = some (((ps.drop j).all fun p => insB lo hi p.f0) && (if cut.toList = ([] : List UInt8) then true else sealed && cutB lo hi cut)) := by
  induction d with
  | zero =>
    intro j hj
    refine Evn.succ (Evn.mp (implCut lo hi cut) (Evn.all fun k e => ?_))
    simp only [impl_StateValid.l0]
    rw [if_neg (by omega), List.drop_of_length_le (by omega), e]
    simp only [Option.bind_some, cutV_ok, List.all_nil, Bool.true_and]
    by_cases hc : cut.toList = ([] : List UInt8)
    · rw [if_pos hc, if_pos hc]
    · rw [if_neg hc, if_neg hc]
      cases sealed <;> rfl
  | succ d ih =>
    intro j hj
    have hlt : j < ps.length := by omega
    refine Evn.succ (Evn.mp (ih (j + 1) (by omega)) (Evn.all fun k e1 => ?_))
    simp only [impl_StateValid.l0, implIns]
    rw [if_pos (by omega), if_pos (by omega), if_pos (by omega), pr_drop hlt, w64 (by omega) (by omega), show ((j : Int) + 1) = ((j + 1 : Nat) : Int) by omega, e1]
    simp only [Option.bind_some, List.all_cons]
    cases insB lo hi (rd_T76 ps (j : Int)).f0 <;> rfl
theorem implSt (lo hi : ByteArray) (ps : List S76) (ss : List S90) (sealed : Bool) (cut : ByteArray) (hn : ss.length ≤ 1099511627776) : Evn fun k => impl_StateValid.f k lo hi ps ss sealed cut = some (stB lo hi ps ss sealed cut) := by
  obtain ⟨K1, h1⟩ := implIv lo hi
  obtain ⟨K2, h2⟩ := implPr ps
  obtain ⟨K3, h3⟩ := implSes ss hn
  obtain ⟨K4, h4⟩ : Evn fun k => prB ps = true → impl_StateValid.l0 k ps (ps.length : Int) ((0 : Nat) : Int) lo hi ps ss sealed cut = some (((ps.drop 0).all fun p => insB lo hi p.f0) && (if cut.toList = ([] : List UInt8) then true else sealed && cutB lo hi cut)) := by
    by_cases hp : prB ps = true
    · exact Evn.mp (implSt_loop lo hi ps ss sealed cut (prB_len hp) ps.length 0 (by omega)) (Evn.all fun k e _ => e)
    · exact Evn.all fun k b => absurd b hp
  refine ⟨K1 + K2 + K3 + K4 + 1, fun k hk => ?_⟩
  obtain ⟨m, rfl⟩ : ∃ m, k = m + 1 := ⟨k - 1, by omega⟩
  have g4 := h4 m (by omega)
  unfold impl_StateValid.f stB
  rw [h1 _ (by omega), h2 _ (by omega), h3 _ (by omega)]
  simp only [Option.bind_some, impl_StateValid.j0]
  cases ivB lo hi with
  | false => rfl
  | true =>
    cases hp : prB ps with
    | false => rfl
    | true =>
      cases sesB ss with
      | false => rfl
      | true =>
        have := g4 hp
        rw [List.drop_zero] at this
        exact this
theorem alive : Evn fun k => laws_alive.f k = some true := Ev.of laws_alive.mono (k := 12) (by decide +kernel)
theorem same_nil (a b : ByteArray) (t : Bool) (c : ByteArray) : Evn fun k => laws_sameState.f k a b [] [] t c a b [] [] t c = some true := by
  refine Evn.succ (Evn.all fun k => ?_)
  unfold laws_sameState.f laws_samePairs.f laws_sameSessions.f
  simp [laws_samePairs.l0, laws_sameSessions.l0]
theorem no_nil : Evn fun k => laws_noState.f k ⟨#[]⟩ ⟨#[]⟩ [] [] false ⟨#[]⟩ = some true := by
  refine Evn.mp (same_nil ⟨#[]⟩ ⟨#[]⟩ false ⟨#[]⟩) (Evn.all fun k e => ?_)
  unfold laws_noState.f
  rw [e]
  rfl
theorem judge_true (a b : ByteArray) : Evn fun k => laws_FnNewState.judge k a b = some true := by
  by_cases hv : ivB a b = true
  · have hn : newB a b = (a, b, [], [], false, ⟨#[]⟩) := by
      unfold newB
      exact if_pos hv
    have hi := implNew a b
    have hs := specNew a b
    rw [hn] at hi hs
    have hst : stB a b [] [] false ⟨#[]⟩ = true := by
      unfold stB
      rw [hv]
      have : (⟨#[]⟩ : ByteArray).toList = ([] : List UInt8) := by rw [ba_toList]
      rw [if_pos this]
      rfl
    have h5 := implSt a b [] [] false ⟨#[]⟩ (by simp)
    rw [hst] at h5
    have h4 := implIv a b
    rw [hv] at h4
    refine Evn.mp hi (Evn.mp hs (Evn.mp (same_nil a b false ⟨#[]⟩) (Evn.mp h4 (Evn.mp h5 (Evn.mp alive (Evn.all fun k e6 e5 e4 e3 e2 e1 => ?_))))))
    unfold laws_FnNewState.judge
    rw [e1, e2]
    simp only [Option.bind_some]
    rw [e3]
    simp only [Option.bind_some]
    rw [if_pos ⟨trivial, rfl, rfl, rfl, rfl⟩, e4]
    simp only [Option.bind_some]
    rw [if_neg (by simp), e5, e6]
    simp
  · have hn : newB a b = (⟨#[]⟩, ⟨#[]⟩, [], [], false, ⟨#[]⟩) := by
      unfold newB
      exact if_neg hv
    have hi := implNew a b
    have hs := specNew a b
    rw [hn] at hi hs
    have h4 := implIv a b
    rw [Bool.eq_false_iff.mpr hv] at h4
    refine Evn.mp hi (Evn.mp hs (Evn.mp (same_nil ⟨#[]⟩ ⟨#[]⟩ false ⟨#[]⟩) (Evn.mp h4 (Evn.mp no_nil (Evn.mp alive (Evn.all fun k e6 e5 e4 e3 e2 e1 => ?_))))))
    unfold laws_FnNewState.judge
    rw [e1, e2]
    simp only [Option.bind_some]
    rw [e3]
    simp only [Option.bind_some]
    rw [if_pos ⟨trivial, rfl, rfl, rfl, rfl⟩, e4]
    simp only [Option.bind_some]
    rw [if_pos trivial, e5, e6]
    simp
theorem FnNewState : FnNewState.Said := by
  intro l0 hw
  by_cases hl0 : l0.length ≤ 1048576
  · have hD : Drw (fun k => spec_DrawNewState.f k l0) (fun _ => True) := by
      obtain ⟨b, hb, eo⟩ := spec_open l0 hw.2
      unfold spec_DrawNewState.f
      rw [eo]
      exact Drw.some_bind (Drw.bindP (dr_span hb 4 (Int.le_refl 0) (by omega) (by omega)) fun r _ _ _ => Drw.pure trivial)
    obtain ⟨⟨a, b⟩, _, eD⟩ := hD
    dsimp only at eD
    refine Evn.some (Evn.mp eD (Evn.mp (judge_true a b) (Evn.all fun k e2 e1 => ?_)))
    unfold laws_FnNewState.f
    rw [if_neg (by omega), e1]
    simp only [Option.bind_some]
    exact e2
  · refine ⟨0, ?_⟩
    unfold laws_FnNewState.f
    rw [if_pos (by omega)]
end Go.Proofs.Ytdamnfkpfhoahaa.Pure
namespace Go.Proofs.Ytdamnfkpfhoahaa.fnNewState
open Go.ChangeShapes Go.WideShapes Go.ChangeAt Go.RowKit Go.Proofs.Ytdamnfkpfhoahaa.Opens Go.Proofs.Ytdamnfkpfhoahaa.PFnNewState Go.Proofs.YtdamnfkpfhoahaaW.PrintWords
open Go.ChangeMaps (open_string shut_string)
set_option linter.unusedVariables false
theorem own : ownKnob Try.prog.godebug = none := by kernel_rfl
theorem laidOut : laidOutB Try.prog = true := by kernel_rfl
set_option maxRecDepth 100000 in
theorem open0 {H : Type} {enc : TypeId × Value → H} {W : World} {b : Nat} {v : Value} {d : DataW H} {p : List MemPlace} (hv : Value.okWide Try.prog W .any b 37 v) (h : DataW.Trod enc Try.prog W 0 (fun _ => true) true 37 v d p) :
    ∃ (l0 : (List Int)) (A0 : Option Addr) (c0 : Nat), v = .slice A0 l0.length c0 ∧ (l0.length ≤ maxLen ∧ ∀ y ∈ l0, (Lit.int .u8 y).wf = true) ∧ l0.length ≤ c0 ∧ Kd.C (Kd.int .u8) W A0 l0.length l0 := by
  obtain ⟨aa, ll, cc, rfl⟩ := okWide_slice Try.underlying37 hv
  obtain ⟨fuel, hf⟩ := h
  obtain ⟨l0, hk, hg⟩ := (Opens.slice (d := (Kd.int .u8)) Try.underlying37 (by kernel_rfl) (Opens.int Try.underlying5)).out hf
  have g0 := hg
  have hcs : ∃ (A0 : Option Addr) (c0 : Nat), (Value.slice aa ll cc).cells.toList = ([.slice A0 l0.length c0] : List Value) ∧ l0.length ≤ c0 ∧ Kd.C (Kd.int .u8) W A0 l0.length l0 := by
    generalize (Value.slice aa ll cc).cells.toList = q at hk ⊢
    obtain ⟨A0, c0, rfl, hc0, hr0⟩ := hk
    exact ⟨A0, c0, rfl, hc0, hr0⟩
  obtain ⟨A0, c0, hcs, hc0, hr0⟩ := hcs
  refine ⟨l0, A0, c0, ?_, g0, hc0, hr0⟩
  simpa [Value.cells] using hcs
set_option maxRecDepth 100000 in
theorem lifted (os : Os) (started : os.Started) (H : Type) (enc : TypeId × Value → H) :
    ReturnsInHanded {} Try.checked os 10 .any (Rows.fnNewStateSpec.pre6 enc Try.prog Try.f10 Rows.fnNewStateRow.domain false) (Rows.fnNewStateSpec.post enc Try.prog Try.f10 false true false false) := by
  refine returnsInHanded_of_change_sized (C := Try.checked) own started (by kernel_rfl) Try.func10
    (ChangeSpec.witness6 (enc := enc) (C := Try.checked) false ⟨#[], #[.slice none 0 0], []⟩ 8 (by kernel_rfl) (by kernel_rfl) (by kernel_rfl) (by kernel_rfl)) ?_
  intro W base args ds gs before hval0 hW hcnd hsz0 _
  have hval : ∀ (j : Nat) t v, Try.f10.params[j]? = some t → args[j]? = some v → Value.okWide Try.prog W .any base t v := hval0
  have hW' := hW
  obtain ⟨p, q, hA0, hV, rfl, hfz, hnd⟩ := hW
  have hA : DataW.TrodAll enc Try.prog W 0 (fun _ => true) true Try.f10.params.toList args.toList ds p := hA0
  rw [Try.params10] at hA hval
  obtain ⟨v0, vs0, d0, ds0, p0, q0, hargs, rfl, rfl, h0, r0⟩ := trodAll_cons hA
  obtain ⟨rfl, rfl, rfl⟩ := trodAll_nil r0
  obtain rfl : args = #[v0] := by cases args; simp_all
  obtain ⟨rfl, rfl⟩ := trodVars_none hV
  have k0 := h0
  have lt0 : ∀ x ∈ p0, x.block < W.heap.size := by obtain ⟨m, hm⟩ := k0; exact DataW.trod_lt m _ _ _ hm
  obtain ⟨l0, A0, c0, rfl, g0, hc0, hr0⟩ := open0 (hval 0 37 v0 rfl rfl) h0
  clear hA0 hval0 hsz0
  obtain ⟨k, h⟩ := Pure.FnNewState l0 g0
  refine (PFnNewState.laws_FnNewState.calls k _ _ l0 true W hr0 hc0 h).mono fun e W' ⟨he, bel⟩ => ?_
  subst he
  exact ⟨_, rfl, _, _, _, [], _, [], hW', trodAll_mk1 (shut_bool Try.underlying4 _), (trodAll_cons_mk (Below.trod laidOut (by kernel_rfl) (of_decide_eq_true (by kernel_rfl)) k0 bel lt0) trodAll_mk0), rfl, bel.frame _, fun h => by cases h⟩
theorem over : Rows.fnNewStateRow.holds Try.pinned (OpenSpec.ofChange Rows.fnNewStateSpec) :=
  OpenClaim.holds_of_wide 10 Try.f10 rfl rfl rfl rfl rfl rfl rfl ⟨rfl, rfl, rfl, rfl, rfl⟩ rfl rfl rfl rfl rfl (by kernel_rfl) Try.func10 (by kernel_rfl)
    (of_decide_eq_true (by kernel_rfl)) (by unfold Func.isWrapper; first | (rw [if_pos (by decide +kernel)]; kernel_rfl) | (rw [if_neg (by decide +kernel)]; exact ⟨rfl, rfl⟩))
    (fun os started H enc _ => lifted os started H enc)
end Go.Proofs.Ytdamnfkpfhoahaa.fnNewState
namespace Go.Proofs.Ytdamnfkpfhoahaa
theorem fnNewState_holds : Rows.FnNewStateSaid := fnNewState.over
end Go.Proofs.Ytdamnfkpfhoahaa
