/- The program's UniteStates answers as the reference's for every list of states, leaves the list as it was and shares no memory. No condition beyond the row's own. -/
import Derived.Test.YtenfiihcdhnamaaWWords
import Derived.Deep.Slices
import Derived.ChangeArms
import Derived.WideShapes
import Derived.Test.YtenfiihcdhnamaaMFnExactUniteStates1
import Derived.Test.YtenfiihcdhnamaaRows
import Derived.WalkKit
import Derived.ProofKit
import Derived.OpenShut
import Derived.ShutString
import Derived.ChangeOld
import Derived.Below
import Derived.SizedLaws
import Derived.Carry
namespace Go.Proofs.Ytenfiihcdhnamaa.Opens
open Go.RowKit Go.ChangeShapes Go.WideShapes Go.Deep Go.Proofs.YtenfiihcdhnamaaW.PrintWords

/-- Whatever reads as a value of type t, its cells are those of a value of the kind d, of which G holds. -/
structure Opens {α : Type} (P : Program) (t : TypeId) (d : Kd α) (G : α → Prop) : Prop where
  out : ∀ {H : Type} {enc : TypeId × Value → H} {w : World} {base : Nat} {spare : Nat → Bool} {held : Bool} {fuel : Nat} {cs : List Value} {x : DataW H × List MemPlace},
    DataW.trod enc P w base spare held fuel t cs = some x → ∃ y, d.K w y cs ∧ G y

theorem Opens.mono {α : Type} {P : Program} {t : TypeId} {d : Kd α} {G G' : α → Prop} (h : Opens P t d G) (hg : ∀ y, G y → G' y) : Opens P t d G' := ⟨fun q => by
  obtain ⟨y, hk, hy⟩ := h.out q
  exact ⟨y, hk, hg y hy⟩⟩

theorem Opens.int {P : Program} {t : TypeId} {k : IntKind} (h : P.underlying t = some (.int k)) : Opens P t (Kd.int k) (fun n => (Lit.int k n).wf = true) := ⟨fun q => by
  obtain ⟨n, hc, _, hw⟩ := DataW.trod_int h q
  exact ⟨n, hc, hw⟩⟩

theorem Opens.bool {P : Program} {t : TypeId} (h : P.underlying t = some .bool) : Opens P t Kd.bool (fun _ => True) := ⟨fun q => by
  obtain ⟨b, hc, _⟩ := DataW.trod_bool h q
  exact ⟨b, hc, trivial⟩⟩

theorem Opens.string {P : Program} {t : TypeId} (h : P.underlying t = some .string) : Opens P t Kd.string (fun s => s.size ≤ maxLen) := ⟨fun q => by
  obtain ⟨s, hc, _, hs⟩ := DataW.trod_string h q
  exact ⟨s, hc, hs⟩⟩

theorem Opens.slice {α : Type} {P : Program} {t e : TypeId} {d : Kd α} {G : α → Prop} (h : P.underlying t = some (.slice e)) (hs : P.cellsOf e = d.sz) (he : Opens P e d G) :
    Opens P t (Kd.slice e d) (fun l => l.length ≤ maxLen ∧ ∀ y ∈ l, G y) := ⟨fun {H enc w base spare held fuel cs x} q => by
  rcases open_slice h q with ⟨rfl, _⟩ | ⟨a, len, cap, m, n, D, Pl, rfl, _, hl, hm, hmm, _, hi⟩
  · exact ⟨[], ⟨none, 0, rfl, Nat.le_refl 0, rfl, by simp, fun h0 => absurd h0 (Nat.lt_irrefl 0)⟩, by simp [maxLen], by simp⟩
  · have hlm : len ≤ m := by rw [hmm]; split <;> omega
    have hx : ∀ i, ∃ y : Option α, i < len → ∃ z c, y = some z ∧ c.length = d.sz ∧ d.K w z c ∧ G z ∧ ∀ j u, c[j]? = some u → w.cell? (a.add (i * d.sz + j)) = some u := by
      intro i
      by_cases hlt : i < len
      · obtain ⟨c, hc, ht⟩ := hi i (by omega)
        obtain ⟨z, hk, hg⟩ := he.out ht
        obtain ⟨_, hcl, hat⟩ := World.cells?_some hc
        refine ⟨some z, fun _ => ⟨z, c, rfl, d.K_len hk, hk, hg, fun j u hj => ?_⟩⟩
        have hjl : j < c.length := by
          rcases Nat.lt_or_ge j c.length with h0 | h0
          · exact h0
          · rw [List.getElem?_eq_none h0] at hj
            cases hj
        have := hat j (by omega)
        rw [hs] at this
        rw [← Go.Deep.add_add, this]
        exact hj
      · exact ⟨none, fun h0 => absurd h0 hlt⟩
    obtain ⟨f, hf⟩ := Classical.axiomOfChoice hx
    have hz : ∀ i, i < len → ∃ z, f i = some z := fun i hlt => by
      obtain ⟨z, _, h0, _⟩ := hf i hlt
      exact ⟨z, h0⟩
    have hlen : ∀ n, n ≤ len → ((List.range n).filterMap f).length = n ∧ ∀ j p, ((List.range n).filterMap f)[j]? = some p → j < n ∧ f j = some p := by
      intro n
      induction n with
      | zero => intro _; exact ⟨rfl, fun j p hj => by simp at hj⟩
      | succ n ih =>
        intro hn
        obtain ⟨hl1, hl2⟩ := ih (by omega)
        obtain ⟨z, hz⟩ := hz n (by omega)
        rw [List.range_succ, List.filterMap_append]
        simp only [List.filterMap_cons, List.filterMap_nil, hz]
        refine ⟨by rw [List.length_append, hl1]; rfl, fun j p hj => ?_⟩
        by_cases hjn : j < n
        · rw [List.getElem?_append_left (by omega)] at hj
          exact ⟨by omega, (hl2 j p hj).2⟩
        · rw [List.getElem?_append_right (by omega), hl1] at hj
          by_cases hj0 : j - n = 0
          · rw [hj0] at hj
            simp at hj
            have : j = n := by omega
            subst this
            exact ⟨by omega, by rw [hz, hj]⟩
          · obtain ⟨q, hq⟩ : ∃ q, j - n = q + 1 := ⟨j - n - 1, by omega⟩
            rw [hq] at hj
            simp at hj
    obtain ⟨hl1, hl2⟩ := hlen len (Nat.le_refl len)
    refine ⟨(List.range len).filterMap f, ⟨some a, cap, by rw [hl1], by rw [hl1]; exact hl, rfl, by rw [hl1]; unfold maxLen at hm; omega, fun _ => ⟨a, rfl, fun j p hj => ?_⟩⟩, by rw [hl1]; omega, fun y hy => ?_⟩
    · obtain ⟨hjl, hfj⟩ := hl2 j p hj
      obtain ⟨z, c, h0, hcl, hk, _, hat⟩ := hf j hjl
      obtain rfl : z = p := by rw [hfj] at h0; exact (Option.some.inj h0).symm
      exact ⟨c, hcl, hk, hat⟩
    · obtain ⟨i, hi', hfi⟩ := List.mem_filterMap.mp hy
      obtain ⟨z, _, h0, _, _, hg, _⟩ := hf i (List.mem_range.mp hi')
      obtain rfl : z = y := by rw [hfi] at h0; exact (Option.some.inj h0).symm
      exact hg⟩

theorem Opens.iso {α β : Type} {P : Program} {t : TypeId} {d : Kd α} {G : α → Prop} (f : β → α) (g : α → β) (hfg : ∀ a, f (g a) = a) (h : Opens P t d G) : Opens P t (Kd.iso d f) (fun b => G (f b)) := ⟨fun q => by
  obtain ⟨y, hk, hg⟩ := h.out q
  exact ⟨g y, by show d.K _ (f (g y)) _; rw [hfg]; exact hk, by show G (f (g y)); rw [hfg]; exact hg⟩⟩

/-- the cells of a struct's fields from one on, field by field -/
structure Fields {α : Type} (P : Program) (fs : List Field) (o : Nat) (d : Kd α) (G : α → Prop) : Prop where
  out : ∀ {H : Type} {enc : TypeId × Value → H} {w : World} {base : Nat} {spare : Nat → Bool} {held : Bool} {n : Nat} {cs : List Value},
    cs.length = o + d.sz → (∀ (j : Nat) (f : Field), fs[j]? = some f → ∃ x : DataW H × List MemPlace, DataW.trod enc P w base spare held n f.type ((cs.drop f.offset).take (P.cellsOf f.type)) = some x) →
    ∃ y, d.K w y (cs.drop o) ∧ G y

theorem Fields.one {α : Type} {P : Program} {l : List Field} {f : Field} {o : Nat} {d : Kd α} {G : α → Prop} (hl : l = [f]) (ho : f.offset = o) {t : TypeId} (ht : f.type = t) (h : Opens P t d G) (hs : P.cellsOf t = d.sz) : Fields P l o d G := ⟨fun {H enc w base spare held n cs} hn hf => by
  subst hl
  subst ht
  obtain ⟨x, hx⟩ := hf 0 f rfl
  rw [ho, hs, List.take_of_length_le (by rw [List.length_drop]; omega)] at hx
  exact h.out hx⟩

theorem Fields.cons {α β : Type} {P : Program} {l : List Field} {f : Field} {fs : List Field} {o o' : Nat} {d : Kd α} {d' : Kd β} {G : α → Prop} {G' : β → Prop} (hl : l = f :: fs) (ho : f.offset = o) {t : TypeId} (ht : f.type = t) (h : Opens P t d G) (hs : P.cellsOf t = d.sz) (h' : Fields P fs o' d' G') (ho' : o' = o + d.sz) :
    Fields P l o (Kd.pair d d') (fun p => G p.1 ∧ G' p.2) := ⟨fun {H enc w base spare held n cs} hn hf => by
  subst hl
  subst ho'
  subst ht
  have hl' : cs.length = o + (d.sz + d'.sz) := hn
  obtain ⟨x, hx⟩ := hf 0 f rfl
  rw [ho, hs] at hx
  obtain ⟨y, hk, hg⟩ := h.out hx
  obtain ⟨y', hk', hg'⟩ := h'.out (by omega) (fun j g hj => hf (j + 1) g hj)
  refine ⟨(y, y'), ⟨(cs.drop o).take d.sz, cs.drop (o + d.sz), ?_, hk, hk'⟩, hg, hg'⟩
  rw [← List.drop_drop, List.take_append_drop]⟩

theorem Opens.struct {α : Type} {P : Program} {t : TypeId} {fs : Array Field} {d : Kd α} {G : α → Prop} (h : P.underlying t = some (.struct fs)) (hf : Fields P fs.toList 0 d G) (hs : P.cellsOf t = d.sz) : Opens P t d G := ⟨fun {H enc w base spare held fuel cs x} q => by
  obtain ⟨xs, n, _, _, hlen, hxl, hg⟩ := DataW.trod_struct h q
  obtain ⟨y, hk, hy⟩ := hf.out (cs := cs) (by rw [hlen, hs, Nat.zero_add]) (fun j f hj => by
    rw [Array.getElem?_toList] at hj
    have hjl : j < fs.size := (Array.getElem?_eq_some_iff.1 hj).1
    have := hg j f hj
    rw [List.getElem?_eq_getElem (by omega)] at this
    exact ⟨_, this⟩)
  exact ⟨y, hk, hy⟩⟩
end Go.Proofs.Ytenfiihcdhnamaa.Opens
namespace Go.Proofs.Ytenfiihcdhnamaa.Pure
open Go.RowKit Go.Proofs.Ytenfiihcdhnamaa.PFnExactUniteStates Go.Proofs.YtenfiihcdhnamaaW.PrintWords Go.Proofs.YtenfiihcdhnamaaW.PrintLast
def FnExactUniteStates.Said : Prop := ∀ (l0 : (List S27)), (l0.length ≤ maxLen ∧ ∀ y ∈ l0, ((y.f0.f0.size ≤ maxLen) ∧ (y.f0.f1.size ≤ maxLen)) ∧ (y.f1.length ≤ maxLen ∧ ∀ z ∈ y.f1, (z.f0.size ≤ maxLen) ∧ ((Lit.int .i64 z.f1).wf = true)) ∧ (y.f2.length ≤ maxLen ∧ ∀ z ∈ y.f2, ((Lit.int .i64 z.f0).wf = true) ∧ ((Lit.int .i64 z.f1).wf = true) ∧ ((Lit.int .i64 z.f2).wf = true)) ∧ (True) ∧ (y.f4.size ≤ maxLen)) → ∃ k, laws_FnExactUniteStates.f k l0 = some true
end Go.Proofs.Ytenfiihcdhnamaa.Pure
namespace Go.Proofs.Ytenfiihcdhnamaa.Pure
open Go.RowKit Go.Proofs.Ytenfiihcdhnamaa.PFnExactUniteStates Go.Proofs.YtenfiihcdhnamaaW.PrintWords Go.Proofs.YtenfiihcdhnamaaW.PrintLast
set_option linter.unusedVariables false
set_option linter.unusedSimpArgs false
theorem FnExactUniteStates : FnExactUniteStates.Said := by
  intro l hl
  unfold maxLen at hl
  exact ⟨0, if_pos (fun y hy => ⟨(hl.2 y hy).1.1, (hl.2 y hy).1.2, (hl.2 y hy).2.2.2.2, fun p hp => ((hl.2 y hy).2.1.2 p hp).1⟩)⟩
end Go.Proofs.Ytenfiihcdhnamaa.Pure
namespace Go.Proofs.Ytenfiihcdhnamaa.fnExactUniteStates
open Go.ChangeShapes Go.WideShapes Go.ChangeAt Go.RowKit Go.Proofs.Ytenfiihcdhnamaa.Opens Go.Proofs.Ytenfiihcdhnamaa.PFnExactUniteStates Go.Proofs.YtenfiihcdhnamaaW.PrintWords
open Go.ChangeMaps (open_string shut_string)
set_option linter.unusedVariables false
theorem own : ownKnob Try.prog.godebug = none := by kernel_rfl
theorem laidOut : laidOutB Try.prog = true := by kernel_rfl
set_option maxRecDepth 100000 in
theorem open0 {H : Type} {enc : TypeId × Value → H} {W : World} {b : Nat} {v : Value} {d : DataW H} {p : List MemPlace} (hv : Value.okWide Try.prog W .any b 42 v) (h : DataW.Trod enc Try.prog W 0 (fun _ => true) true 42 v d p) :
    ∃ (l0 : (List S27)) (A0 : Option Addr) (c0 : Nat), v = .slice A0 l0.length c0 ∧ (l0.length ≤ maxLen ∧ ∀ y ∈ l0, ((y.f0.f0.size ≤ maxLen) ∧ (y.f0.f1.size ≤ maxLen)) ∧ (y.f1.length ≤ maxLen ∧ ∀ z ∈ y.f1, (z.f0.size ≤ maxLen) ∧ ((Lit.int .i64 z.f1).wf = true)) ∧ (y.f2.length ≤ maxLen ∧ ∀ z ∈ y.f2, ((Lit.int .i64 z.f0).wf = true) ∧ ((Lit.int .i64 z.f1).wf = true) ∧ ((Lit.int .i64 z.f2).wf = true)) ∧ (True) ∧ (y.f4.size ≤ maxLen)) ∧ l0.length ≤ c0 ∧ Kd.C k27 W A0 l0.length l0 := by
  obtain ⟨aa, ll, cc, rfl⟩ := okWide_slice Try.underlying42 hv
  obtain ⟨fuel, hf⟩ := h
  obtain ⟨l0, hk, hg⟩ := (Opens.slice (d := k27) Try.underlying42 (by kernel_rfl) (Opens.iso (fun x : S27 => (x.f0, x.f1, x.f2, x.f3, x.f4)) (fun p => ⟨p.1, p.2.1, p.2.2.1, p.2.2.2.1, p.2.2.2.2⟩) (fun _ => rfl) (Opens.struct Try.underlying27 (Fields.cons rfl rfl rfl (Opens.iso (fun x : S23 => (x.f0, x.f1)) (fun p => ⟨p.1, p.2⟩) (fun _ => rfl) (Opens.struct Try.underlying23 (Fields.cons rfl rfl rfl (Opens.string Try.underlying9) (by kernel_rfl) (Fields.one rfl rfl rfl (Opens.string Try.underlying9) (by kernel_rfl)) rfl) (by kernel_rfl))) (by kernel_rfl) (Fields.cons rfl rfl rfl (Opens.slice (d := k108) Try.underlying24 (by kernel_rfl) (Opens.iso (fun x : S108 => (x.f0, x.f1)) (fun p => ⟨p.1, p.2⟩) (fun _ => rfl) (Opens.struct Try.underlying108 (Fields.cons rfl rfl rfl (Opens.string Try.underlying9) (by kernel_rfl) (Fields.one rfl rfl rfl (Opens.int Try.underlying3) (by kernel_rfl)) rfl) (by kernel_rfl)))) (by kernel_rfl) (Fields.cons rfl rfl rfl (Opens.slice (d := k112) Try.underlying25 (by kernel_rfl) (Opens.iso (fun x : S112 => (x.f0, x.f1, x.f2)) (fun p => ⟨p.1, p.2.1, p.2.2⟩) (fun _ => rfl) (Opens.struct Try.underlying112 (Fields.cons rfl rfl rfl (Opens.int Try.underlying3) (by kernel_rfl) (Fields.cons rfl rfl rfl (Opens.int Try.underlying3) (by kernel_rfl) (Fields.one rfl rfl rfl (Opens.int Try.underlying3) (by kernel_rfl)) rfl) rfl) (by kernel_rfl)))) (by kernel_rfl) (Fields.cons rfl rfl rfl (Opens.bool Try.underlying4) (by kernel_rfl) (Fields.one rfl rfl rfl (Opens.string Try.underlying9) (by kernel_rfl)) rfl) rfl) rfl) rfl) (by kernel_rfl)))).out hf
  have g0 := hg
  have hcs : ∃ (A0 : Option Addr) (c0 : Nat), (Value.slice aa ll cc).cells.toList = ([.slice A0 l0.length c0] : List Value) ∧ l0.length ≤ c0 ∧ Kd.C k27 W A0 l0.length l0 := by
    generalize (Value.slice aa ll cc).cells.toList = q at hk ⊢
    obtain ⟨A0, c0, rfl, hc0, hr0⟩ := hk
    exact ⟨A0, c0, rfl, hc0, hr0⟩
  obtain ⟨A0, c0, hcs, hc0, hr0⟩ := hcs
  refine ⟨l0, A0, c0, ?_, g0, hc0, hr0⟩
  simpa [Value.cells] using hcs
set_option maxRecDepth 100000 in
theorem lifted (os : Os) (started : os.Started) (H : Type) (enc : TypeId × Value → H) :
    ReturnsInHanded {} Try.checked os 5 .any (Rows.fnExactUniteStatesSpec.pre6 enc Try.prog Try.f5 Rows.fnExactUniteStatesRow.domain false) (Rows.fnExactUniteStatesSpec.post enc Try.prog Try.f5 false true false false) := by
  refine returnsInHanded_of_change_sized (C := Try.checked) own started (by kernel_rfl) Try.func5
    (ChangeSpec.witness6 (enc := enc) (C := Try.checked) false ⟨#[], #[.slice none 0 0], []⟩ 8 (by kernel_rfl) (by kernel_rfl) (by kernel_rfl) (by kernel_rfl)) ?_
  intro W base args ds gs before hval0 hW hcnd hsz0 _
  have hval : ∀ (j : Nat) t v, Try.f5.params[j]? = some t → args[j]? = some v → Value.okWide Try.prog W .any base t v := hval0
  have hW' := hW
  obtain ⟨p, q, hA0, hV, rfl, hfz, hnd⟩ := hW
  have hA : DataW.TrodAll enc Try.prog W 0 (fun _ => true) true Try.f5.params.toList args.toList ds p := hA0
  rw [Try.params5] at hA hval
  obtain ⟨v0, vs0, d0, ds0, p0, q0, hargs, rfl, rfl, h0, r0⟩ := trodAll_cons hA
  obtain ⟨rfl, rfl, rfl⟩ := trodAll_nil r0
  obtain rfl : args = #[v0] := by cases args; simp_all
  obtain ⟨rfl, rfl⟩ := trodVars_none hV
  have k0 := h0
  have lt0 : ∀ x ∈ p0, x.block < W.heap.size := by obtain ⟨m, hm⟩ := k0; exact DataW.trod_lt m _ _ _ hm
  obtain ⟨l0, A0, c0, rfl, g0, hc0, hr0⟩ := open0 (hval 0 42 v0 rfl rfl) h0
  clear hA0 hval0 hsz0
  obtain ⟨k, h⟩ := Pure.FnExactUniteStates l0 g0
  refine (PFnExactUniteStates.laws_FnExactUniteStates.calls k _ _ l0 true W hr0 hc0 h).mono fun e W' ⟨he, bel⟩ => ?_
  subst he
  exact ⟨_, rfl, _, _, _, [], _, [], hW', trodAll_mk1 (shut_bool Try.underlying4 _), (trodAll_cons_mk (Below.trod laidOut (by kernel_rfl) (of_decide_eq_true (by kernel_rfl)) k0 bel lt0) trodAll_mk0), rfl, bel.frame _, fun h => by cases h⟩
theorem over : Rows.fnExactUniteStatesRow.holds Try.pinned (OpenSpec.ofChange Rows.fnExactUniteStatesSpec) :=
  OpenClaim.holds_of_wide 5 Try.f5 rfl rfl rfl rfl rfl rfl rfl ⟨rfl, rfl, rfl, rfl, rfl⟩ rfl rfl rfl rfl rfl (by kernel_rfl) Try.func5 (by kernel_rfl)
    (of_decide_eq_true (by kernel_rfl)) (by unfold Func.isWrapper; first | (rw [if_pos (by decide +kernel)]; kernel_rfl) | (rw [if_neg (by decide +kernel)]; exact ⟨rfl, rfl⟩))
    (fun os started H enc _ => lifted os started H enc)
end Go.Proofs.Ytenfiihcdhnamaa.fnExactUniteStates
namespace Go.Proofs.Ytenfiihcdhnamaa
theorem fnExactUniteStates_holds : Rows.FnExactUniteStatesSaid := fnExactUniteStates.over
end Go.Proofs.Ytenfiihcdhnamaa
