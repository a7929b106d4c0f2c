/- The row of the law FnExactFrameEntry, out of its pure statement and its walk: its parameters are read, cell by cell. No condition beyond the row's own. -/
import Derived.Test.YtlimhkjnnpmpkaaRows
import Derived.Test.YtlimhkjnnpmpkaaPFnExactFrameEntryx25
import Derived.Test.YtlimhkjnnpmpkaaPureFnExactFrameEntry
import Derived.Test.YtlimhkjnnpmpkaaOpens
import Derived.WalkKit
import Derived.ProofKit
import Derived.OpenShut
import Derived.ShutString
import Derived.ChangeOld
import Derived.Below
import Derived.SizedLaws
import Derived.Carry
namespace Go.Proofs.Ytlimhkjnnpmpkaa.fnExactFrameEntry
open Go.ChangeShapes Go.WideShapes Go.ChangeAt Go.RowKit Go.Proofs.Ytlimhkjnnpmpkaa.Opens Go.Proofs.Ytlimhkjnnpmpkaa.PFnExactFrameEntry Go.Proofs.YtlimhkjnnpmpkaaW.PrintWords
open Go.ChangeMaps (open_string shut_string)
set_option linter.unusedVariables false
theorem own : ownKnob Try.prog.godebug = none := by kernel_rfl
theorem laidOut : laidOutB Try.prog = true := by kernel_rfl
theorem open1 {H : Type} {enc : TypeId × Value → H} {W : World} {b : Nat} {v : Value} {d : DataW H} {p : List MemPlace} (hv : Value.okWide Try.prog W .any b 25 v) (h : DataW.Trod enc Try.prog W 0 (fun _ => true) true 25 v d p) :
    ∃ (a1_0 : Int) (a1_1 : Int) (a1_2 : Int) (a1_3 : ByteArray) (a1_4 : Int) (a1_5 : Int), v = .agg #[.int .i64 a1_0, .int .i64 a1_1, .int .i64 a1_2, .string a1_3, .int .i64 a1_4, .int .i64 a1_5] ∧ ((Lit.int .i64 a1_0).wf = true) ∧ ((Lit.int .i64 a1_1).wf = true) ∧ ((Lit.int .i64 a1_2).wf = true) ∧ (a1_3.size ≤ maxLen) ∧ ((Lit.int .i64 a1_4).wf = true) ∧ ((Lit.int .i64 a1_5).wf = true) := by
  obtain ⟨cs, rfl, _⟩ := okWide_struct Try.underlying25 hv
  obtain ⟨fuel, hf⟩ := h
  obtain ⟨⟨a1_0, a1_1, ⟨a1_2, a1_3, a1_4, a1_5⟩⟩, hk, hg⟩ := (Opens.struct Try.underlying25 (Fields.cons rfl rfl rfl (Opens.int Try.underlying3) (by kernel_rfl) (Fields.cons rfl rfl rfl (Opens.int Try.underlying3) (by kernel_rfl) (Fields.one rfl rfl rfl (Opens.struct Try.underlying23 (Fields.cons rfl rfl rfl (Opens.int Try.underlying3) (by kernel_rfl) (Fields.cons rfl rfl rfl (Opens.string Try.underlying9) (by kernel_rfl) (Fields.cons rfl rfl rfl (Opens.int Try.underlying3) (by kernel_rfl) (Fields.one rfl rfl rfl (Opens.int Try.underlying3) (by kernel_rfl)) rfl) rfl) rfl) (by kernel_rfl)) (by kernel_rfl)) rfl) rfl) (by kernel_rfl)).out hf
  obtain ⟨g1_0, g1_1, ⟨g1_2, g1_3, g1_4, g1_5⟩⟩ := hg
  have hcs : ∃ _u : Unit, (Value.agg cs).cells.toList = ([.int .i64 a1_0, .int .i64 a1_1, .int .i64 a1_2, .string a1_3, .int .i64 a1_4, .int .i64 a1_5] : List Value) := by
    generalize (Value.agg cs).cells.toList = q at hk ⊢
    obtain ⟨_, _, rfl, rfl, ⟨_, _, rfl, rfl, ⟨_, _, rfl, rfl, ⟨_, _, rfl, rfl, ⟨_, _, rfl, rfl, rfl⟩⟩⟩⟩⟩ := hk
    exact ⟨(), rfl⟩
  obtain ⟨_, hcs⟩ := hcs
  refine ⟨a1_0, a1_1, a1_2, a1_3, a1_4, a1_5, ?_, g1_0, g1_1, g1_2, g1_3, g1_4, g1_5⟩
  exact congrArg Value.agg (Array.toList_inj.mp hcs)
set_option maxRecDepth 100000 in
theorem lifted (os : Os) (started : os.Started) (H : Type) (enc : TypeId × Value → H) :
    ReturnsInHanded {} Try.checked os 7 .any (Rows.fnExactFrameEntrySpec.pre6 enc Try.prog Try.f7 Rows.fnExactFrameEntryRow.domain false) (Rows.fnExactFrameEntrySpec.post enc Try.prog Try.f7 false true false false) := by
  refine returnsInHanded_of_change_sized (C := Try.checked) own started (by kernel_rfl) Try.func7
    (ChangeSpec.witness6 (enc := enc) (C := Try.checked) false ⟨#[], #[.int .i64 0, .agg #[.int .i64 0, .int .i64 0, .int .i64 0, .string ByteArray.empty, .int .i64 0, .int .i64 0]], []⟩ 8 (by kernel_rfl) (by kernel_rfl) (by kernel_rfl) (by kernel_rfl)) ?_
  intro W base args ds gs before hval0 hW hcnd hsz0 _
  have hval : ∀ (j : Nat) t v, Try.f7.params[j]? = some t → args[j]? = some v → Value.okWide Try.prog W .any base t v := hval0
  have hW' := hW
  obtain ⟨p, q, hA0, hV, rfl, hfz, hnd⟩ := hW
  have hA : DataW.TrodAll enc Try.prog W 0 (fun _ => true) true Try.f7.params.toList args.toList ds p := hA0
  rw [Try.params7] at hA hval
  obtain ⟨v0, vs0, d0, ds0, p0, q0, hargs, rfl, rfl, h0, r0⟩ := trodAll_cons hA
  obtain ⟨v1, vs1, d1, ds1, p1, q1, rfl, rfl, rfl, h1, r1⟩ := trodAll_cons r0
  obtain ⟨rfl, rfl, rfl⟩ := trodAll_nil r1
  obtain rfl : args = #[v0, v1] := by cases args; simp_all
  obtain ⟨rfl, rfl⟩ := trodVars_none hV
  obtain ⟨a0, rfl, rfl, rfl, g0⟩ := open_int Try.underlying3 (hval 0 3 v0 rfl rfl) h0
  have k1 := h1
  have lt1 : ∀ x ∈ p1, x.block < W.heap.size := by obtain ⟨m, hm⟩ := k1; exact DataW.trod_lt m _ _ _ hm
  obtain ⟨a1_0, a1_1, a1_2, a1_3, a1_4, a1_5, rfl, g1_0, g1_1, g1_2, g1_3, g1_4, g1_5⟩ := open1 (hval 1 25 v1 rfl rfl) h1
  clear hA0 hval0 hsz0
  obtain ⟨k, h⟩ := Pure.FnExactFrameEntry a0 a1_0 a1_1 a1_2 a1_3 a1_4 a1_5 g0 g1_0 g1_1 g1_2 g1_3 g1_4 g1_5
  refine (PFnExactFrameEntry.laws_FnExactFrameEntry.calls k a0 a1_0 a1_1 a1_2 a1_3 a1_4 a1_5 true W  h).mono fun e W' ⟨he, bel⟩ => ?_
  subst he
  exact ⟨_, rfl, _, _, _, [], _, [], hW', trodAll_mk1 (shut_bool Try.underlying4 _), (trodAll_cons_mk (shut_int Try.underlying3 g0) (trodAll_cons_mk (Below.trod laidOut (by kernel_rfl) (of_decide_eq_true (by kernel_rfl)) k1 bel lt1) trodAll_mk0)), rfl, bel.frame _, fun h => by cases h⟩
theorem over : Rows.fnExactFrameEntryRow.holds Try.pinned (OpenSpec.ofChange Rows.fnExactFrameEntrySpec) :=
  OpenClaim.holds_of_wide 7 Try.f7 rfl rfl rfl rfl rfl rfl rfl ⟨rfl, rfl, rfl, rfl, rfl⟩ rfl rfl rfl rfl rfl (by kernel_rfl) Try.func7 (by kernel_rfl)
    (of_decide_eq_true (by kernel_rfl)) (by unfold Func.isWrapper; first | (rw [if_pos (by decide +kernel)]; kernel_rfl) | (rw [if_neg (by decide +kernel)]; exact ⟨rfl, rfl⟩))
    (fun os started H enc _ => lifted os started H enc)
end Go.Proofs.Ytlimhkjnnpmpkaa.fnExactFrameEntry
namespace Go.Proofs.Ytlimhkjnnpmpkaa
theorem fnExactFrameEntry_holds : Rows.FnExactFrameEntrySaid := fnExactFrameEntry.over
end Go.Proofs.Ytlimhkjnnpmpkaa
