/- The row of the law FnExactEncodeEntry, out of its pure statement and its walk: its parameters are read, cell by cell. No condition beyond the row's own. -/
import Derived.Test.YtlimhkjnnpmpkaaRows
import Derived.Test.YtlimhkjnnpmpkaaPFnExactEncodeEntryx19
import Derived.Test.YtlimhkjnnpmpkaaPureFnExactEncodeEntry
import Derived.Test.YtlimhkjnnpmpkaaOpens
import Derived.WalkKit
import Derived.ProofKit
import Derived.OpenShut
import Derived.ShutString
import Derived.ChangeOld
import Derived.Below
import Derived.SizedLaws
import Derived.Carry
namespace Go.Proofs.Ytlimhkjnnpmpkaa.fnExactEncodeEntry
open Go.ChangeShapes Go.WideShapes Go.ChangeAt Go.RowKit Go.Proofs.Ytlimhkjnnpmpkaa.Opens Go.Proofs.Ytlimhkjnnpmpkaa.PFnExactEncodeEntry Go.Proofs.YtlimhkjnnpmpkaaW.PrintWords
open Go.ChangeMaps (open_string shut_string)
set_option linter.unusedVariables false
theorem own : ownKnob Try.prog.godebug = none := by kernel_rfl
theorem laidOut : laidOutB Try.prog = true := by kernel_rfl
theorem open0 {H : Type} {enc : TypeId × Value → H} {W : World} {b : Nat} {v : Value} {d : DataW H} {p : List MemPlace} (hv : Value.okWide Try.prog W .any b 25 v) (h : DataW.Trod enc Try.prog W 0 (fun _ => true) true 25 v d p) :
    ∃ (a0_0 : Int) (a0_1 : Int) (a0_2 : Int) (a0_3 : ByteArray) (a0_4 : Int) (a0_5 : Int), v = .agg #[.int .i64 a0_0, .int .i64 a0_1, .int .i64 a0_2, .string a0_3, .int .i64 a0_4, .int .i64 a0_5] ∧ ((Lit.int .i64 a0_0).wf = true) ∧ ((Lit.int .i64 a0_1).wf = true) ∧ ((Lit.int .i64 a0_2).wf = true) ∧ (a0_3.size ≤ maxLen) ∧ ((Lit.int .i64 a0_4).wf = true) ∧ ((Lit.int .i64 a0_5).wf = true) := by
  obtain ⟨cs, rfl, _⟩ := okWide_struct Try.underlying25 hv
  obtain ⟨fuel, hf⟩ := h
  obtain ⟨⟨a0_0, a0_1, ⟨a0_2, a0_3, a0_4, a0_5⟩⟩, hk, hg⟩ := (Opens.struct Try.underlying25 (Fields.cons rfl rfl rfl (Opens.int Try.underlying3) (by kernel_rfl) (Fields.cons rfl rfl rfl (Opens.int Try.underlying3) (by kernel_rfl) (Fields.one rfl rfl rfl (Opens.struct Try.underlying23 (Fields.cons rfl rfl rfl (Opens.int Try.underlying3) (by kernel_rfl) (Fields.cons rfl rfl rfl (Opens.string Try.underlying9) (by kernel_rfl) (Fields.cons rfl rfl rfl (Opens.int Try.underlying3) (by kernel_rfl) (Fields.one rfl rfl rfl (Opens.int Try.underlying3) (by kernel_rfl)) rfl) rfl) rfl) (by kernel_rfl)) (by kernel_rfl)) rfl) rfl) (by kernel_rfl)).out hf
  obtain ⟨g0_0, g0_1, ⟨g0_2, g0_3, g0_4, g0_5⟩⟩ := hg
  have hcs : ∃ _u : Unit, (Value.agg cs).cells.toList = ([.int .i64 a0_0, .int .i64 a0_1, .int .i64 a0_2, .string a0_3, .int .i64 a0_4, .int .i64 a0_5] : List Value) := by
    generalize (Value.agg cs).cells.toList = q at hk ⊢
    obtain ⟨_, _, rfl, rfl, ⟨_, _, rfl, rfl, ⟨_, _, rfl, rfl, ⟨_, _, rfl, rfl, ⟨_, _, rfl, rfl, rfl⟩⟩⟩⟩⟩ := hk
    exact ⟨(), rfl⟩
  obtain ⟨_, hcs⟩ := hcs
  refine ⟨a0_0, a0_1, a0_2, a0_3, a0_4, a0_5, ?_, g0_0, g0_1, g0_2, g0_3, g0_4, g0_5⟩
  exact congrArg Value.agg (Array.toList_inj.mp hcs)
set_option maxRecDepth 100000 in
theorem lifted (os : Os) (started : os.Started) (H : Type) (enc : TypeId × Value → H) :
    ReturnsInHanded {} Try.checked os 3 .any (Rows.fnExactEncodeEntrySpec.pre6 enc Try.prog Try.f3 Rows.fnExactEncodeEntryRow.domain false) (Rows.fnExactEncodeEntrySpec.post enc Try.prog Try.f3 false true false false) := by
  refine returnsInHanded_of_change_sized (C := Try.checked) own started (by kernel_rfl) Try.func3
    (ChangeSpec.witness6 (enc := enc) (C := Try.checked) false ⟨#[], #[.agg #[.int .i64 0, .int .i64 0, .int .i64 0, .string ByteArray.empty, .int .i64 0, .int .i64 0]], []⟩ 8 (by kernel_rfl) (by kernel_rfl) (by kernel_rfl) (by kernel_rfl)) ?_
  intro W base args ds gs before hval0 hW hcnd hsz0 _
  have hval : ∀ (j : Nat) t v, Try.f3.params[j]? = some t → args[j]? = some v → Value.okWide Try.prog W .any base t v := hval0
  have hW' := hW
  obtain ⟨p, q, hA0, hV, rfl, hfz, hnd⟩ := hW
  have hA : DataW.TrodAll enc Try.prog W 0 (fun _ => true) true Try.f3.params.toList args.toList ds p := hA0
  rw [Try.params3] at hA hval
  obtain ⟨v0, vs0, d0, ds0, p0, q0, hargs, rfl, rfl, h0, r0⟩ := trodAll_cons hA
  obtain ⟨rfl, rfl, rfl⟩ := trodAll_nil r0
  obtain rfl : args = #[v0] := by cases args; simp_all
  obtain ⟨rfl, rfl⟩ := trodVars_none hV
  have k0 := h0
  have lt0 : ∀ x ∈ p0, x.block < W.heap.size := by obtain ⟨m, hm⟩ := k0; exact DataW.trod_lt m _ _ _ hm
  obtain ⟨a0_0, a0_1, a0_2, a0_3, a0_4, a0_5, rfl, g0_0, g0_1, g0_2, g0_3, g0_4, g0_5⟩ := open0 (hval 0 25 v0 rfl rfl) h0
  clear hA0 hval0 hsz0
  obtain ⟨k, h⟩ := Pure.FnExactEncodeEntry a0_0 a0_1 a0_2 a0_3 a0_4 a0_5 g0_0 g0_1 g0_2 g0_3 g0_4 g0_5
  refine (PFnExactEncodeEntry.laws_FnExactEncodeEntry.calls k a0_0 a0_1 a0_2 a0_3 a0_4 a0_5 true W  h).mono fun e W' ⟨he, bel⟩ => ?_
  subst he
  exact ⟨_, rfl, _, _, _, [], _, [], hW', trodAll_mk1 (shut_bool Try.underlying4 _), (trodAll_cons_mk (Below.trod laidOut (by kernel_rfl) (of_decide_eq_true (by kernel_rfl)) k0 bel lt0) trodAll_mk0), rfl, bel.frame _, fun h => by cases h⟩
theorem over : Rows.fnExactEncodeEntryRow.holds Try.pinned (OpenSpec.ofChange Rows.fnExactEncodeEntrySpec) :=
  OpenClaim.holds_of_wide 3 Try.f3 rfl rfl rfl rfl rfl rfl rfl ⟨rfl, rfl, rfl, rfl, rfl⟩ rfl rfl rfl rfl rfl (by kernel_rfl) Try.func3 (by kernel_rfl)
    (of_decide_eq_true (by kernel_rfl)) (by unfold Func.isWrapper; first | (rw [if_pos (by decide +kernel)]; kernel_rfl) | (rw [if_neg (by decide +kernel)]; exact ⟨rfl, rfl⟩))
    (fun os started H enc _ => lifted os started H enc)
end Go.Proofs.Ytlimhkjnnpmpkaa.fnExactEncodeEntry
namespace Go.Proofs.Ytlimhkjnnpmpkaa
theorem fnExactEncodeEntry_holds : Rows.FnExactEncodeEntrySaid := fnExactEncodeEntry.over
end Go.Proofs.Ytlimhkjnnpmpkaa
