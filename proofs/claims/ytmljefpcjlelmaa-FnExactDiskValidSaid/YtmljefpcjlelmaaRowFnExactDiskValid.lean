/- The row of the law FnExactDiskValid, out of its pure statement and its walk: its parameters are read, cell by cell. No condition beyond the row's own. -/
import Derived.Test.YtmljefpcjlelmaaRows
import Derived.Test.YtmljefpcjlelmaaPFnExactDiskValidx15
import Derived.Test.YtmljefpcjlelmaaPureFnExactDiskValid
import Derived.Test.YtmljefpcjlelmaaOpens
import Derived.WalkKit
import Derived.ProofKit
import Derived.OpenShut
import Derived.ShutString
import Derived.ChangeOld
import Derived.Below
import Derived.SizedLaws
import Derived.Carry
namespace Go.Proofs.Ytmljefpcjlelmaa.fnExactDiskValid
open Go.ChangeShapes Go.WideShapes Go.ChangeAt Go.RowKit Go.Proofs.Ytmljefpcjlelmaa.Opens Go.Proofs.Ytmljefpcjlelmaa.PFnExactDiskValid Go.Proofs.YtmljefpcjlelmaaW.PrintWords
open Go.ChangeMaps (open_string shut_string)
set_option linter.unusedVariables false
theorem own : ownKnob Try.prog.godebug = none := by kernel_rfl
theorem laidOut : laidOutB Try.prog = true := by kernel_rfl
theorem open0 {H : Type} {enc : TypeId × Value → H} {W : World} {b : Nat} {v : Value} {d : DataW H} {p : List MemPlace} (hv : Value.okWide Try.prog W .any b 54 v) (h : DataW.Trod enc Try.prog W 0 (fun _ => true) true 54 v d p) :
    ∃ (l0_0 : (List Int)) (l0_1 : (List (List Int))) (A0_0 : Option Addr) (c0_0 : Nat) (A0_1 : Option Addr) (c0_1 : Nat), v = .agg #[.slice A0_0 l0_0.length c0_0, .slice A0_1 l0_1.length c0_1] ∧ (l0_0.length ≤ maxLen ∧ ∀ y ∈ l0_0, (Lit.int .i64 y).wf = true) ∧ (l0_1.length ≤ maxLen ∧ ∀ y ∈ l0_1, y.length ≤ maxLen ∧ ∀ z ∈ y, (Lit.int .i64 z).wf = true) ∧ l0_0.length ≤ c0_0 ∧ Kd.C (Kd.int .i64) W A0_0 l0_0.length l0_0 ∧ l0_1.length ≤ c0_1 ∧ Kd.C (Kd.slice 3 (Kd.int .i64)) W A0_1 l0_1.length l0_1 := by
  obtain ⟨cs, rfl, _⟩ := okWide_struct Try.underlying54 hv
  obtain ⟨fuel, hf⟩ := h
  obtain ⟨⟨l0_0, l0_1⟩, hk, hg⟩ := (Opens.struct Try.underlying54 (Fields.cons rfl rfl rfl (Opens.slice (d := (Kd.int .i64)) Try.underlying51 (by kernel_rfl) (Opens.int Try.underlying3)) (by kernel_rfl) (Fields.one rfl rfl rfl (Opens.slice (d := (Kd.slice 3 (Kd.int .i64))) Try.underlying52 (by kernel_rfl) (Opens.slice (d := (Kd.int .i64)) Try.underlying51 (by kernel_rfl) (Opens.int Try.underlying3))) (by kernel_rfl)) rfl) (by kernel_rfl)).out hf
  obtain ⟨g0_0, g0_1⟩ := hg
  have hcs : ∃ (A0_0 : Option Addr) (c0_0 : Nat)(A0_1 : Option Addr) (c0_1 : Nat), (Value.agg cs).cells.toList = ([.slice A0_0 l0_0.length c0_0, .slice A0_1 l0_1.length c0_1] : List Value) ∧ l0_0.length ≤ c0_0 ∧ Kd.C (Kd.int .i64) W A0_0 l0_0.length l0_0 ∧ l0_1.length ≤ c0_1 ∧ Kd.C (Kd.slice 3 (Kd.int .i64)) W A0_1 l0_1.length l0_1 := by
    generalize (Value.agg cs).cells.toList = q at hk ⊢
    obtain ⟨_, _, rfl, ⟨A0_0, c0_0, rfl, hc0_0, hr0_0⟩, ⟨A0_1, c0_1, rfl, hc0_1, hr0_1⟩⟩ := hk
    exact ⟨A0_0, c0_0, A0_1, c0_1, rfl, hc0_0, hr0_0, hc0_1, hr0_1⟩
  obtain ⟨A0_0, c0_0, A0_1, c0_1, hcs, hc0_0, hr0_0, hc0_1, hr0_1⟩ := hcs
  refine ⟨l0_0, l0_1, A0_0, c0_0, A0_1, c0_1, ?_, g0_0, g0_1, hc0_0, hr0_0, hc0_1, hr0_1⟩
  exact congrArg Value.agg (Array.toList_inj.mp hcs)
set_option maxRecDepth 100000 in
theorem lifted (os : Os) (started : os.Started) (H : Type) (enc : TypeId × Value → H) :
    ReturnsInHanded {} Try.checked os 11 .any (Rows.fnExactDiskValidSpec.pre6 enc Try.prog Try.f11 Rows.fnExactDiskValidRow.domain false) (Rows.fnExactDiskValidSpec.post enc Try.prog Try.f11 false true false false) := by
  refine returnsInHanded_of_change_sized (C := Try.checked) own started (by kernel_rfl) Try.func11
    (ChangeSpec.witness6 (enc := enc) (C := Try.checked) false ⟨#[], #[.agg #[.slice none 0 0, .slice none 0 0]], []⟩ 8 (by kernel_rfl) (by kernel_rfl) (by kernel_rfl) (by kernel_rfl)) ?_
  intro W base args ds gs before hval0 hW hcnd hsz0 _
  have hval : ∀ (j : Nat) t v, Try.f11.params[j]? = some t → args[j]? = some v → Value.okWide Try.prog W .any base t v := hval0
  have hW' := hW
  obtain ⟨p, q, hA0, hV, rfl, hfz, hnd⟩ := hW
  have hA : DataW.TrodAll enc Try.prog W 0 (fun _ => true) true Try.f11.params.toList args.toList ds p := hA0
  rw [Try.params11] at hA hval
  obtain ⟨v0, vs0, d0, ds0, p0, q0, hargs, rfl, rfl, h0, r0⟩ := trodAll_cons hA
  obtain ⟨rfl, rfl, rfl⟩ := trodAll_nil r0
  obtain rfl : args = #[v0] := by cases args; simp_all
  obtain ⟨rfl, rfl⟩ := trodVars_none hV
  have k0 := h0
  have lt0 : ∀ x ∈ p0, x.block < W.heap.size := by obtain ⟨m, hm⟩ := k0; exact DataW.trod_lt m _ _ _ hm
  obtain ⟨l0_0, l0_1, A0_0, c0_0, A0_1, c0_1, rfl, g0_0, g0_1, hc0_0, hr0_0, hc0_1, hr0_1⟩ := open0 (hval 0 54 v0 rfl rfl) h0
  clear hA0 hval0 hsz0
  obtain ⟨k, h⟩ := Pure.FnExactDiskValid l0_0 l0_1 g0_0 g0_1
  refine (PFnExactDiskValid.laws_FnExactDiskValid.calls k _ _ l0_0 _ _ l0_1 true W hr0_0 hc0_0 hr0_1 hc0_1 h).mono fun e W' ⟨he, bel⟩ => ?_
  subst he
  exact ⟨_, rfl, _, _, _, [], _, [], hW', trodAll_mk1 (shut_bool Try.underlying4 _), (trodAll_cons_mk (Below.trod laidOut (by kernel_rfl) (of_decide_eq_true (by kernel_rfl)) k0 bel lt0) trodAll_mk0), rfl, bel.frame _, fun h => by cases h⟩
theorem over : Rows.fnExactDiskValidRow.holds Try.pinned (OpenSpec.ofChange Rows.fnExactDiskValidSpec) :=
  OpenClaim.holds_of_wide 11 Try.f11 rfl rfl rfl rfl rfl rfl rfl ⟨rfl, rfl, rfl, rfl, rfl⟩ rfl rfl rfl rfl rfl (by kernel_rfl) Try.func11 (by kernel_rfl)
    (of_decide_eq_true (by kernel_rfl)) (by unfold Func.isWrapper; first | (rw [if_pos (by decide +kernel)]; kernel_rfl) | (rw [if_neg (by decide +kernel)]; exact ⟨rfl, rfl⟩))
    (fun os started H enc _ => lifted os started H enc)
end Go.Proofs.Ytmljefpcjlelmaa.fnExactDiskValid
namespace Go.Proofs.Ytmljefpcjlelmaa
theorem fnExactDiskValid_holds : Rows.FnExactDiskValidSaid := fnExactDiskValid.over
end Go.Proofs.Ytmljefpcjlelmaa
