/- The row of the law FnExactSessionPut, out of its pure statement and its walk: its parameters are read, cell by cell. No condition beyond the row's own. -/
import Derived.Test.YtmljefpcjlelmaaRows
import Derived.Test.YtmljefpcjlelmaaQFnExactSessionPutall
import Derived.Test.YtmljefpcjlelmaaPureFnExactSessionPut
import Derived.Test.YtmljefpcjlelmaaOpens
import Derived.WalkKit
import Derived.ProofKit
import Derived.OpenShut
import Derived.ShutString
import Derived.ChangeOld
import Derived.Below
import Derived.SizedLaws
import Derived.Carry
namespace Go.Proofs.Ytmljefpcjlelmaa.fnExactSessionPut
open Go.ChangeShapes Go.WideShapes Go.ChangeAt Go.RowKit Go.Proofs.Ytmljefpcjlelmaa.Opens Go.Proofs.Ytmljefpcjlelmaa.PFnExactSessionPut Go.Proofs.YtmljefpcjlelmaaW.PrintWords
open Go.ChangeMaps (open_string shut_string)
set_option linter.unusedVariables false
theorem own : ownKnob Try.prog.godebug = none := by kernel_rfl
theorem laidOut : laidOutB Try.prog = true := by kernel_rfl
theorem open0 {H : Type} {enc : TypeId × Value → H} {W : World} {b : Nat} {v : Value} {d : DataW H} {p : List MemPlace} (hv : Value.okWide Try.prog W .any b 22 v) (h : DataW.Trod enc Try.prog W 0 (fun _ => true) true 22 v d p) :
    ∃ (l0 : (List S32)) (A0 : Option Addr) (c0 : Nat), v = .slice A0 l0.length c0 ∧ (l0.length ≤ maxLen ∧ ∀ y ∈ l0, ((Lit.int .i64 y.f0).wf = true) ∧ ((Lit.int .i64 y.f1).wf = true) ∧ ((Lit.int .i64 y.f2).wf = true)) ∧ l0.length ≤ c0 ∧ Kd.C k32 W A0 l0.length l0 := by
  obtain ⟨aa, ll, cc, rfl⟩ := okWide_slice Try.underlying22 hv
  obtain ⟨fuel, hf⟩ := h
  obtain ⟨l0, hk, hg⟩ := (Opens.slice (d := k32) Try.underlying22 (by kernel_rfl) (Opens.iso (fun x : S32 => (x.f0, x.f1, x.f2)) (fun p => ⟨p.1, p.2.1, p.2.2⟩) (fun _ => rfl) (Opens.struct Try.underlying32 (Fields.cons rfl rfl rfl (Opens.int Try.underlying3) (by kernel_rfl) (Fields.cons rfl rfl rfl (Opens.int Try.underlying3) (by kernel_rfl) (Fields.one rfl rfl rfl (Opens.int Try.underlying3) (by kernel_rfl)) rfl) rfl) (by kernel_rfl)))).out hf
  have g0 := hg
  have hcs : ∃ (A0 : Option Addr) (c0 : Nat), (Value.slice aa ll cc).cells.toList = ([.slice A0 l0.length c0] : List Value) ∧ l0.length ≤ c0 ∧ Kd.C k32 W A0 l0.length l0 := by
    generalize (Value.slice aa ll cc).cells.toList = q at hk ⊢
    obtain ⟨A0, c0, rfl, hc0, hr0⟩ := hk
    exact ⟨A0, c0, rfl, hc0, hr0⟩
  obtain ⟨A0, c0, hcs, hc0, hr0⟩ := hcs
  refine ⟨l0, A0, c0, ?_, g0, hc0, hr0⟩
  simpa [Value.cells] using hcs
theorem open1 {H : Type} {enc : TypeId × Value → H} {W : World} {b : Nat} {v : Value} {d : DataW H} {p : List MemPlace} (hv : Value.okWide Try.prog W .any b 32 v) (h : DataW.Trod enc Try.prog W 0 (fun _ => true) true 32 v d p) :
    ∃ (a1_0 : Int) (a1_1 : Int) (a1_2 : Int), v = .agg #[.int .i64 a1_0, .int .i64 a1_1, .int .i64 a1_2] ∧ ((Lit.int .i64 a1_0).wf = true) ∧ ((Lit.int .i64 a1_1).wf = true) ∧ ((Lit.int .i64 a1_2).wf = true) := by
  obtain ⟨cs, rfl, _⟩ := okWide_struct Try.underlying32 hv
  obtain ⟨fuel, hf⟩ := h
  obtain ⟨⟨a1_0, a1_1, a1_2⟩, hk, hg⟩ := (Opens.struct Try.underlying32 (Fields.cons rfl rfl rfl (Opens.int Try.underlying3) (by kernel_rfl) (Fields.cons rfl rfl rfl (Opens.int Try.underlying3) (by kernel_rfl) (Fields.one rfl rfl rfl (Opens.int Try.underlying3) (by kernel_rfl)) rfl) rfl) (by kernel_rfl)).out hf
  obtain ⟨g1_0, g1_1, g1_2⟩ := hg
  have hcs : ∃ _u : Unit, (Value.agg cs).cells.toList = ([.int .i64 a1_0, .int .i64 a1_1, .int .i64 a1_2] : List Value) := by
    generalize (Value.agg cs).cells.toList = q at hk ⊢
    obtain ⟨_, _, rfl, rfl, ⟨_, _, rfl, rfl, rfl⟩⟩ := hk
    exact ⟨(), rfl⟩
  obtain ⟨_, hcs⟩ := hcs
  refine ⟨a1_0, a1_1, a1_2, ?_, g1_0, g1_1, g1_2⟩
  exact congrArg Value.agg (Array.toList_inj.mp hcs)
set_option maxRecDepth 100000 in
theorem lifted (os : Os) (started : os.Started) (H : Type) (enc : TypeId × Value → H) :
    ReturnsInHanded {} Try.checked os 5 .any (Rows.fnExactSessionPutSpec.pre6 enc Try.prog Try.f5 Rows.fnExactSessionPutRow.domain false) (Rows.fnExactSessionPutSpec.post enc Try.prog Try.f5 false true false false) := by
  refine returnsInHanded_of_change_sized (C := Try.checked) own started (by kernel_rfl) Try.func5
    (ChangeSpec.witness6 (enc := enc) (C := Try.checked) false ⟨#[], #[.slice none 0 0, .agg #[.int .i64 0, .int .i64 0, .int .i64 0]], []⟩ 8 (by kernel_rfl) (by kernel_rfl) (by kernel_rfl) (by kernel_rfl)) ?_
  intro W base args ds gs before hval0 hW hcnd hsz0 _
  have hval : ∀ (j : Nat) t v, Try.f5.params[j]? = some t → args[j]? = some v → Value.okWide Try.prog W .any base t v := hval0
  have hW' := hW
  obtain ⟨p, q, hA0, hV, rfl, hfz, hnd⟩ := hW
  have hA : DataW.TrodAll enc Try.prog W 0 (fun _ => true) true Try.f5.params.toList args.toList ds p := hA0
  rw [Try.params5] at hA hval
  obtain ⟨v0, vs0, d0, ds0, p0, q0, hargs, rfl, rfl, h0, r0⟩ := trodAll_cons hA
  obtain ⟨v1, vs1, d1, ds1, p1, q1, rfl, rfl, rfl, h1, r1⟩ := trodAll_cons r0
  obtain ⟨rfl, rfl, rfl⟩ := trodAll_nil r1
  obtain rfl : args = #[v0, v1] := by cases args; simp_all
  obtain ⟨rfl, rfl⟩ := trodVars_none hV
  have k0 := h0
  have lt0 : ∀ x ∈ p0, x.block < W.heap.size := by obtain ⟨m, hm⟩ := k0; exact DataW.trod_lt m _ _ _ hm
  obtain ⟨l0, A0, c0, rfl, g0, hc0, hr0⟩ := open0 (hval 0 22 v0 rfl rfl) h0
  have k1 := h1
  have lt1 : ∀ x ∈ p1, x.block < W.heap.size := by obtain ⟨m, hm⟩ := k1; exact DataW.trod_lt m _ _ _ hm
  obtain ⟨a1_0, a1_1, a1_2, rfl, g1_0, g1_1, g1_2⟩ := open1 (hval 1 32 v1 rfl rfl) h1
  clear hA0 hval0 hsz0
  obtain ⟨k, h⟩ := Pure.FnExactSessionPut l0 a1_0 a1_1 a1_2 g0 g1_0 g1_1 g1_2
  refine (PFnExactSessionPut.laws_FnExactSessionPut.calls k _ _ l0 a1_0 a1_1 a1_2 true W hr0 hc0 h).mono fun e W' ⟨he, bel⟩ => ?_
  subst he
  exact ⟨_, rfl, _, _, _, [], _, [], hW', trodAll_mk1 (shut_bool Try.underlying4 _), (trodAll_cons_mk (Below.trod laidOut (by kernel_rfl) (of_decide_eq_true (by kernel_rfl)) k0 bel lt0) (trodAll_cons_mk (Below.trod laidOut (by kernel_rfl) (of_decide_eq_true (by kernel_rfl)) k1 bel lt1) trodAll_mk0)), rfl, bel.frame _, fun h => by cases h⟩
theorem over : Rows.fnExactSessionPutRow.holds Try.pinned (OpenSpec.ofChange Rows.fnExactSessionPutSpec) :=
  OpenClaim.holds_of_wide 5 Try.f5 rfl rfl rfl rfl rfl rfl rfl ⟨rfl, rfl, rfl, rfl, rfl⟩ rfl rfl rfl rfl rfl (by kernel_rfl) Try.func5 (by kernel_rfl)
    (of_decide_eq_true (by kernel_rfl)) (by unfold Func.isWrapper; first | (rw [if_pos (by decide +kernel)]; kernel_rfl) | (rw [if_neg (by decide +kernel)]; exact ⟨rfl, rfl⟩))
    (fun os started H enc _ => lifted os started H enc)
end Go.Proofs.Ytmljefpcjlelmaa.fnExactSessionPut
namespace Go.Proofs.Ytmljefpcjlelmaa
theorem fnExactSessionPut_holds : Rows.FnExactSessionPutSaid := fnExactSessionPut.over
end Go.Proofs.Ytmljefpcjlelmaa
