/- The row of the law FnExactSessionsJoin, out of its pure statement and its walk: its parameters are read, cell by cell. No condition beyond the row's own. -/
import Derived.Test.YtmljefpcjlelmaaRows
import Derived.Test.YtmljefpcjlelmaaQFnExactSessionsJoinall
import Derived.Test.YtmljefpcjlelmaaPureFnExactSessionsJoin
import Derived.Test.YtmljefpcjlelmaaOpens
import Derived.WalkKit
import Derived.ProofKit
import Derived.OpenShut
import Derived.ShutString
import Derived.ChangeOld
import Derived.Below
import Derived.SizedLaws
import Derived.Carry
namespace Go.Proofs.Ytmljefpcjlelmaa.fnExactSessionsJoin
open Go.ChangeShapes Go.WideShapes Go.ChangeAt Go.RowKit Go.Proofs.Ytmljefpcjlelmaa.Opens Go.Proofs.Ytmljefpcjlelmaa.PFnExactSessionsJoin Go.Proofs.YtmljefpcjlelmaaW.PrintWords
open Go.ChangeMaps (open_string shut_string)
set_option linter.unusedVariables false
theorem own : ownKnob Try.prog.godebug = none := by kernel_rfl
theorem laidOut : laidOutB Try.prog = true := by kernel_rfl
theorem open0 {H : Type} {enc : TypeId × Value → H} {W : World} {b : Nat} {v : Value} {d : DataW H} {p : List MemPlace} (hv : Value.okWide Try.prog W .any b 22 v) (h : DataW.Trod enc Try.prog W 0 (fun _ => true) true 22 v d p) :
    ∃ (l0 : (List S32)) (A0 : Option Addr) (c0 : Nat), v = .slice A0 l0.length c0 ∧ (l0.length ≤ maxLen ∧ ∀ y ∈ l0, ((Lit.int .i64 y.f0).wf = true) ∧ ((Lit.int .i64 y.f1).wf = true) ∧ ((Lit.int .i64 y.f2).wf = true)) ∧ l0.length ≤ c0 ∧ Kd.C k32 W A0 l0.length l0 := by
  obtain ⟨aa, ll, cc, rfl⟩ := okWide_slice Try.underlying22 hv
  obtain ⟨fuel, hf⟩ := h
  obtain ⟨l0, hk, hg⟩ := (Opens.slice (d := k32) Try.underlying22 (by kernel_rfl) (Opens.iso (fun x : S32 => (x.f0, x.f1, x.f2)) (fun p => ⟨p.1, p.2.1, p.2.2⟩) (fun _ => rfl) (Opens.struct Try.underlying32 (Fields.cons rfl rfl rfl (Opens.int Try.underlying3) (by kernel_rfl) (Fields.cons rfl rfl rfl (Opens.int Try.underlying3) (by kernel_rfl) (Fields.one rfl rfl rfl (Opens.int Try.underlying3) (by kernel_rfl)) rfl) rfl) (by kernel_rfl)))).out hf
  have g0 := hg
  have hcs : ∃ (A0 : Option Addr) (c0 : Nat), (Value.slice aa ll cc).cells.toList = ([.slice A0 l0.length c0] : List Value) ∧ l0.length ≤ c0 ∧ Kd.C k32 W A0 l0.length l0 := by
    generalize (Value.slice aa ll cc).cells.toList = q at hk ⊢
    obtain ⟨A0, c0, rfl, hc0, hr0⟩ := hk
    exact ⟨A0, c0, rfl, hc0, hr0⟩
  obtain ⟨A0, c0, hcs, hc0, hr0⟩ := hcs
  refine ⟨l0, A0, c0, ?_, g0, hc0, hr0⟩
  simpa [Value.cells] using hcs
theorem open1 {H : Type} {enc : TypeId × Value → H} {W : World} {b : Nat} {v : Value} {d : DataW H} {p : List MemPlace} (hv : Value.okWide Try.prog W .any b 22 v) (h : DataW.Trod enc Try.prog W 0 (fun _ => true) true 22 v d p) :
    ∃ (l1 : (List S32)) (A1 : Option Addr) (c1 : Nat), v = .slice A1 l1.length c1 ∧ (l1.length ≤ maxLen ∧ ∀ y ∈ l1, ((Lit.int .i64 y.f0).wf = true) ∧ ((Lit.int .i64 y.f1).wf = true) ∧ ((Lit.int .i64 y.f2).wf = true)) ∧ l1.length ≤ c1 ∧ Kd.C k32 W A1 l1.length l1 := by
  obtain ⟨aa, ll, cc, rfl⟩ := okWide_slice Try.underlying22 hv
  obtain ⟨fuel, hf⟩ := h
  obtain ⟨l1, hk, hg⟩ := (Opens.slice (d := k32) Try.underlying22 (by kernel_rfl) (Opens.iso (fun x : S32 => (x.f0, x.f1, x.f2)) (fun p => ⟨p.1, p.2.1, p.2.2⟩) (fun _ => rfl) (Opens.struct Try.underlying32 (Fields.cons rfl rfl rfl (Opens.int Try.underlying3) (by kernel_rfl) (Fields.cons rfl rfl rfl (Opens.int Try.underlying3) (by kernel_rfl) (Fields.one rfl rfl rfl (Opens.int Try.underlying3) (by kernel_rfl)) rfl) rfl) (by kernel_rfl)))).out hf
  have g1 := hg
  have hcs : ∃ (A1 : Option Addr) (c1 : Nat), (Value.slice aa ll cc).cells.toList = ([.slice A1 l1.length c1] : List Value) ∧ l1.length ≤ c1 ∧ Kd.C k32 W A1 l1.length l1 := by
    generalize (Value.slice aa ll cc).cells.toList = q at hk ⊢
    obtain ⟨A1, c1, rfl, hc1, hr1⟩ := hk
    exact ⟨A1, c1, rfl, hc1, hr1⟩
  obtain ⟨A1, c1, hcs, hc1, hr1⟩ := hcs
  refine ⟨l1, A1, c1, ?_, g1, hc1, hr1⟩
  simpa [Value.cells] using hcs
set_option maxRecDepth 100000 in
theorem lifted (os : Os) (started : os.Started) (H : Type) (enc : TypeId × Value → H) :
    ReturnsInHanded {} Try.checked os 6 .any (Rows.fnExactSessionsJoinSpec.pre6 enc Try.prog Try.f6 Rows.fnExactSessionsJoinRow.domain false) (Rows.fnExactSessionsJoinSpec.post enc Try.prog Try.f6 false true false false) := by
  refine returnsInHanded_of_change_sized (C := Try.checked) own started (by kernel_rfl) Try.func6
    (ChangeSpec.witness6 (enc := enc) (C := Try.checked) false ⟨#[], #[.slice none 0 0, .slice none 0 0], []⟩ 8 (by kernel_rfl) (by kernel_rfl) (by kernel_rfl) (by kernel_rfl)) ?_
  intro W base args ds gs before hval0 hW hcnd hsz0 _
  have hval : ∀ (j : Nat) t v, Try.f6.params[j]? = some t → args[j]? = some v → Value.okWide Try.prog W .any base t v := hval0
  have hW' := hW
  obtain ⟨p, q, hA0, hV, rfl, hfz, hnd⟩ := hW
  have hA : DataW.TrodAll enc Try.prog W 0 (fun _ => true) true Try.f6.params.toList args.toList ds p := hA0
  rw [Try.params6] at hA hval
  obtain ⟨v0, vs0, d0, ds0, p0, q0, hargs, rfl, rfl, h0, r0⟩ := trodAll_cons hA
  obtain ⟨v1, vs1, d1, ds1, p1, q1, rfl, rfl, rfl, h1, r1⟩ := trodAll_cons r0
  obtain ⟨rfl, rfl, rfl⟩ := trodAll_nil r1
  obtain rfl : args = #[v0, v1] := by cases args; simp_all
  obtain ⟨rfl, rfl⟩ := trodVars_none hV
  have k0 := h0
  have lt0 : ∀ x ∈ p0, x.block < W.heap.size := by obtain ⟨m, hm⟩ := k0; exact DataW.trod_lt m _ _ _ hm
  obtain ⟨l0, A0, c0, rfl, g0, hc0, hr0⟩ := open0 (hval 0 22 v0 rfl rfl) h0
  have k1 := h1
  have lt1 : ∀ x ∈ p1, x.block < W.heap.size := by obtain ⟨m, hm⟩ := k1; exact DataW.trod_lt m _ _ _ hm
  obtain ⟨l1, A1, c1, rfl, g1, hc1, hr1⟩ := open1 (hval 1 22 v1 rfl rfl) h1
  clear hA0 hval0 hsz0
  obtain ⟨k, h⟩ := Pure.FnExactSessionsJoin l0 l1 g0 g1
  refine (PFnExactSessionsJoin.laws_FnExactSessionsJoin.calls k _ _ l0 _ _ l1 true W hr0 hc0 hr1 hc1 h).mono fun e W' ⟨he, bel⟩ => ?_
  subst he
  exact ⟨_, rfl, _, _, _, [], _, [], hW', trodAll_mk1 (shut_bool Try.underlying4 _), (trodAll_cons_mk (Below.trod laidOut (by kernel_rfl) (of_decide_eq_true (by kernel_rfl)) k0 bel lt0) (trodAll_cons_mk (Below.trod laidOut (by kernel_rfl) (of_decide_eq_true (by kernel_rfl)) k1 bel lt1) trodAll_mk0)), rfl, bel.frame _, fun h => by cases h⟩
theorem over : Rows.fnExactSessionsJoinRow.holds Try.pinned (OpenSpec.ofChange Rows.fnExactSessionsJoinSpec) :=
  OpenClaim.holds_of_wide 6 Try.f6 rfl rfl rfl rfl rfl rfl rfl ⟨rfl, rfl, rfl, rfl, rfl⟩ rfl rfl rfl rfl rfl (by kernel_rfl) Try.func6 (by kernel_rfl)
    (of_decide_eq_true (by kernel_rfl)) (by unfold Func.isWrapper; first | (rw [if_pos (by decide +kernel)]; kernel_rfl) | (rw [if_neg (by decide +kernel)]; exact ⟨rfl, rfl⟩))
    (fun os started H enc _ => lifted os started H enc)
end Go.Proofs.Ytmljefpcjlelmaa.fnExactSessionsJoin
namespace Go.Proofs.Ytmljefpcjlelmaa
theorem fnExactSessionsJoin_holds : Rows.FnExactSessionsJoinSaid := fnExactSessionsJoin.over
end Go.Proofs.Ytmljefpcjlelmaa
