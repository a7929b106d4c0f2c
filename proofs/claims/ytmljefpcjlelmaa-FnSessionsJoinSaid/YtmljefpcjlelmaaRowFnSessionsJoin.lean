/- The row of the law FnSessionsJoin, out of its pure statement and its walk: its parameters are read, cell by cell. No condition beyond the row's own. -/
import Derived.Test.YtmljefpcjlelmaaRows
import Derived.Test.YtmljefpcjlelmaaQFnSessionsJoinall
import Derived.Test.YtmljefpcjlelmaaPureFnSessionsJoin
import Derived.Test.YtmljefpcjlelmaaOpens
import Derived.WalkKit
import Derived.ProofKit
import Derived.OpenShut
import Derived.ShutString
import Derived.ChangeOld
import Derived.Below
import Derived.SizedLaws
import Derived.Carry
namespace Go.Proofs.Ytmljefpcjlelmaa.fnSessionsJoin
open Go.ChangeShapes Go.WideShapes Go.ChangeAt Go.RowKit Go.Proofs.Ytmljefpcjlelmaa.Opens Go.Proofs.Ytmljefpcjlelmaa.PFnSessionsJoin Go.Proofs.YtmljefpcjlelmaaW.PrintWords
open Go.ChangeMaps (open_string shut_string)
set_option linter.unusedVariables false
theorem own : ownKnob Try.prog.godebug = none := by kernel_rfl
theorem laidOut : laidOutB Try.prog = true := by kernel_rfl
theorem open0 {H : Type} {enc : TypeId × Value → H} {W : World} {b : Nat} {v : Value} {d : DataW H} {p : List MemPlace} (hv : Value.okWide Try.prog W .any b 40 v) (h : DataW.Trod enc Try.prog W 0 (fun _ => true) true 40 v d p) :
    ∃ (l0 : (List Int)) (A0 : Option Addr) (c0 : Nat), v = .slice A0 l0.length c0 ∧ (l0.length ≤ maxLen ∧ ∀ y ∈ l0, (Lit.int .u8 y).wf = true) ∧ l0.length ≤ c0 ∧ Kd.C (Kd.int .u8) W A0 l0.length l0 := by
  obtain ⟨aa, ll, cc, rfl⟩ := okWide_slice Try.underlying40 hv
  obtain ⟨fuel, hf⟩ := h
  obtain ⟨l0, hk, hg⟩ := (Opens.slice (d := (Kd.int .u8)) Try.underlying40 (by kernel_rfl) (Opens.int Try.underlying5)).out hf
  have g0 := hg
  have hcs : ∃ (A0 : Option Addr) (c0 : Nat), (Value.slice aa ll cc).cells.toList = ([.slice A0 l0.length c0] : List Value) ∧ l0.length ≤ c0 ∧ Kd.C (Kd.int .u8) W A0 l0.length l0 := by
    generalize (Value.slice aa ll cc).cells.toList = q at hk ⊢
    obtain ⟨A0, c0, rfl, hc0, hr0⟩ := hk
    exact ⟨A0, c0, rfl, hc0, hr0⟩
  obtain ⟨A0, c0, hcs, hc0, hr0⟩ := hcs
  refine ⟨l0, A0, c0, ?_, g0, hc0, hr0⟩
  simpa [Value.cells] using hcs
set_option maxRecDepth 100000 in
theorem lifted (os : Os) (started : os.Started) (H : Type) (enc : TypeId × Value → H) :
    ReturnsInHanded {} Try.checked os 10 .any (Rows.fnSessionsJoinSpec.pre6 enc Try.prog Try.f10 Rows.fnSessionsJoinRow.domain false) (Rows.fnSessionsJoinSpec.post enc Try.prog Try.f10 false true false false) := by
  refine returnsInHanded_of_change_sized (C := Try.checked) own started (by kernel_rfl) Try.func10
    (ChangeSpec.witness6 (enc := enc) (C := Try.checked) false ⟨#[], #[.slice none 0 0], []⟩ 8 (by kernel_rfl) (by kernel_rfl) (by kernel_rfl) (by kernel_rfl)) ?_
  intro W base args ds gs before hval0 hW hcnd hsz0 _
  have hval : ∀ (j : Nat) t v, Try.f10.params[j]? = some t → args[j]? = some v → Value.okWide Try.prog W .any base t v := hval0
  have hW' := hW
  obtain ⟨p, q, hA0, hV, rfl, hfz, hnd⟩ := hW
  have hA : DataW.TrodAll enc Try.prog W 0 (fun _ => true) true Try.f10.params.toList args.toList ds p := hA0
  rw [Try.params10] at hA hval
  obtain ⟨v0, vs0, d0, ds0, p0, q0, hargs, rfl, rfl, h0, r0⟩ := trodAll_cons hA
  obtain ⟨rfl, rfl, rfl⟩ := trodAll_nil r0
  obtain rfl : args = #[v0] := by cases args; simp_all
  obtain ⟨rfl, rfl⟩ := trodVars_none hV
  have k0 := h0
  have lt0 : ∀ x ∈ p0, x.block < W.heap.size := by obtain ⟨m, hm⟩ := k0; exact DataW.trod_lt m _ _ _ hm
  obtain ⟨l0, A0, c0, rfl, g0, hc0, hr0⟩ := open0 (hval 0 40 v0 rfl rfl) h0
  clear hA0 hval0 hsz0
  obtain ⟨k, h⟩ := Pure.FnSessionsJoin l0 g0
  refine (PFnSessionsJoin.laws_FnSessionsJoin.calls k _ _ l0 true W hr0 hc0 h).mono fun e W' ⟨he, bel⟩ => ?_
  subst he
  exact ⟨_, rfl, _, _, _, [], _, [], hW', trodAll_mk1 (shut_bool Try.underlying4 _), (trodAll_cons_mk (Below.trod laidOut (by kernel_rfl) (of_decide_eq_true (by kernel_rfl)) k0 bel lt0) trodAll_mk0), rfl, bel.frame _, fun h => by cases h⟩
theorem over : Rows.fnSessionsJoinRow.holds Try.pinned (OpenSpec.ofChange Rows.fnSessionsJoinSpec) :=
  OpenClaim.holds_of_wide 10 Try.f10 rfl rfl rfl rfl rfl rfl rfl ⟨rfl, rfl, rfl, rfl, rfl⟩ rfl rfl rfl rfl rfl (by kernel_rfl) Try.func10 (by kernel_rfl)
    (of_decide_eq_true (by kernel_rfl)) (by unfold Func.isWrapper; first | (rw [if_pos (by decide +kernel)]; kernel_rfl) | (rw [if_neg (by decide +kernel)]; exact ⟨rfl, rfl⟩))
    (fun os started H enc _ => lifted os started H enc)
end Go.Proofs.Ytmljefpcjlelmaa.fnSessionsJoin
namespace Go.Proofs.Ytmljefpcjlelmaa
theorem fnSessionsJoin_holds : Rows.FnSessionsJoinSaid := fnSessionsJoin.over
end Go.Proofs.Ytmljefpcjlelmaa
