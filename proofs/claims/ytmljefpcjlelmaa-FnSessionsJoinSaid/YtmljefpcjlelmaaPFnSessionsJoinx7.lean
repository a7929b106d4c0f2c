/- spec_SessionSeq by hand (the printed text of this function does not build). -/
import Derived.Test.YtmljefpcjlelmaaPFnSessionsJoinx0
import Derived.Test.YtmljefpcjlelmaaPFnSessionsJoinx4
import Derived.Test.YtmljefpcjlelmaaPFnSessionsJoinx5
import Derived.Test.YtmljefpcjlelmaaPFnSessionsJoinx6
namespace Go.Proofs.Ytmljefpcjlelmaa.PFnSessionsJoin
open Go.RowKit Go.Proofs.YtmljefpcjlelmaaW.PrintWords Go.Proofs.YtmljefpcjlelmaaW.PrintLast Go.Proofs.YtmljefpcjlelmaaW.PrintMore
set_option linter.unusedVariables false
set_option linter.unusedSimpArgs false

def spec_SessionSeq.f (k : Nat) (l : List S35) (c : Int) : Option Int :=
  (spec_SessionsValid.f k l).bind fun t => if t = true then (if 0 ≤ c ∧ c ≤ 3 then (spec_l9Find.f k l c).bind fun p => some p.2.1 else some (-1)) else some (-1)
theorem spec_SessionSeq.mono : ∀ a0 a1 k, LeO (spec_SessionSeq.f k a0 a1) (spec_SessionSeq.f (k + 1) a0 a1) := by
  intro a0 a1 k
  unfold spec_SessionSeq.f
  exact LeO.bind (spec_SessionsValid.mono _ _) fun _ => LeO.ite (LeO.ite (LeO.bind (spec_l9Find.mono _ _ _) fun _ => LeO.refl _) (LeO.refl _)) (LeO.refl _)

theorem spec_SessionSeq.in_ {a b c : Int} {r : Bool} (hr : decide (b ≤ a ∧ a ≤ c) = r) {w : World} : Calls Try.prog 38 #[.int .i64 a, .int .i64 b, .int .i64 c] w fun e w' => e = .returned (.bool r) ∧ Drawn0 w w' := by
  refine (spec_l1In.calls a b c r w ?_).mono fun _ _ h => h
  unfold spec_l1In.f
  rw [← hr]
  by_cases h : a ≥ b
  · rw [if_pos h]
    exact congrArg some (decide_eq_decide.mpr (by omega))
  · rw [if_neg h, decide_eq_false (by omega)]

set_option maxHeartbeats 2000000 in
set_option maxRecDepth 100000 in
theorem spec_SessionSeq.calls (k : Nat) (A0 : Option Addr) (c0 : Nat) (l0 : List S35) (a1 : Int) (r : Int) (w : World) (hr0 : Kd.C k35 w A0 l0.length l0) (hc0 : l0.length ≤ c0) (h : spec_SessionSeq.f k l0 a1 = some r) :
    Calls Try.prog 17 #[.slice A0 l0.length c0, .int .i64 a1] w fun e w' => e = .returned (.int .i64 r) ∧ Below w.heap.size w w' := by
  have HR0 := Aside0.mk hr0
  have HC0 := Aside0.mk hc0
  clear hr0 hc0
  have HB := Aside0.mk (Below.refl w.heap.size w)
  unfold spec_SessionSeq.f at h
  obtain ⟨t, hA, h1⟩ := Option.bind_eq_some_iff.mp h
  have A := Aside0.mk hA
  clear h hA
  cases t with
  | false =>
    have h2 := Option.some.inj h1
    clear h1
    subst h2
    go_enter Try.func17, Try.ntmps17
    go_wp2_with (first | (go_at_call 13; refine (spec_SessionsValid.calls k _ _ _ _ _ HR0.out HC0.out A.out).mono ?_; rintro e w1 ⟨rfl, hb1⟩))
    go_ret
    exact ⟨rfl, hb1⟩
  | true =>
    rw [if_pos rfl] at h1
    by_cases hin : 0 ≤ a1 ∧ a1 ≤ 3
    · rw [if_pos hin] at h1
      obtain ⟨⟨f1, f2, f3⟩, hF, h2⟩ := Option.bind_eq_some_iff.mp h1
      have h3 := Option.some.inj h2
      clear h1 h2
      subst h3
      have F := Aside0.mk hF
      have I := Aside0.mk (decide_eq_true hin)
      clear hF hin
      have hfld : ∀ W : World, Sem.run Try.prog (Instr.field 35 (Value.agg #[Value.int .i64 f1, Value.int .i64 f2, Value.int .i64 f3]) 1) W = .ok (Value.int .i64 f2) W := fun W => by rfl
      go_enter Try.func17, Try.ntmps17
      go_wp2_with (first
        | (go_at_call 13; refine (spec_SessionsValid.calls k _ _ _ _ _ HR0.out HC0.out A.out).mono ?_; rintro e w1 ⟨rfl, hb1⟩)
        | (go_at_call 38; refine (spec_SessionSeq.in_ I.out).mono ?_; rintro e w2 ⟨rfl, ⟨nd, rfl⟩⟩)
        | (go_at_call 41; refine (spec_l9Find.calls k _ _ l0 a1 f1 f2 f3 _ (Kd.C_below HR0.out (pw_below_drewN hb1 nd)) HC0.out F.out).mono ?_; rintro e w3 ⟨rfl, hb3⟩))
      go_ret
      exact ⟨rfl, below_step (pw_below_drewN hb1 nd) hb3⟩
    · rw [if_neg hin] at h1
      have h2 := Option.some.inj h1
      clear h1
      subst h2
      have I := Aside0.mk (decide_eq_false hin)
      clear hin
      go_enter Try.func17, Try.ntmps17
      go_wp2_with (first
        | (go_at_call 13; refine (spec_SessionsValid.calls k _ _ _ _ _ HR0.out HC0.out A.out).mono ?_; rintro e w1 ⟨rfl, hb1⟩)
        | (go_at_call 38; refine (spec_SessionSeq.in_ I.out).mono ?_; rintro e w2 ⟨rfl, ⟨nd, rfl⟩⟩))
      go_ret
      exact ⟨rfl, pw_below_drewN hb1 nd⟩
end Go.Proofs.Ytmljefpcjlelmaa.PFnSessionsJoin
