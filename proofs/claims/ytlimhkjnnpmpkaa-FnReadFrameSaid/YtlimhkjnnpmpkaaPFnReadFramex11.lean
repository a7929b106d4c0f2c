/- spec_CommandValid by hand (the printed text of this function does not build). -/
import Derived.Test.YtlimhkjnnpmpkaaPFnReadFramex0
import Derived.Test.YtlimhkjnnpmpkaaPFnReadFramex9
import Derived.Test.YtlimhkjnnpmpkaaPFnReadFramex10
namespace Go.Proofs.Ytlimhkjnnpmpkaa.PFnReadFrame
open Go.RowKit Go.Proofs.YtlimhkjnnpmpkaaW.PrintWords Go.Proofs.YtlimhkjnnpmpkaaW.PrintLast Go.Proofs.YtlimhkjnnpmpkaaW.PrintMore
set_option linter.unusedVariables false
set_option linter.unusedSimpArgs false

def spec_CommandValid.rest (kind value old : Int) : Bool :=
  if kind=1 ∨ kind=3 ∨ kind=5 then decide (value=0) && decide (old=0)
  else if kind=2 then decide (0≤value∧value≤999) && decide (old=0)
  else if kind=4 then decide (0≤value∧value≤999) && decide (-1≤old∧old≤999)
  else false
def spec_CommandValid.f (k : Nat) (kind : Int) (key : ByteArray) (value old : Int) : Option Bool :=
  (spec_KeyValid.f k key).bind fun t=>some ((t || (decide (kind=5) && decide (key.toList=[]))) && spec_CommandValid.rest kind value old)

theorem spec_CommandValid.mono : ∀ a0 a1 a2 a3 k,LeO (spec_CommandValid.f k a0 a1 a2 a3) (spec_CommandValid.f (k + 1) a0 a1 a2 a3):=by
  intro a0 a1 a2 a3 k
  unfold spec_CommandValid.f
  exact LeO.bind (spec_KeyValid.mono _ _) fun _=>LeO.refl _

theorem spec_CommandValid.in_ {a b c : Int} {r : Bool} (hr : decide (b≤a∧a≤c)=r) {w : World} : Calls Try.prog 53 #[.int .i64 a,.int .i64 b,.int .i64 c] w fun e w'=>e=.returned (.bool r)∧Drawn0 w w':=by
  refine (spec_l1In.calls a b c r w ?_).mono fun _ _ h=>h
  unfold spec_l1In.f
  rw [← hr]
  by_cases h : a ≥ b
  · rw [if_pos h]
    exact congrArg some (decide_eq_decide.mpr (by omega))
  · rw [if_neg h,decide_eq_false (by omega)]

set_option maxHeartbeats 4000000 in
set_option maxRecDepth 100000 in
theorem spec_CommandValid.calls (k : Nat) (a0_0 : Int) (a0_1 : ByteArray) (a0_2 : Int) (a0_3 : Int) (r : Bool) (w : World) (h : spec_CommandValid.f k a0_0 a0_1 a0_2 a0_3=some r) :
    Calls Try.prog 57 #[.agg #[.int .i64 a0_0,.string a0_1,.int .i64 a0_2,.int .i64 a0_3]] w fun e w'=>e=.returned (.bool r)∧Below w.heap.size w w':=by
  unfold spec_CommandValid.f at h
  obtain ⟨t,hA,h1⟩:=Option.bind_eq_some_iff.mp h
  have h2:=Option.some.inj h1
  subst h2
  clear h h1
  have A:=Aside0.mk hA
  clear hA
  have HB:=Aside0.mk (Below.refl w.heap.size w)
  obtain ⟨bv,hbv⟩ : ∃ b,decide (0≤a0_2∧a0_2≤999)=b:=⟨_,rfl⟩
  obtain ⟨bo,hbo⟩ : ∃ b,decide (-1≤a0_3∧a0_3≤999)=b:=⟨_,rfl⟩
  have BV:=Aside0.mk hbv
  have BO:=Aside0.mk hbo
  have HR : Aside0 (spec_CommandValid.rest a0_0 a0_2 a0_3=(if a0_0=1 ∨ a0_0=3 ∨ a0_0=5 then decide (a0_2=0) && decide (a0_3=0) else if a0_0=2 then bv && decide (a0_3=0) else if a0_0=4 then bv && bo else false)):=⟨by rw [← hbv,← hbo];rfl⟩
  clear hbv hbo
  have hk : a0_0=1 ∨ a0_0=2 ∨ a0_0=3 ∨ a0_0=4 ∨ a0_0=5 ∨ (a0_0 ≠ 1∧a0_0 ≠ 2∧a0_0 ≠ 3∧a0_0 ≠ 4∧a0_0 ≠ 5):=by omega
  cases t with
  | true =>
    rw [Bool.true_or,Bool.true_and,HR.out]
    clear HR
    rcases hk with rfl | rfl | rfl | rfl | rfl | ⟨n1,n2,n3,n4,n5⟩
    rotate_left 1
    · cases bv
      all_goals
        go_enter Try.func57,Try.ntmps57
        go_wp2_with (first
          | (go_at_call 66;refine (spec_KeyValid.calls k _ _ _ A.out).mono ?_;rintro e w' ⟨rfl,⟨nd,rfl⟩⟩)
          | (go_at_call 53;refine (spec_CommandValid.in_ BV.out).mono ?_;rintro e w' ⟨rfl,⟨nd2,rfl⟩⟩))
      all_goals
        go_ret
        refine ⟨?_,by repeat (first | exact HB.out | apply below_alloc | apply pw_below_drewN)⟩
        first | (simp [*];done) | (simp [*];rfl)
    rotate_left 1
    · cases bv <;> cases bo
      all_goals
        go_enter Try.func57,Try.ntmps57
        go_wp2_with (first
          | (go_at_call 66;refine (spec_KeyValid.calls k _ _ _ A.out).mono ?_;rintro e w' ⟨rfl,⟨nd,rfl⟩⟩)
          | (go_at_call_of 53 (Value.int .i64 a0_2);refine (spec_CommandValid.in_ BV.out).mono ?_;rintro e w' ⟨rfl,⟨nd2,rfl⟩⟩)
          | (go_at_call_of 53 (Value.int .i64 a0_3);refine (spec_CommandValid.in_ BO.out).mono ?_;rintro e w' ⟨rfl,⟨nd3,rfl⟩⟩))
      all_goals
        go_ret
        refine ⟨?_,by repeat (first | exact HB.out | apply below_alloc | apply pw_below_drewN)⟩
        first | (simp [*];done) | (simp [*];rfl)
    all_goals
      try (have m1 : (a0_0 == 1)=false:=beq_eq_false_iff_ne.mpr n1;have m2 : (a0_0 == 2)=false:=beq_eq_false_iff_ne.mpr n2;have m3 : (a0_0 == 3)=false:=beq_eq_false_iff_ne.mpr n3;have m4 : (a0_0 == 4)=false:=beq_eq_false_iff_ne.mpr n4;have m5 : (a0_0 == 5)=false:=beq_eq_false_iff_ne.mpr n5)
      go_enter Try.func57,Try.ntmps57
      go_wp2_with (first
        | (go_at_call 66;refine (spec_KeyValid.calls k _ _ _ A.out).mono ?_;rintro e w' ⟨rfl,⟨nd,rfl⟩⟩))
    all_goals
      go_ret
      refine ⟨?_,by repeat (first | exact HB.out | apply below_alloc | apply pw_below_drewN)⟩
      first | (simp [*];done) | (simp [*];rfl)
  | false =>
    rw [Bool.false_or]
    by_cases h5 : a0_0=5
    · subst h5
      by_cases h0 : a0_1.toList=[]
      · have e0 : (a0_1.toList == ([] : List UInt8))=true:=by rw [h0];rfl
        have e1 : (a0_1.toList != ([] : List UInt8))=false:=by rw [h0];rfl
        rw [HR.out]
        clear HR
        have H0:=Aside0.mk h0
        clear h0
        go_enter Try.func57,Try.ntmps57
        go_wp2_with (first
          | (go_at_call 66;refine (spec_KeyValid.calls k _ _ _ A.out).mono ?_;rintro e w' ⟨rfl,⟨nd,rfl⟩⟩))
        all_goals
          go_ret
          refine ⟨?_,by repeat (first | exact HB.out | apply below_alloc | apply pw_below_drewN)⟩
          first | (simp [*,H0.out];done) | (simp [*,H0.out];rfl)
      · have e0 : (a0_1.toList == ([] : List UInt8))=false:=by simpa using h0
        have e1 : (a0_1.toList != ([] : List UInt8))=true:=by simpa using h0
        clear HR hk
        rw [decide_eq_false h0,Bool.and_false,Bool.false_and]
        clear h0
        go_enter Try.func57,Try.ntmps57
        go_wp2_with (first
          | (go_at_call 66;refine (spec_KeyValid.calls k _ _ _ A.out).mono ?_;rintro e w' ⟨rfl,⟨nd,rfl⟩⟩))
        go_ret
        exact ⟨rfl,by repeat (first | exact HB.out | apply below_alloc | apply pw_below_drewN)⟩
    · have m5 : (a0_0 == 5)=false:=beq_eq_false_iff_ne.mpr h5
      have m6 : (a0_0 != 5)=true:=bne_iff_ne.mpr h5
      rw [decide_eq_false h5,Bool.false_and,Bool.false_and]
      clear HR hk h5
      go_enter Try.func57,Try.ntmps57
      go_wp2_with (first
        | (go_at_call 66;refine (spec_KeyValid.calls k _ _ _ A.out).mono ?_;rintro e w' ⟨rfl,⟨nd,rfl⟩⟩))
      go_ret
      exact ⟨rfl,by repeat (first | exact HB.out | apply below_alloc | apply pw_below_drewN)⟩
end Go.Proofs.Ytlimhkjnnpmpkaa.PFnReadFrame
