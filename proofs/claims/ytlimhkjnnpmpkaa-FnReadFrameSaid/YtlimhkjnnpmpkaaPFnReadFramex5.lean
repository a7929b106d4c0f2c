/- impl_CommandValid by hand (the printed text of this function does not build). -/
import Derived.Test.YtlimhkjnnpmpkaaPFnReadFramex0
import Derived.Test.YtlimhkjnnpmpkaaPFnReadFramex2
import Derived.Test.YtlimhkjnnpmpkaaPFnReadFramex4
namespace Go.Proofs.Ytlimhkjnnpmpkaa.PFnReadFrame
open Go.RowKit Go.Proofs.YtlimhkjnnpmpkaaW.PrintWords Go.Proofs.YtlimhkjnnpmpkaaW.PrintLast Go.Proofs.YtlimhkjnnpmpkaaW.PrintMore
set_option linter.unusedVariables false
set_option linter.unusedSimpArgs false

def impl_CommandValid.rest (kind value old : Int) : Bool :=
  if kind=2 then decide (0≤value∧value≤999) && decide (old=0)
  else if kind=4 then decide (0≤value∧value≤999) && (decide (old=-1) || decide (0≤old∧old≤999))
  else decide (1≤kind∧kind≤5) && (decide (value=0) && decide (old=0))
def impl_CommandValid.f (k : Nat) (kind : Int) (key : ByteArray) (value old : Int) : Option Bool :=
  (impl_KeyValid.f k key).bind fun t=>some ((t || (decide (kind=5) && decide (key.toList=[]))) && impl_CommandValid.rest kind value old)

theorem impl_CommandValid.mono : ∀ a0 a1 a2 a3 k,LeO (impl_CommandValid.f k a0 a1 a2 a3) (impl_CommandValid.f (k + 1) a0 a1 a2 a3):=by
  intro a0 a1 a2 a3 k
  unfold impl_CommandValid.f
  exact LeO.bind (impl_KeyValid.mono _ _) fun _=>LeO.refl _

theorem impl_CommandValid.in_ {a : Int} {r : Bool} (hr : decide (0≤a∧a≤999)=r) {w : World} : Calls Try.prog 62 #[.int .i64 a] w fun e w'=>e=.returned (.bool r)∧Drawn0 w w':=by
  refine (impl_valueValid.calls a r w ?_).mono fun _ _ h=>h
  unfold impl_valueValid.f
  rw [← hr]
  by_cases h : a ≥ 0
  · rw [if_pos h]
    exact congrArg some (decide_eq_decide.mpr (by omega))
  · rw [if_neg h,decide_eq_false (by omega)]

set_option maxHeartbeats 4000000 in
set_option maxRecDepth 100000 in
theorem impl_CommandValid.calls (k : Nat) (a0_0 : Int) (a0_1 : ByteArray) (a0_2 : Int) (a0_3 : Int) (r : Bool) (w : World) (h : impl_CommandValid.f k a0_0 a0_1 a0_2 a0_3=some r) :
    Calls Try.prog 50 #[.agg #[.int .i64 a0_0,.string a0_1,.int .i64 a0_2,.int .i64 a0_3]] w fun e w'=>e=.returned (.bool r)∧Below w.heap.size w w':=by
  unfold impl_CommandValid.f at h
  obtain ⟨t,hA,h1⟩:=Option.bind_eq_some_iff.mp h
  have h2:=Option.some.inj h1
  subst h2
  clear h h1
  have A:=Aside0.mk hA
  clear hA
  have HB:=Aside0.mk (Below.refl w.heap.size w)
  obtain ⟨bv,hbv⟩ : ∃ b,decide (0≤a0_2∧a0_2≤999)=b:=⟨_,rfl⟩
  obtain ⟨bo,hbo⟩ : ∃ b,decide (0≤a0_3∧a0_3≤999)=b:=⟨_,rfl⟩
  have BV:=Aside0.mk hbv
  have BO:=Aside0.mk hbo
  have HR : Aside0 (impl_CommandValid.rest a0_0 a0_2 a0_3=(if a0_0=2 then bv && decide (a0_3=0) else if a0_0=4 then bv && (decide (a0_3=-1) || bo) else decide (1≤a0_0∧a0_0≤5) && (decide (a0_2=0) && decide (a0_3=0)))):=⟨by rw [← hbv,← hbo];rfl⟩
  clear hbv hbo
  have hk : a0_0=1 ∨ a0_0=2 ∨ a0_0=3 ∨ a0_0=4 ∨ a0_0=5 ∨ a0_0 < 1 ∨ 5 < a0_0:=by omega
  by_cases hin : 1≤a0_0∧a0_0≤5
  · cases t with
    | true =>
      rw [Bool.true_or,Bool.true_and,HR.out]
      clear HR
      have hk : a0_0=1 ∨ a0_0=2 ∨ a0_0=3 ∨ a0_0=4 ∨ a0_0=5:=by omega
      clear hin
      obtain ⟨bm,hbm⟩ : ∃ b,decide (a0_3=-1)=b:=⟨_,rfl⟩
      have bm2 : (a0_3 == -1)=bm:=hbm
      rw [hbm]
      clear hbm
      rcases hk with rfl | rfl | rfl | rfl | rfl
      rotate_left 1
      · cases bv
        all_goals
          go_enter Try.func50,Try.ntmps50
          go_wp2_with (first
            | (go_at_call 61;refine (impl_KeyValid.calls k _ _ _ A.out).mono ?_;rintro e w' ⟨rfl,⟨nd,rfl⟩⟩)
            | (go_at_call 62;refine (impl_CommandValid.in_ BV.out).mono ?_;rintro e w' ⟨rfl,⟨nd2,rfl⟩⟩))
        all_goals
          go_ret
          refine ⟨?_,by repeat (first | exact HB.out | apply below_alloc | apply pw_below_drewN)⟩
          first | (simp [*];done) | (simp [*];rfl)
      rotate_left 1
      · cases bv <;> cases bo <;> cases bm
        all_goals
          go_enter Try.func50,Try.ntmps50
          go_wp2_with (first
            | (go_at_call 61;refine (impl_KeyValid.calls k _ _ _ A.out).mono ?_;rintro e w' ⟨rfl,⟨nd,rfl⟩⟩)
            | (go_at_call_of 62 (Value.int .i64 a0_2);refine (impl_CommandValid.in_ BV.out).mono ?_;rintro e w' ⟨rfl,⟨nd2,rfl⟩⟩)
            | (go_at_call_of 62 (Value.int .i64 a0_3);refine (impl_CommandValid.in_ BO.out).mono ?_;rintro e w' ⟨rfl,⟨nd3,rfl⟩⟩))
        all_goals
          go_ret
          refine ⟨?_,by repeat (first | exact HB.out | apply below_alloc | apply pw_below_drewN)⟩
          first | (simp [*];done) | (simp [*];rfl)
      all_goals
        clear bm2
        go_enter Try.func50,Try.ntmps50
        go_wp2_with (first
          | (go_at_call 61;refine (impl_KeyValid.calls k _ _ _ A.out).mono ?_;rintro e w' ⟨rfl,⟨nd,rfl⟩⟩))
      all_goals
        go_ret
        refine ⟨?_,by repeat (first | exact HB.out | apply below_alloc | apply pw_below_drewN)⟩
        first | (simp [*];done) | (simp [*];rfl)
    | false =>
      rw [Bool.false_or]
      have i1 : decide (a0_0 < 1)=false:=decide_eq_false (by omega)
      have i2 : decide (5 < a0_0)=false:=decide_eq_false (by omega)
      clear hin
      by_cases h5 : a0_0=5
      · subst h5
        by_cases h0 : a0_1.toList=[]
        · have e0 : (a0_1.toList == ([] : List UInt8))=true:=by rw [h0];rfl
          have e1 : (a0_1.toList != ([] : List UInt8))=false:=by rw [h0];rfl
          rw [HR.out]
          clear HR hk
          have H0:=Aside0.mk h0
          clear h0
          go_enter Try.func50,Try.ntmps50
          go_wp2_with (first
            | (go_at_call 61;refine (impl_KeyValid.calls k _ _ _ A.out).mono ?_;rintro e w' ⟨rfl,⟨nd,rfl⟩⟩))
          all_goals
            go_ret
            refine ⟨?_,by repeat (first | exact HB.out | apply below_alloc | apply pw_below_drewN)⟩
            first | (simp [*,H0.out];done) | (simp [*,H0.out];rfl)
        · have e0 : (a0_1.toList == ([] : List UInt8))=false:=by simpa using h0
          have e1 : (a0_1.toList != ([] : List UInt8))=true:=by simpa using h0
          clear HR hk
          rw [decide_eq_false h0,Bool.and_false,Bool.false_and]
          clear h0
          go_enter Try.func50,Try.ntmps50
          go_wp2_with (first
            | (go_at_call 61;refine (impl_KeyValid.calls k _ _ _ A.out).mono ?_;rintro e w' ⟨rfl,⟨nd,rfl⟩⟩))
          go_ret
          exact ⟨rfl,by repeat (first | exact HB.out | apply below_alloc | apply pw_below_drewN)⟩
      · have m5 : (a0_0 == 5)=false:=beq_eq_false_iff_ne.mpr h5
        have m6 : (a0_0 != 5)=true:=bne_iff_ne.mpr h5
        rw [decide_eq_false h5,Bool.false_and,Bool.false_and]
        clear HR hk h5
        go_enter Try.func50,Try.ntmps50
        go_wp2_with (first
          | (go_at_call 61;refine (impl_KeyValid.calls k _ _ _ A.out).mono ?_;rintro e w' ⟨rfl,⟨nd,rfl⟩⟩))
        go_ret
        exact ⟨rfl,by repeat (first | exact HB.out | apply below_alloc | apply pw_below_drewN)⟩
  · have hf : (impl_CommandValid.rest a0_0 a0_2 a0_3)=false:=by
      unfold impl_CommandValid.rest
      rw [if_neg (by omega),if_neg (by omega),decide_eq_false hin,Bool.false_and]
    rw [hf,Bool.and_false]
    clear HR hf hk
    by_cases h1 : a0_0 < 1
    · have i1 : decide (a0_0 < 1)=true:=decide_eq_true h1
      clear hin h1
      go_enter Try.func50,Try.ntmps50
      go_wp2
      go_ret
      exact ⟨rfl,by repeat (first | exact HB.out | apply below_alloc | apply pw_below_drewN)⟩
    · have i1 : decide (a0_0 < 1)=false:=decide_eq_false h1
      have i2 : decide (5 < a0_0)=true:=decide_eq_true (by omega)
      clear hin h1
      go_enter Try.func50,Try.ntmps50
      go_wp2
      go_ret
      exact ⟨rfl,by repeat (first | exact HB.out | apply below_alloc | apply pw_below_drewN)⟩
end Go.Proofs.Ytlimhkjnnpmpkaa.PFnReadFrame
