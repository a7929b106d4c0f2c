/- spec_PairGet over its model (the texts A of this claim hold the walk), in the place of its printed text. -/
import Derived.Test.YthfmpcaflplnbaaPFnApplyCommandx0
import Derived.Test.YthfmpcaflplnbaaAFnApplyCommand0
namespace Go.Proofs.Ythfmpcaflplnbaa.PFnApplyCommand
open Go.RowKit Go.Proofs.YthfmpcaflplnbaaW.PrintWords Go.Proofs.YthfmpcaflplnbaaW.PrintLast Go.Proofs.YthfmpcaflplnbaaW.PrintMore
set_option linter.unusedVariables false
def spec_PairGet.f (k : Nat) (a0 : List (S42)) (a1 : ByteArray) : Option Int := some (getM a0 a1)
theorem spec_PairGet.mono : ∀ a0 a1 k, LeO (spec_PairGet.f k a0 a1) (spec_PairGet.f (k + 1) a0 a1) := fun _ _ _ => LeO.refl _
theorem spec_PairGet.calls (k : Nat) (A0 : Option Addr) (c0 : Nat) (l0 : List (S42)) (a1 : ByteArray) (r : Int) (w : World) (hr0 : Kd.C k42 w A0 l0.length l0) (hc0 : l0.length ≤ c0) (h : spec_PairGet.f k l0 a1 = some r) :
    Calls Try.prog 43 #[.slice A0 l0.length c0, .string a1] w fun e w' => e = .returned (.int .i64 r) ∧ Below w.heap.size w w' := by
  have e := Option.some.inj h
  have m := spec_PairGet.M A0 c0 l0 a1 w hr0 hc0
  rw [e] at m
  exact m
end Go.Proofs.Ythfmpcaflplnbaa.PFnApplyCommand
