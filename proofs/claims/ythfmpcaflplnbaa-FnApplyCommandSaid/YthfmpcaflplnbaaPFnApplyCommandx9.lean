/- spec_PairPut over its model (the texts A of this claim hold the walk), in the place of its printed text. -/
import Derived.Test.YthfmpcaflplnbaaPFnApplyCommandx0
import Derived.Test.YthfmpcaflplnbaaAFnApplyCommand0
namespace Go.Proofs.Ythfmpcaflplnbaa.PFnApplyCommand
open Go.RowKit Go.Proofs.YthfmpcaflplnbaaW.PrintWords Go.Proofs.YthfmpcaflplnbaaW.PrintLast Go.Proofs.YthfmpcaflplnbaaW.PrintMore
set_option linter.unusedVariables false
def spec_PairPut.f (k : Nat) (a0 : List (S42)) (a1 : ByteArray) (a2 : Int) : Option (List (S42) × Bool) := some (putM a0 a1 a2)
theorem spec_PairPut.mono : ∀ a0 a1 a2 k, LeO (spec_PairPut.f k a0 a1 a2) (spec_PairPut.f (k + 1) a0 a1 a2) := fun _ _ _ _ => LeO.refl _
theorem spec_PairPut.calls (k : Nat) (A0 : Option Addr) (c0 : Nat) (l0 : List (S42)) (a1 : ByteArray) (a2 : Int) (r1 : List (S42)) (r2 : Bool) (w : World) (hr0 : Kd.C k42 w A0 l0.length l0) (hc0 : l0.length ≤ c0) (h : spec_PairPut.f k l0 a1 a2 = some (r1, r2)) :
    Calls Try.prog 45 #[.slice A0 l0.length c0, .string a1, .int .i64 a2] w fun e w' => ∃ v0_ : Value, e = .returned (.tuple #[v0_, .bool r2]) ∧ Kd.R k42 42 w' w.heap.size (fun _ => True) v0_ r1 ∧ Below w.heap.size w w' := by
  have e := Option.some.inj h
  have m := spec_PairPut.M A0 c0 l0 a1 a2 w hr0 hc0
  rw [e] at m
  exact m
end Go.Proofs.Ythfmpcaflplnbaa.PFnApplyCommand
