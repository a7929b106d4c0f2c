/- The pure statement of the law FnExactDiskValid, behind its walk. -/
import Derived.Test.YtmljefpcjlelmaaPFnExactDiskValidx15
namespace Go.Proofs.Ytmljefpcjlelmaa.Pure
open Go.RowKit Go.Proofs.Ytmljefpcjlelmaa.PFnExactDiskValid Go.Proofs.YtmljefpcjlelmaaW.PrintWords Go.Proofs.YtmljefpcjlelmaaW.PrintLast
/-- The pure statement of laws.FnExactDiskValid. -/
def FnExactDiskValid.Said : Prop := ∀ (l0_0 : (List Int)) (l0_1 : (List (List Int))), (l0_0.length ≤ maxLen ∧ ∀ y ∈ l0_0, (Lit.int .i64 y).wf = true) → (l0_1.length ≤ maxLen ∧ ∀ y ∈ l0_1, y.length ≤ maxLen ∧ ∀ z ∈ y, (Lit.int .i64 z).wf = true) → ∃ k, laws_FnExactDiskValid.f k l0_0 l0_1 = some true
end Go.Proofs.Ytmljefpcjlelmaa.Pure
