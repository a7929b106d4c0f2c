/- The pure statement of the law FnExactSessionsValid, behind its walk. -/
import Derived.Test.YtmljefpcjlelmaaPFnExactSessionsValidx10
namespace Go.Proofs.Ytmljefpcjlelmaa.Pure
open Go.RowKit Go.Proofs.Ytmljefpcjlelmaa.PFnExactSessionsValid Go.Proofs.YtmljefpcjlelmaaW.PrintWords Go.Proofs.YtmljefpcjlelmaaW.PrintLast
/-- The pure statement of laws.FnExactSessionsValid. -/
def FnExactSessionsValid.Said : Prop := ∀ (l0 : (List S32)), (l0.length ≤ maxLen ∧ ∀ y ∈ l0, ((Lit.int .i64 y.f0).wf = true) ∧ ((Lit.int .i64 y.f1).wf = true) ∧ ((Lit.int .i64 y.f2).wf = true)) → ∃ k, laws_FnExactSessionsValid.f k l0 = some true
end Go.Proofs.Ytmljefpcjlelmaa.Pure
