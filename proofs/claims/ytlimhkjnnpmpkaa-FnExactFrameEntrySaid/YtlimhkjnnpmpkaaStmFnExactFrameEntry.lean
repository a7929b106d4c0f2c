/- The pure statement of the law FnExactFrameEntry, behind its walk. -/
import Derived.Test.YtlimhkjnnpmpkaaPFnExactFrameEntryx25
namespace Go.Proofs.Ytlimhkjnnpmpkaa.Pure
open Go.RowKit Go.Proofs.Ytlimhkjnnpmpkaa.PFnExactFrameEntry Go.Proofs.YtlimhkjnnpmpkaaW.PrintWords Go.Proofs.YtlimhkjnnpmpkaaW.PrintLast
/-- The pure statement of laws.FnExactFrameEntry. -/
def FnExactFrameEntry.Said : Prop := ∀ (a0 : Int) (a1_0 : Int) (a1_1 : Int) (a1_2 : Int) (a1_3 : ByteArray) (a1_4 : Int) (a1_5 : Int), ((Lit.int .i64 a0).wf = true) → ((Lit.int .i64 a1_0).wf = true) → ((Lit.int .i64 a1_1).wf = true) → ((Lit.int .i64 a1_2).wf = true) → (a1_3.size ≤ maxLen) → ((Lit.int .i64 a1_4).wf = true) → ((Lit.int .i64 a1_5).wf = true) → ∃ k, laws_FnExactFrameEntry.f k a0 a1_0 a1_1 a1_2 a1_3 a1_4 a1_5 = some true
end Go.Proofs.Ytlimhkjnnpmpkaa.Pure
