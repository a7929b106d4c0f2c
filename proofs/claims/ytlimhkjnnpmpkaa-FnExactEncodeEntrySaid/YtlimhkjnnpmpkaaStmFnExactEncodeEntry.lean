/- The pure statement of the law FnExactEncodeEntry, behind its walk. -/
import Derived.Test.YtlimhkjnnpmpkaaPFnExactEncodeEntryx19
namespace Go.Proofs.Ytlimhkjnnpmpkaa.Pure
open Go.RowKit Go.Proofs.Ytlimhkjnnpmpkaa.PFnExactEncodeEntry Go.Proofs.YtlimhkjnnpmpkaaW.PrintWords Go.Proofs.YtlimhkjnnpmpkaaW.PrintLast
/-- The pure statement of laws.FnExactEncodeEntry. -/
def FnExactEncodeEntry.Said : Prop := ∀ (a0_0 : Int) (a0_1 : Int) (a0_2 : Int) (a0_3 : ByteArray) (a0_4 : Int) (a0_5 : Int), ((Lit.int .i64 a0_0).wf = true) → ((Lit.int .i64 a0_1).wf = true) → ((Lit.int .i64 a0_2).wf = true) → (a0_3.size ≤ maxLen) → ((Lit.int .i64 a0_4).wf = true) → ((Lit.int .i64 a0_5).wf = true) → ∃ k, laws_FnExactEncodeEntry.f k a0_0 a0_1 a0_2 a0_3 a0_4 a0_5 = some true
end Go.Proofs.Ytlimhkjnnpmpkaa.Pure
