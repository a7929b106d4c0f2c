/- The pure statement of the law FnEntryValid, behind its walk. -/
import Derived.Test.YtdamnfkpfhoahaaQFnEntryValidlawsFnEntryValid
namespace Go.Proofs.Ytdamnfkpfhoahaa.Pure
open Go.RowKit Go.Proofs.Ytdamnfkpfhoahaa.PFnEntryValid Go.Proofs.YtdamnfkpfhoahaaW.PrintWords Go.Proofs.YtdamnfkpfhoahaaW.PrintLast
/-- The pure statement of laws.FnEntryValid. -/
def FnEntryValid.Said : Prop := ∀ (l0 : (List Int)), (l0.length ≤ maxLen ∧ ∀ y ∈ l0, (Lit.int .u8 y).wf = true) → ∃ k, laws_FnEntryValid.f k l0 = some true
end Go.Proofs.Ytdamnfkpfhoahaa.Pure
