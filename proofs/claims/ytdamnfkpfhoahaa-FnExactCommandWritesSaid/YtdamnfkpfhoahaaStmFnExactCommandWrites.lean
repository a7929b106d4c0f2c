/- The pure statement of the law FnExactCommandWrites, behind its walk. -/
import Derived.Test.YtdamnfkpfhoahaaPFnExactCommandWritesx12
namespace Go.Proofs.Ytdamnfkpfhoahaa.Pure
open Go.RowKit Go.Proofs.Ytdamnfkpfhoahaa.PFnExactCommandWrites Go.Proofs.YtdamnfkpfhoahaaW.PrintWords Go.Proofs.YtdamnfkpfhoahaaW.PrintLast
/-- The pure statement of laws.FnExactCommandWrites. -/
def FnExactCommandWrites.Said : Prop := ∀ (a0_0 : Int) (a0_1 : ByteArray) (a0_2 : Int) (a0_3 : Int), ((Lit.int .i64 a0_0).wf = true) → (a0_1.size ≤ maxLen) → ((Lit.int .i64 a0_2).wf = true) → ((Lit.int .i64 a0_3).wf = true) → ∃ k, laws_FnExactCommandWrites.f k a0_0 a0_1 a0_2 a0_3 = some true
end Go.Proofs.Ytdamnfkpfhoahaa.Pure
