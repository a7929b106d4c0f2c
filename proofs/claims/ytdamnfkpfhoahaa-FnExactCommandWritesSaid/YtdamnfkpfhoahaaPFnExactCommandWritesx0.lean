-- PRINTED BY print.sh 35421559b90ae4d0a3588c463048766b98c2df88dd9212a6774a882060cdf62d: not written by this session
import Derived.Test.YtdamnfkpfhoahaaProg
import Derived.Below
import Derived.Deep.Draws
import Derived.Deep.AppendLies
import Derived.Maps.AppendAt
import Derived.OwnWalk
import Derived.Laws.BytesArg
import Derived.Laws.MakeOwn
import Derived.Laws.OwnMore
import Derived.Deep.OwnRows
import Derived.Tactics
import Derived.Lib.ConvBytes
import Derived.Laws.Slices
import Derived.WalkKit
import Derived.KernelRfl
import Derived.RowKit3
import Derived.Deep.LoopGhost
import Derived.Deep.QuietTactic
import Derived.BigQuiet
import Derived.WideLaws
import Derived.Deep.DeepCutAuto
import Derived.Deep.CutBlock
import Derived.Deep.RegionHeld3
import Derived.Laws.Rows
import Derived.Lib.AppendStr
import Derived.ArgAppend
import Derived.Laws.IdiomCopy
import Derived.OrdersHeld
import Derived.Laws.BitsLemmas
import Derived.RowKit
import Derived.Test.YtdamnfkpfhoahaaWWords
import Derived.Test.YtdamnfkpfhoahaaWLast
import Derived.Test.YtdamnfkpfhoahaaWTab
import Derived.Test.YtdamnfkpfhoahaaWFour
import Derived.Test.YtdamnfkpfhoahaaWQPut
import Derived.Test.YtdamnfkpfhoahaaWApart
import Derived.Test.YtdamnfkpfhoahaaWArr
import Derived.Test.YtdamnfkpfhoahaaWZeros
import Derived.Test.YtdamnfkpfhoahaaWFoot
import Derived.Test.YtdamnfkpfhoahaaWKept
import Derived.Test.YtdamnfkpfhoahaaWShare
import Derived.Test.YtdamnfkpfhoahaaWN
import Derived.Test.YtdamnfkpfhoahaaWFootNe
import Derived.Test.YtdamnfkpfhoahaaWAt
import Derived.Test.YtdamnfkpfhoahaaWEqStruct
import Derived.Test.YtdamnfkpfhoahaaWRepsOne
import Derived.Test.YtdamnfkpfhoahaaWInv
import Derived.Test.YtdamnfkpfhoahaaWInvWords
import Derived.Test.YtdamnfkpfhoahaaWGuard
import Derived.Test.YtdamnfkpfhoahaaWNEv
import Derived.Test.YtdamnfkpfhoahaaWMore
namespace Go.Proofs.Ytdamnfkpfhoahaa.PFnExactCommandWrites
open Go.RowKit Go.Proofs.YtdamnfkpfhoahaaW.PrintWords Go.Proofs.YtdamnfkpfhoahaaW.PrintLast Go.Proofs.YtdamnfkpfhoahaaW.PrintMore
attribute [local go_sem] max2_int min2_int max_two min_two max_three min_three max_four min_four   -- for this text's walks alone
set_option linter.unusedVariables false
set_option linter.unusedSimpArgs false



def errW : Option Int → Value
  | none => .nilIface
  | some c => .iface 0 (.int .i64 c)
theorem errW_none : errW none = .nilIface := rfl
theorem errW_some (c : Int) : errW (some c) = .iface 0 (.int .i64 c) := rfl

-- the values' own types

end Go.Proofs.Ytdamnfkpfhoahaa.PFnExactCommandWrites
