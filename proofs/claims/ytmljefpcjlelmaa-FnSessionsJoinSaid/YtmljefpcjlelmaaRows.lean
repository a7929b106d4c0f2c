/-
  No cell of these rows narrows 'for every input' (looked for: loops, veiled, ifaces, maps, wideKeys, modest, calm, conditions, laid).
  DERIVED. THE GIVEN ROWS OF THIS SEAT. 9 by the template 'for every input the law returns true; each argument reads behind the call as it read before'; 0 by the template 'total and deterministic' (their statements: YtmljefpcjlelmaaTotals.lean).
  GIVEN WITH THE SEED: the statements are not yours to turn. If you find one false, say at which input.
  Laid BY PROGRAM, IN A SANDBOX (cutbox-rows.mjs): the forced cells as the released guide's own fill.sh prints them over the translation 960845edcff84e2a… (all of the seat's roots in one cut). By AI agents, Wed Nov 11 2026. No macro, syntax, notation, axiom, sorry.
-/
import Derived.Test.YtmljefpcjlelmaaChecked
import GoSem.Claim
import GoSem.ClaimJoined
import GoSem.ClaimMapViews
import Derived.JoinedTies
import Derived.KernelRfl
namespace Go.Proofs.Ytmljefpcjlelmaa
/- THE CELL 'sum', in the pinned program and in every row, IS THE sha256 OF THE DUMP (.gsa) THAT YtmljefpcjlelmaaProg.lean LOADS. Nothing in Lean hashes anything: it is a label: what it is worth is what the hold of that sum in a sandbox is worth. -/
noncomputable def Try.pinned : Pinned := { name := "ytmljefpcjlelmaa", sum := "960845edcff84e2a997b450ae808ab4d71039ea413cd2d9171e58961c05f0953", checked := Try.checked }
namespace Rows
def none {H : Type} : Left H := { results := [], args := [] }

/-- 'laws.FnExactSessionsValid': WHATEVER THE INPUT: true; the input reads as it did. -/
def fnExactSessionsValidSpec : ChangeSpec := { name := "fnExactSessionsValid", fn := fun _ => fun
  | [d] => { results := [.lit (.bool true)], args := [d] }
  | _ => none }
def fnExactSessionsValidRow : OpenClaim := { program := "ytmljefpcjlelmaa", sum := "960845edcff84e2a997b450ae808ab4d71039ea413cd2d9171e58961c05f0953", func := "loop.example/rangechains/laws.FnExactSessionsValid", spec := "fnExactSessionsValid", apart := false }
def FnExactSessionsValidSaid : Prop := fnExactSessionsValidRow.holds Try.pinned (OpenSpec.ofChange fnExactSessionsValidSpec)

/-- ITS FALSE NEIGHBOUR: 'it returns false'. Refute it at one input. -/
def fnExactSessionsValidWrong : ChangeSpec := { name := "fnExactSessionsValid", fn := fun _ => fun
  | [d] => { results := [.lit (.bool false)], args := [d] }
  | _ => none }
def FnExactSessionsValidWrongFalsely : Prop := fnExactSessionsValidRow.holds Try.pinned (OpenSpec.ofChange fnExactSessionsValidWrong)

/-- 'laws.FnExactSessionSeq': WHATEVER THE INPUT: true; the input reads as it did. -/
def fnExactSessionSeqSpec : ChangeSpec := { name := "fnExactSessionSeq", fn := fun _ => fun
  | [d1, d2] => { results := [.lit (.bool true)], args := [d1, d2] }
  | _ => none }
def fnExactSessionSeqRow : OpenClaim := { program := "ytmljefpcjlelmaa", sum := "960845edcff84e2a997b450ae808ab4d71039ea413cd2d9171e58961c05f0953", func := "loop.example/rangechains/laws.FnExactSessionSeq", spec := "fnExactSessionSeq", unfollowed := true, recurses := true, apart := false }
def FnExactSessionSeqSaid : Prop := fnExactSessionSeqRow.holds Try.pinned (OpenSpec.ofChange fnExactSessionSeqSpec)

/-- ITS FALSE NEIGHBOUR: 'it returns false'. Refute it at one input. -/
def fnExactSessionSeqWrong : ChangeSpec := { name := "fnExactSessionSeq", fn := fun _ => fun
  | [d1, d2] => { results := [.lit (.bool false)], args := [d1, d2] }
  | _ => none }
def FnExactSessionSeqWrongFalsely : Prop := fnExactSessionSeqRow.holds Try.pinned (OpenSpec.ofChange fnExactSessionSeqWrong)

/-- 'laws.FnExactSessionPut': WHATEVER THE INPUT: true; the input reads as it did. -/
def fnExactSessionPutSpec : ChangeSpec := { name := "fnExactSessionPut", fn := fun _ => fun
  | [d1, d2] => { results := [.lit (.bool true)], args := [d1, d2] }
  | _ => none }
def fnExactSessionPutRow : OpenClaim := { program := "ytmljefpcjlelmaa", sum := "960845edcff84e2a997b450ae808ab4d71039ea413cd2d9171e58961c05f0953", func := "loop.example/rangechains/laws.FnExactSessionPut", spec := "fnExactSessionPut", unfollowed := true, recurses := true, apart := false }
def FnExactSessionPutSaid : Prop := fnExactSessionPutRow.holds Try.pinned (OpenSpec.ofChange fnExactSessionPutSpec)

/-- ITS FALSE NEIGHBOUR: 'it returns false'. Refute it at one input. -/
def fnExactSessionPutWrong : ChangeSpec := { name := "fnExactSessionPut", fn := fun _ => fun
  | [d1, d2] => { results := [.lit (.bool false)], args := [d1, d2] }
  | _ => none }
def FnExactSessionPutWrongFalsely : Prop := fnExactSessionPutRow.holds Try.pinned (OpenSpec.ofChange fnExactSessionPutWrong)

/-- 'laws.FnExactSessionsJoin': WHATEVER THE INPUT: true; the input reads as it did. -/
def fnExactSessionsJoinSpec : ChangeSpec := { name := "fnExactSessionsJoin", fn := fun _ => fun
  | [d1, d2] => { results := [.lit (.bool true)], args := [d1, d2] }
  | _ => none }
def fnExactSessionsJoinRow : OpenClaim := { program := "ytmljefpcjlelmaa", sum := "960845edcff84e2a997b450ae808ab4d71039ea413cd2d9171e58961c05f0953", func := "loop.example/rangechains/laws.FnExactSessionsJoin", spec := "fnExactSessionsJoin", unfollowed := true, recurses := true, apart := false }
def FnExactSessionsJoinSaid : Prop := fnExactSessionsJoinRow.holds Try.pinned (OpenSpec.ofChange fnExactSessionsJoinSpec)

/-- ITS FALSE NEIGHBOUR: 'it returns false'. Refute it at one input. -/
def fnExactSessionsJoinWrong : ChangeSpec := { name := "fnExactSessionsJoin", fn := fun _ => fun
  | [d1, d2] => { results := [.lit (.bool false)], args := [d1, d2] }
  | _ => none }
def FnExactSessionsJoinWrongFalsely : Prop := fnExactSessionsJoinRow.holds Try.pinned (OpenSpec.ofChange fnExactSessionsJoinWrong)

/-- 'laws.FnSessionsValid': WHATEVER THE INPUT: true; the input reads as it did. -/
def fnSessionsValidSpec : ChangeSpec := { name := "fnSessionsValid", fn := fun _ => fun
  | [d] => { results := [.lit (.bool true)], args := [d] }
  | _ => none }
def fnSessionsValidRow : OpenClaim := { program := "ytmljefpcjlelmaa", sum := "960845edcff84e2a997b450ae808ab4d71039ea413cd2d9171e58961c05f0953", func := "loop.example/rangechains/laws.FnSessionsValid", spec := "fnSessionsValid", recurses := true, apart := false }
def FnSessionsValidSaid : Prop := fnSessionsValidRow.holds Try.pinned (OpenSpec.ofChange fnSessionsValidSpec)

/-- ITS FALSE NEIGHBOUR: 'it returns false'. Refute it at one input. -/
def fnSessionsValidWrong : ChangeSpec := { name := "fnSessionsValid", fn := fun _ => fun
  | [d] => { results := [.lit (.bool false)], args := [d] }
  | _ => none }
def FnSessionsValidWrongFalsely : Prop := fnSessionsValidRow.holds Try.pinned (OpenSpec.ofChange fnSessionsValidWrong)

/-- 'laws.FnSessionSeq': WHATEVER THE INPUT: true; the input reads as it did. -/
def fnSessionSeqSpec : ChangeSpec := { name := "fnSessionSeq", fn := fun _ => fun
  | [d] => { results := [.lit (.bool true)], args := [d] }
  | _ => none }
def fnSessionSeqRow : OpenClaim := { program := "ytmljefpcjlelmaa", sum := "960845edcff84e2a997b450ae808ab4d71039ea413cd2d9171e58961c05f0953", func := "loop.example/rangechains/laws.FnSessionSeq", spec := "fnSessionSeq", unfollowed := true, recurses := true, apart := false }
def FnSessionSeqSaid : Prop := fnSessionSeqRow.holds Try.pinned (OpenSpec.ofChange fnSessionSeqSpec)

/-- ITS FALSE NEIGHBOUR: 'it returns false'. Refute it at one input. -/
def fnSessionSeqWrong : ChangeSpec := { name := "fnSessionSeq", fn := fun _ => fun
  | [d] => { results := [.lit (.bool false)], args := [d] }
  | _ => none }
def FnSessionSeqWrongFalsely : Prop := fnSessionSeqRow.holds Try.pinned (OpenSpec.ofChange fnSessionSeqWrong)

/-- 'laws.FnSessionPut': WHATEVER THE INPUT: true; the input reads as it did. -/
def fnSessionPutSpec : ChangeSpec := { name := "fnSessionPut", fn := fun _ => fun
  | [d] => { results := [.lit (.bool true)], args := [d] }
  | _ => none }
def fnSessionPutRow : OpenClaim := { program := "ytmljefpcjlelmaa", sum := "960845edcff84e2a997b450ae808ab4d71039ea413cd2d9171e58961c05f0953", func := "loop.example/rangechains/laws.FnSessionPut", spec := "fnSessionPut", unfollowed := true, recurses := true, apart := false }
def FnSessionPutSaid : Prop := fnSessionPutRow.holds Try.pinned (OpenSpec.ofChange fnSessionPutSpec)

/-- ITS FALSE NEIGHBOUR: 'it returns false'. Refute it at one input. -/
def fnSessionPutWrong : ChangeSpec := { name := "fnSessionPut", fn := fun _ => fun
  | [d] => { results := [.lit (.bool false)], args := [d] }
  | _ => none }
def FnSessionPutWrongFalsely : Prop := fnSessionPutRow.holds Try.pinned (OpenSpec.ofChange fnSessionPutWrong)

/-- 'laws.FnSessionsJoin': WHATEVER THE INPUT: true; the input reads as it did. -/
def fnSessionsJoinSpec : ChangeSpec := { name := "fnSessionsJoin", fn := fun _ => fun
  | [d] => { results := [.lit (.bool true)], args := [d] }
  | _ => none }
def fnSessionsJoinRow : OpenClaim := { program := "ytmljefpcjlelmaa", sum := "960845edcff84e2a997b450ae808ab4d71039ea413cd2d9171e58961c05f0953", func := "loop.example/rangechains/laws.FnSessionsJoin", spec := "fnSessionsJoin", unfollowed := true, recurses := true, apart := false }
def FnSessionsJoinSaid : Prop := fnSessionsJoinRow.holds Try.pinned (OpenSpec.ofChange fnSessionsJoinSpec)

/-- ITS FALSE NEIGHBOUR: 'it returns false'. Refute it at one input. -/
def fnSessionsJoinWrong : ChangeSpec := { name := "fnSessionsJoin", fn := fun _ => fun
  | [d] => { results := [.lit (.bool false)], args := [d] }
  | _ => none }
def FnSessionsJoinWrongFalsely : Prop := fnSessionsJoinRow.holds Try.pinned (OpenSpec.ofChange fnSessionsJoinWrong)

/-- 'laws.FnExactDiskValid': WHATEVER THE INPUT: true; the input reads as it did. -/
def fnExactDiskValidSpec : ChangeSpec := { name := "fnExactDiskValid", fn := fun _ => fun
  | [d] => { results := [.lit (.bool true)], args := [d] }
  | _ => none }
def fnExactDiskValidRow : OpenClaim := { program := "ytmljefpcjlelmaa", sum := "960845edcff84e2a997b450ae808ab4d71039ea413cd2d9171e58961c05f0953", func := "loop.example/rangechains/laws.FnExactDiskValid", spec := "fnExactDiskValid", apart := false }
def FnExactDiskValidSaid : Prop := fnExactDiskValidRow.holds Try.pinned (OpenSpec.ofChange fnExactDiskValidSpec)

/-- ITS FALSE NEIGHBOUR: 'it returns false'. Refute it at one input. -/
def fnExactDiskValidWrong : ChangeSpec := { name := "fnExactDiskValid", fn := fun _ => fun
  | [d] => { results := [.lit (.bool false)], args := [d] }
  | _ => none }
def FnExactDiskValidWrongFalsely : Prop := fnExactDiskValidRow.holds Try.pinned (OpenSpec.ofChange fnExactDiskValidWrong)

/- THE SECOND FORM. 'bulk': how many values and letters a reading holds, each counted each time it is reached (what is shared counts as often as it is met; a slice's spare places count too). A statement '..UptoSaid' is the law's where the arguments, and the package variables that the reading takes, are together of bulk at most 1048576: NARROWER than '..Said'. Prove '..Said' where nothing that the law and all that it calls make is longer than what came in: it says more and counts as full. Else prove '..UptoSaid'. A law counts once. -/
mutual
def uptoBulk {H : Type} : DataW H → Nat
  | .lit (.string bytes) => bytes.length + 1
  | .lit _ => 1
  | .nil => 1
  | .ptr d => uptoBulk d + 1
  | .slice elems spare => uptoBulkAll elems + uptoBulkAll spare + 1
  | .agg parts => uptoBulkAll parts + 1
  | .iface _ d => uptoBulk d + 1
  | .map entries => uptoBulkEntries entries + 1
  | .held _ => 1
def uptoBulkAll {H : Type} : List (DataW H) → Nat
  | [] => 0
  | d :: r => uptoBulk d + uptoBulkAll r
def uptoBulkEntries {H : Type} : List (Lit × DataW H) → Nat
  | [] => 0
  | x :: r => uptoBulkEntry x + uptoBulkEntries r
def uptoBulkEntry {H : Type} : Lit × DataW H → Nat
  | (.string bytes, d) => bytes.length + uptoBulk d + 1
  | (_, d) => uptoBulk d + 1
 end
def uptoSmall : (H : Type) → List (DataW H) → Bool := fun _ ds => decide (uptoBulkAll ds ≤ 1048576)
def OpenSpec.upto (s : _root_.Go.ChangeSpec) : _root_.Go.OpenSpec := { _root_.Go.OpenSpec.ofChange s with cond := some uptoSmall }

/-- 'laws.FnExactSessionsValid', WHERE WHAT IT READS IS OF BULK AT MOST 1048576: true; the input reads as it did. -/
def fnExactSessionsValidUptoRow : OpenClaim := { program := "ytmljefpcjlelmaa", sum := "960845edcff84e2a997b450ae808ab4d71039ea413cd2d9171e58961c05f0953", func := "loop.example/rangechains/laws.FnExactSessionsValid", spec := "fnExactSessionsValid", apart := false, narrowed := true }
def FnExactSessionsValidUptoSaid : Prop := fnExactSessionsValidUptoRow.holds Try.pinned (OpenSpec.upto fnExactSessionsValidSpec)

/-- 'laws.FnExactSessionSeq', WHERE WHAT IT READS IS OF BULK AT MOST 1048576: true; the input reads as it did. -/
def fnExactSessionSeqUptoRow : OpenClaim := { program := "ytmljefpcjlelmaa", sum := "960845edcff84e2a997b450ae808ab4d71039ea413cd2d9171e58961c05f0953", func := "loop.example/rangechains/laws.FnExactSessionSeq", spec := "fnExactSessionSeq", unfollowed := true, recurses := true, apart := false, narrowed := true }
def FnExactSessionSeqUptoSaid : Prop := fnExactSessionSeqUptoRow.holds Try.pinned (OpenSpec.upto fnExactSessionSeqSpec)

/-- 'laws.FnExactSessionPut', WHERE WHAT IT READS IS OF BULK AT MOST 1048576: true; the input reads as it did. -/
def fnExactSessionPutUptoRow : OpenClaim := { program := "ytmljefpcjlelmaa", sum := "960845edcff84e2a997b450ae808ab4d71039ea413cd2d9171e58961c05f0953", func := "loop.example/rangechains/laws.FnExactSessionPut", spec := "fnExactSessionPut", unfollowed := true, recurses := true, apart := false, narrowed := true }
def FnExactSessionPutUptoSaid : Prop := fnExactSessionPutUptoRow.holds Try.pinned (OpenSpec.upto fnExactSessionPutSpec)

/-- 'laws.FnExactSessionsJoin', WHERE WHAT IT READS IS OF BULK AT MOST 1048576: true; the input reads as it did. -/
def fnExactSessionsJoinUptoRow : OpenClaim := { program := "ytmljefpcjlelmaa", sum := "960845edcff84e2a997b450ae808ab4d71039ea413cd2d9171e58961c05f0953", func := "loop.example/rangechains/laws.FnExactSessionsJoin", spec := "fnExactSessionsJoin", unfollowed := true, recurses := true, apart := false, narrowed := true }
def FnExactSessionsJoinUptoSaid : Prop := fnExactSessionsJoinUptoRow.holds Try.pinned (OpenSpec.upto fnExactSessionsJoinSpec)

/-- 'laws.FnSessionsValid', WHERE WHAT IT READS IS OF BULK AT MOST 1048576: true; the input reads as it did. -/
def fnSessionsValidUptoRow : OpenClaim := { program := "ytmljefpcjlelmaa", sum := "960845edcff84e2a997b450ae808ab4d71039ea413cd2d9171e58961c05f0953", func := "loop.example/rangechains/laws.FnSessionsValid", spec := "fnSessionsValid", recurses := true, apart := false, narrowed := true }
def FnSessionsValidUptoSaid : Prop := fnSessionsValidUptoRow.holds Try.pinned (OpenSpec.upto fnSessionsValidSpec)

/-- 'laws.FnSessionSeq', WHERE WHAT IT READS IS OF BULK AT MOST 1048576: true; the input reads as it did. -/
def fnSessionSeqUptoRow : OpenClaim := { program := "ytmljefpcjlelmaa", sum := "960845edcff84e2a997b450ae808ab4d71039ea413cd2d9171e58961c05f0953", func := "loop.example/rangechains/laws.FnSessionSeq", spec := "fnSessionSeq", unfollowed := true, recurses := true, apart := false, narrowed := true }
def FnSessionSeqUptoSaid : Prop := fnSessionSeqUptoRow.holds Try.pinned (OpenSpec.upto fnSessionSeqSpec)

/-- 'laws.FnSessionPut', WHERE WHAT IT READS IS OF BULK AT MOST 1048576: true; the input reads as it did. -/
def fnSessionPutUptoRow : OpenClaim := { program := "ytmljefpcjlelmaa", sum := "960845edcff84e2a997b450ae808ab4d71039ea413cd2d9171e58961c05f0953", func := "loop.example/rangechains/laws.FnSessionPut", spec := "fnSessionPut", unfollowed := true, recurses := true, apart := false, narrowed := true }
def FnSessionPutUptoSaid : Prop := fnSessionPutUptoRow.holds Try.pinned (OpenSpec.upto fnSessionPutSpec)

/-- 'laws.FnSessionsJoin', WHERE WHAT IT READS IS OF BULK AT MOST 1048576: true; the input reads as it did. -/
def fnSessionsJoinUptoRow : OpenClaim := { program := "ytmljefpcjlelmaa", sum := "960845edcff84e2a997b450ae808ab4d71039ea413cd2d9171e58961c05f0953", func := "loop.example/rangechains/laws.FnSessionsJoin", spec := "fnSessionsJoin", unfollowed := true, recurses := true, apart := false, narrowed := true }
def FnSessionsJoinUptoSaid : Prop := fnSessionsJoinUptoRow.holds Try.pinned (OpenSpec.upto fnSessionsJoinSpec)

/-- 'laws.FnExactDiskValid', WHERE WHAT IT READS IS OF BULK AT MOST 1048576: true; the input reads as it did. -/
def fnExactDiskValidUptoRow : OpenClaim := { program := "ytmljefpcjlelmaa", sum := "960845edcff84e2a997b450ae808ab4d71039ea413cd2d9171e58961c05f0953", func := "loop.example/rangechains/laws.FnExactDiskValid", spec := "fnExactDiskValid", apart := false, narrowed := true }
def FnExactDiskValidUptoSaid : Prop := fnExactDiskValidUptoRow.holds Try.pinned (OpenSpec.upto fnExactDiskValidSpec)

end Rows
end Go.Proofs.Ytmljefpcjlelmaa
