/-
  No cell of these rows narrows 'for every input' (looked for: loops, veiled, ifaces, maps, wideKeys, modest, calm, conditions, laid).
  DERIVED. THE GIVEN ROWS OF THIS SEAT. 8 by the template 'for every input the law returns true; each argument reads behind the call as it read before'; 0 by the template 'total and deterministic' (their statements: YtenfiihcdhnamaaTotals.lean).
  GIVEN WITH THE SEED: the statements are not yours to turn. If you find one false, say at which input.
  Laid BY PROGRAM, IN A SANDBOX (cutbox-rows.mjs): the forced cells as the released guide's own fill.sh prints them over the translation b17893bbabe2f7b7… (all of the seat's roots in one cut). By AI agents, Wed Nov 11 2026. No macro, syntax, notation, axiom, sorry.
-/
import Derived.Test.YtenfiihcdhnamaaChecked
import GoSem.Claim
import GoSem.ClaimJoined
import GoSem.ClaimMapViews
import Derived.JoinedTies
import Derived.KernelRfl
namespace Go.Proofs.Ytenfiihcdhnamaa
/- THE CELL 'sum', in the pinned program and in every row, IS THE sha256 OF THE DUMP (.gsa) THAT YtenfiihcdhnamaaProg.lean LOADS. Nothing in Lean hashes anything: it is a label: what it is worth is what the hold of that sum in a sandbox is worth. -/
noncomputable def Try.pinned : Pinned := { name := "ytenfiihcdhnamaa", sum := "b17893bbabe2f7b76b210b9b52634ad39cca83335ce4d2c3ea1ed7601380fc22", checked := Try.checked }
namespace Rows
def none {H : Type} : Left H := { results := [], args := [] }

/-- 'laws.FnExactStateValid': WHATEVER THE INPUT: true; the input reads as it did. -/
def fnExactStateValidSpec : ChangeSpec := { name := "fnExactStateValid", fn := fun _ => fun
  | [d] => { results := [.lit (.bool true)], args := [d] }
  | _ => none }
def fnExactStateValidRow : OpenClaim := { program := "ytenfiihcdhnamaa", sum := "b17893bbabe2f7b76b210b9b52634ad39cca83335ce4d2c3ea1ed7601380fc22", func := "loop.example/rangechains/laws.FnExactStateValid", spec := "fnExactStateValid", recurses := true, apart := false }
def FnExactStateValidSaid : Prop := fnExactStateValidRow.holds Try.pinned (OpenSpec.ofChange fnExactStateValidSpec)

/-- ITS FALSE NEIGHBOUR: 'it returns false'. Refute it at one input. -/
def fnExactStateValidWrong : ChangeSpec := { name := "fnExactStateValid", fn := fun _ => fun
  | [d] => { results := [.lit (.bool false)], args := [d] }
  | _ => none }
def FnExactStateValidWrongFalsely : Prop := fnExactStateValidRow.holds Try.pinned (OpenSpec.ofChange fnExactStateValidWrong)

/-- 'laws.FnStateValid': WHATEVER THE INPUT: true; the input reads as it did. -/
def fnStateValidSpec : ChangeSpec := { name := "fnStateValid", fn := fun _ => fun
  | [d] => { results := [.lit (.bool true)], args := [d] }
  | _ => none }
def fnStateValidRow : OpenClaim := { program := "ytenfiihcdhnamaa", sum := "b17893bbabe2f7b76b210b9b52634ad39cca83335ce4d2c3ea1ed7601380fc22", func := "loop.example/rangechains/laws.FnStateValid", spec := "fnStateValid", recurses := true, apart := false }
def FnStateValidSaid : Prop := fnStateValidRow.holds Try.pinned (OpenSpec.ofChange fnStateValidSpec)

/-- ITS FALSE NEIGHBOUR: 'it returns false'. Refute it at one input. -/
def fnStateValidWrong : ChangeSpec := { name := "fnStateValid", fn := fun _ => fun
  | [d] => { results := [.lit (.bool false)], args := [d] }
  | _ => none }
def FnStateValidWrongFalsely : Prop := fnStateValidRow.holds Try.pinned (OpenSpec.ofChange fnStateValidWrong)

/-- 'laws.FnExactUniteStates': WHATEVER THE INPUT: true; the input reads as it did. -/
def fnExactUniteStatesSpec : ChangeSpec := { name := "fnExactUniteStates", fn := fun _ => fun
  | [d] => { results := [.lit (.bool true)], args := [d] }
  | _ => none }
def fnExactUniteStatesRow : OpenClaim := { program := "ytenfiihcdhnamaa", sum := "b17893bbabe2f7b76b210b9b52634ad39cca83335ce4d2c3ea1ed7601380fc22", func := "loop.example/rangechains/laws.FnExactUniteStates", spec := "fnExactUniteStates", recurses := true, apart := false }
def FnExactUniteStatesSaid : Prop := fnExactUniteStatesRow.holds Try.pinned (OpenSpec.ofChange fnExactUniteStatesSpec)

/-- ITS FALSE NEIGHBOUR: 'it returns false'. Refute it at one input. -/
def fnExactUniteStatesWrong : ChangeSpec := { name := "fnExactUniteStates", fn := fun _ => fun
  | [d] => { results := [.lit (.bool false)], args := [d] }
  | _ => none }
def FnExactUniteStatesWrongFalsely : Prop := fnExactUniteStatesRow.holds Try.pinned (OpenSpec.ofChange fnExactUniteStatesWrong)

/-- 'laws.FnUniteStates': WHATEVER THE INPUT: true; the input reads as it did. -/
def fnUniteStatesSpec : ChangeSpec := { name := "fnUniteStates", fn := fun _ => fun
  | [d] => { results := [.lit (.bool true)], args := [d] }
  | _ => none }
def fnUniteStatesRow : OpenClaim := { program := "ytenfiihcdhnamaa", sum := "b17893bbabe2f7b76b210b9b52634ad39cca83335ce4d2c3ea1ed7601380fc22", func := "loop.example/rangechains/laws.FnUniteStates", spec := "fnUniteStates", unfollowed := true, recurses := true, apart := false }
def FnUniteStatesSaid : Prop := fnUniteStatesRow.holds Try.pinned (OpenSpec.ofChange fnUniteStatesSpec)

/-- ITS FALSE NEIGHBOUR: 'it returns false'. Refute it at one input. -/
def fnUniteStatesWrong : ChangeSpec := { name := "fnUniteStates", fn := fun _ => fun
  | [d] => { results := [.lit (.bool false)], args := [d] }
  | _ => none }
def FnUniteStatesWrongFalsely : Prop := fnUniteStatesRow.holds Try.pinned (OpenSpec.ofChange fnUniteStatesWrong)

/-- 'laws.FnExactStateCut': WHATEVER THE INPUT: true; the input reads as it did. -/
def fnExactStateCutSpec : ChangeSpec := { name := "fnExactStateCut", fn := fun _ => fun
  | [d] => { results := [.lit (.bool true)], args := [d] }
  | _ => none }
def fnExactStateCutRow : OpenClaim := { program := "ytenfiihcdhnamaa", sum := "b17893bbabe2f7b76b210b9b52634ad39cca83335ce4d2c3ea1ed7601380fc22", func := "loop.example/rangechains/laws.FnExactStateCut", spec := "fnExactStateCut", unfollowed := true, recurses := true, apart := false }
def FnExactStateCutSaid : Prop := fnExactStateCutRow.holds Try.pinned (OpenSpec.ofChange fnExactStateCutSpec)

/-- ITS FALSE NEIGHBOUR: 'it returns false'. Refute it at one input. -/
def fnExactStateCutWrong : ChangeSpec := { name := "fnExactStateCut", fn := fun _ => fun
  | [d] => { results := [.lit (.bool false)], args := [d] }
  | _ => none }
def FnExactStateCutWrongFalsely : Prop := fnExactStateCutRow.holds Try.pinned (OpenSpec.ofChange fnExactStateCutWrong)

/-- 'laws.FnStateCut': WHATEVER THE INPUT: true; the input reads as it did. -/
def fnStateCutSpec : ChangeSpec := { name := "fnStateCut", fn := fun _ => fun
  | [d] => { results := [.lit (.bool true)], args := [d] }
  | _ => none }
def fnStateCutRow : OpenClaim := { program := "ytenfiihcdhnamaa", sum := "b17893bbabe2f7b76b210b9b52634ad39cca83335ce4d2c3ea1ed7601380fc22", func := "loop.example/rangechains/laws.FnStateCut", spec := "fnStateCut", unfollowed := true, recurses := true, apart := false }
def FnStateCutSaid : Prop := fnStateCutRow.holds Try.pinned (OpenSpec.ofChange fnStateCutSpec)

/-- ITS FALSE NEIGHBOUR: 'it returns false'. Refute it at one input. -/
def fnStateCutWrong : ChangeSpec := { name := "fnStateCut", fn := fun _ => fun
  | [d] => { results := [.lit (.bool false)], args := [d] }
  | _ => none }
def FnStateCutWrongFalsely : Prop := fnStateCutRow.holds Try.pinned (OpenSpec.ofChange fnStateCutWrong)

/-- 'laws.FnExactStateJoin': WHATEVER THE INPUT: true; the input reads as it did. -/
def fnExactStateJoinSpec : ChangeSpec := { name := "fnExactStateJoin", fn := fun _ => fun
  | [d1, d2] => { results := [.lit (.bool true)], args := [d1, d2] }
  | _ => none }
def fnExactStateJoinRow : OpenClaim := { program := "ytenfiihcdhnamaa", sum := "b17893bbabe2f7b76b210b9b52634ad39cca83335ce4d2c3ea1ed7601380fc22", func := "loop.example/rangechains/laws.FnExactStateJoin", spec := "fnExactStateJoin", unfollowed := true, recurses := true, apart := false }
def FnExactStateJoinSaid : Prop := fnExactStateJoinRow.holds Try.pinned (OpenSpec.ofChange fnExactStateJoinSpec)

/-- ITS FALSE NEIGHBOUR: 'it returns false'. Refute it at one input. -/
def fnExactStateJoinWrong : ChangeSpec := { name := "fnExactStateJoin", fn := fun _ => fun
  | [d1, d2] => { results := [.lit (.bool false)], args := [d1, d2] }
  | _ => none }
def FnExactStateJoinWrongFalsely : Prop := fnExactStateJoinRow.holds Try.pinned (OpenSpec.ofChange fnExactStateJoinWrong)

/-- 'laws.FnStateJoin': WHATEVER THE INPUT: true; the input reads as it did. -/
def fnStateJoinSpec : ChangeSpec := { name := "fnStateJoin", fn := fun _ => fun
  | [d] => { results := [.lit (.bool true)], args := [d] }
  | _ => none }
def fnStateJoinRow : OpenClaim := { program := "ytenfiihcdhnamaa", sum := "b17893bbabe2f7b76b210b9b52634ad39cca83335ce4d2c3ea1ed7601380fc22", func := "loop.example/rangechains/laws.FnStateJoin", spec := "fnStateJoin", unfollowed := true, recurses := true, apart := false }
def FnStateJoinSaid : Prop := fnStateJoinRow.holds Try.pinned (OpenSpec.ofChange fnStateJoinSpec)

/-- ITS FALSE NEIGHBOUR: 'it returns false'. Refute it at one input. -/
def fnStateJoinWrong : ChangeSpec := { name := "fnStateJoin", fn := fun _ => fun
  | [d] => { results := [.lit (.bool false)], args := [d] }
  | _ => none }
def FnStateJoinWrongFalsely : Prop := fnStateJoinRow.holds Try.pinned (OpenSpec.ofChange fnStateJoinWrong)

/- THE SECOND FORM. 'bulk': how many values and letters a reading holds, each counted each time it is reached (what is shared counts as often as it is met; a slice's spare places count too). A statement '..UptoSaid' is the law's where the arguments, and the package variables that the reading takes, are together of bulk at most 1048576: NARROWER than '..Said'. Prove '..Said' where nothing that the law and all that it calls make is longer than what came in: it says more and counts as full. Else prove '..UptoSaid'. A law counts once. -/
mutual
def uptoBulk {H : Type} : DataW H → Nat
  | .lit (.string bytes) => bytes.length + 1
  | .lit _ => 1
  | .nil => 1
  | .ptr d => uptoBulk d + 1
  | .slice elems spare => uptoBulkAll elems + uptoBulkAll spare + 1
  | .agg parts => uptoBulkAll parts + 1
  | .iface _ d => uptoBulk d + 1
  | .map entries => uptoBulkEntries entries + 1
  | .held _ => 1
def uptoBulkAll {H : Type} : List (DataW H) → Nat
  | [] => 0
  | d :: r => uptoBulk d + uptoBulkAll r
def uptoBulkEntries {H : Type} : List (Lit × DataW H) → Nat
  | [] => 0
  | x :: r => uptoBulkEntry x + uptoBulkEntries r
def uptoBulkEntry {H : Type} : Lit × DataW H → Nat
  | (.string bytes, d) => bytes.length + uptoBulk d + 1
  | (_, d) => uptoBulk d + 1
 end
def uptoSmall : (H : Type) → List (DataW H) → Bool := fun _ ds => decide (uptoBulkAll ds ≤ 1048576)
def OpenSpec.upto (s : _root_.Go.ChangeSpec) : _root_.Go.OpenSpec := { _root_.Go.OpenSpec.ofChange s with cond := some uptoSmall }

/-- 'laws.FnExactStateValid', WHERE WHAT IT READS IS OF BULK AT MOST 1048576: true; the input reads as it did. -/
def fnExactStateValidUptoRow : OpenClaim := { program := "ytenfiihcdhnamaa", sum := "b17893bbabe2f7b76b210b9b52634ad39cca83335ce4d2c3ea1ed7601380fc22", func := "loop.example/rangechains/laws.FnExactStateValid", spec := "fnExactStateValid", recurses := true, apart := false, narrowed := true }
def FnExactStateValidUptoSaid : Prop := fnExactStateValidUptoRow.holds Try.pinned (OpenSpec.upto fnExactStateValidSpec)

/-- 'laws.FnStateValid', WHERE WHAT IT READS IS OF BULK AT MOST 1048576: true; the input reads as it did. -/
def fnStateValidUptoRow : OpenClaim := { program := "ytenfiihcdhnamaa", sum := "b17893bbabe2f7b76b210b9b52634ad39cca83335ce4d2c3ea1ed7601380fc22", func := "loop.example/rangechains/laws.FnStateValid", spec := "fnStateValid", recurses := true, apart := false, narrowed := true }
def FnStateValidUptoSaid : Prop := fnStateValidUptoRow.holds Try.pinned (OpenSpec.upto fnStateValidSpec)

/-- 'laws.FnExactUniteStates', WHERE WHAT IT READS IS OF BULK AT MOST 1048576: true; the input reads as it did. -/
def fnExactUniteStatesUptoRow : OpenClaim := { program := "ytenfiihcdhnamaa", sum := "b17893bbabe2f7b76b210b9b52634ad39cca83335ce4d2c3ea1ed7601380fc22", func := "loop.example/rangechains/laws.FnExactUniteStates", spec := "fnExactUniteStates", recurses := true, apart := false, narrowed := true }
def FnExactUniteStatesUptoSaid : Prop := fnExactUniteStatesUptoRow.holds Try.pinned (OpenSpec.upto fnExactUniteStatesSpec)

/-- 'laws.FnUniteStates', WHERE WHAT IT READS IS OF BULK AT MOST 1048576: true; the input reads as it did. -/
def fnUniteStatesUptoRow : OpenClaim := { program := "ytenfiihcdhnamaa", sum := "b17893bbabe2f7b76b210b9b52634ad39cca83335ce4d2c3ea1ed7601380fc22", func := "loop.example/rangechains/laws.FnUniteStates", spec := "fnUniteStates", unfollowed := true, recurses := true, apart := false, narrowed := true }
def FnUniteStatesUptoSaid : Prop := fnUniteStatesUptoRow.holds Try.pinned (OpenSpec.upto fnUniteStatesSpec)

/-- 'laws.FnExactStateCut', WHERE WHAT IT READS IS OF BULK AT MOST 1048576: true; the input reads as it did. -/
def fnExactStateCutUptoRow : OpenClaim := { program := "ytenfiihcdhnamaa", sum := "b17893bbabe2f7b76b210b9b52634ad39cca83335ce4d2c3ea1ed7601380fc22", func := "loop.example/rangechains/laws.FnExactStateCut", spec := "fnExactStateCut", unfollowed := true, recurses := true, apart := false, narrowed := true }
def FnExactStateCutUptoSaid : Prop := fnExactStateCutUptoRow.holds Try.pinned (OpenSpec.upto fnExactStateCutSpec)

/-- 'laws.FnStateCut', WHERE WHAT IT READS IS OF BULK AT MOST 1048576: true; the input reads as it did. -/
def fnStateCutUptoRow : OpenClaim := { program := "ytenfiihcdhnamaa", sum := "b17893bbabe2f7b76b210b9b52634ad39cca83335ce4d2c3ea1ed7601380fc22", func := "loop.example/rangechains/laws.FnStateCut", spec := "fnStateCut", unfollowed := true, recurses := true, apart := false, narrowed := true }
def FnStateCutUptoSaid : Prop := fnStateCutUptoRow.holds Try.pinned (OpenSpec.upto fnStateCutSpec)

/-- 'laws.FnExactStateJoin', WHERE WHAT IT READS IS OF BULK AT MOST 1048576: true; the input reads as it did. -/
def fnExactStateJoinUptoRow : OpenClaim := { program := "ytenfiihcdhnamaa", sum := "b17893bbabe2f7b76b210b9b52634ad39cca83335ce4d2c3ea1ed7601380fc22", func := "loop.example/rangechains/laws.FnExactStateJoin", spec := "fnExactStateJoin", unfollowed := true, recurses := true, apart := false, narrowed := true }
def FnExactStateJoinUptoSaid : Prop := fnExactStateJoinUptoRow.holds Try.pinned (OpenSpec.upto fnExactStateJoinSpec)

/-- 'laws.FnStateJoin', WHERE WHAT IT READS IS OF BULK AT MOST 1048576: true; the input reads as it did. -/
def fnStateJoinUptoRow : OpenClaim := { program := "ytenfiihcdhnamaa", sum := "b17893bbabe2f7b76b210b9b52634ad39cca83335ce4d2c3ea1ed7601380fc22", func := "loop.example/rangechains/laws.FnStateJoin", spec := "fnStateJoin", unfollowed := true, recurses := true, apart := false, narrowed := true }
def FnStateJoinUptoSaid : Prop := fnStateJoinUptoRow.holds Try.pinned (OpenSpec.upto fnStateJoinSpec)

end Rows
end Go.Proofs.Ytenfiihcdhnamaa
