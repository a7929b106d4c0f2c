/-
  No cell of these rows narrows 'for every input' (looked for: loops, veiled, ifaces, maps, wideKeys, modest, calm, conditions, laid).
  DERIVED. THE GIVEN ROWS OF THIS SEAT. 8 by the template 'for every input the law returns true; each argument reads behind the call as it read before'; 0 by the template 'total and deterministic' (their statements: YtdamnfkpfhoahaaTotals.lean).
  GIVEN WITH THE SEED: the statements are not yours to turn. If you find one false, say at which input.
  Laid BY PROGRAM, IN A SANDBOX (cutbox-rows.mjs): the forced cells as the released guide's own fill.sh prints them over the translation bdb7b85afb934d96… (all of the seat's roots in one cut). By AI agents, Wed Nov 11 2026. No macro, syntax, notation, axiom, sorry.
-/
import Derived.Test.YtdamnfkpfhoahaaChecked
import GoSem.Claim
import GoSem.ClaimJoined
import GoSem.ClaimMapViews
import Derived.JoinedTies
import Derived.KernelRfl
namespace Go.Proofs.Ytdamnfkpfhoahaa
/- THE CELL 'sum', in the pinned program and in every row, IS THE sha256 OF THE DUMP (.gsa) THAT YtdamnfkpfhoahaaProg.lean LOADS. Nothing in Lean hashes anything: it is a label: what it is worth is what the hold of that sum in a sandbox is worth. -/
noncomputable def Try.pinned : Pinned := { name := "ytdamnfkpfhoahaa", sum := "bdb7b85afb934d96fc37fd7df10ed6bf562facf86d72ba2ab0774c97a8643406", checked := Try.checked }
namespace Rows
def none {H : Type} : Left H := { results := [], args := [] }

/-- 'laws.FnExactCommandValid': WHATEVER THE INPUT: true; the input reads as it did. -/
def fnExactCommandValidSpec : ChangeSpec := { name := "fnExactCommandValid", fn := fun _ => fun
  | [d] => { results := [.lit (.bool true)], args := [d] }
  | _ => none }
def fnExactCommandValidRow : OpenClaim := { program := "ytdamnfkpfhoahaa", sum := "bdb7b85afb934d96fc37fd7df10ed6bf562facf86d72ba2ab0774c97a8643406", func := "loop.example/rangechains/laws.FnExactCommandValid", spec := "fnExactCommandValid", recurses := true, apart := false }
def FnExactCommandValidSaid : Prop := fnExactCommandValidRow.holds Try.pinned (OpenSpec.ofChange fnExactCommandValidSpec)

/-- ITS FALSE NEIGHBOUR: 'it returns false'. Refute it at one input. -/
def fnExactCommandValidWrong : ChangeSpec := { name := "fnExactCommandValid", fn := fun _ => fun
  | [d] => { results := [.lit (.bool false)], args := [d] }
  | _ => none }
def FnExactCommandValidWrongFalsely : Prop := fnExactCommandValidRow.holds Try.pinned (OpenSpec.ofChange fnExactCommandValidWrong)

/-- 'laws.FnExactCommandWrites': WHATEVER THE INPUT: true; the input reads as it did. -/
def fnExactCommandWritesSpec : ChangeSpec := { name := "fnExactCommandWrites", fn := fun _ => fun
  | [d] => { results := [.lit (.bool true)], args := [d] }
  | _ => none }
def fnExactCommandWritesRow : OpenClaim := { program := "ytdamnfkpfhoahaa", sum := "bdb7b85afb934d96fc37fd7df10ed6bf562facf86d72ba2ab0774c97a8643406", func := "loop.example/rangechains/laws.FnExactCommandWrites", spec := "fnExactCommandWrites", recurses := true, apart := false }
def FnExactCommandWritesSaid : Prop := fnExactCommandWritesRow.holds Try.pinned (OpenSpec.ofChange fnExactCommandWritesSpec)

/-- ITS FALSE NEIGHBOUR: 'it returns false'. Refute it at one input. -/
def fnExactCommandWritesWrong : ChangeSpec := { name := "fnExactCommandWrites", fn := fun _ => fun
  | [d] => { results := [.lit (.bool false)], args := [d] }
  | _ => none }
def FnExactCommandWritesWrongFalsely : Prop := fnExactCommandWritesRow.holds Try.pinned (OpenSpec.ofChange fnExactCommandWritesWrong)

/-- 'laws.FnExactEntryValid': WHATEVER THE INPUT: true; the input reads as it did. -/
def fnExactEntryValidSpec : ChangeSpec := { name := "fnExactEntryValid", fn := fun _ => fun
  | [d] => { results := [.lit (.bool true)], args := [d] }
  | _ => none }
def fnExactEntryValidRow : OpenClaim := { program := "ytdamnfkpfhoahaa", sum := "bdb7b85afb934d96fc37fd7df10ed6bf562facf86d72ba2ab0774c97a8643406", func := "loop.example/rangechains/laws.FnExactEntryValid", spec := "fnExactEntryValid", recurses := true, apart := false }
def FnExactEntryValidSaid : Prop := fnExactEntryValidRow.holds Try.pinned (OpenSpec.ofChange fnExactEntryValidSpec)

/-- ITS FALSE NEIGHBOUR: 'it returns false'. Refute it at one input. -/
def fnExactEntryValidWrong : ChangeSpec := { name := "fnExactEntryValid", fn := fun _ => fun
  | [d] => { results := [.lit (.bool false)], args := [d] }
  | _ => none }
def FnExactEntryValidWrongFalsely : Prop := fnExactEntryValidRow.holds Try.pinned (OpenSpec.ofChange fnExactEntryValidWrong)

/-- 'laws.FnCommandValid': WHATEVER THE INPUT: true; the input reads as it did. -/
def fnCommandValidSpec : ChangeSpec := { name := "fnCommandValid", fn := fun _ => fun
  | [d] => { results := [.lit (.bool true)], args := [d] }
  | _ => none }
def fnCommandValidRow : OpenClaim := { program := "ytdamnfkpfhoahaa", sum := "bdb7b85afb934d96fc37fd7df10ed6bf562facf86d72ba2ab0774c97a8643406", func := "loop.example/rangechains/laws.FnCommandValid", spec := "fnCommandValid", recurses := true, apart := false }
def FnCommandValidSaid : Prop := fnCommandValidRow.holds Try.pinned (OpenSpec.ofChange fnCommandValidSpec)

/-- ITS FALSE NEIGHBOUR: 'it returns false'. Refute it at one input. -/
def fnCommandValidWrong : ChangeSpec := { name := "fnCommandValid", fn := fun _ => fun
  | [d] => { results := [.lit (.bool false)], args := [d] }
  | _ => none }
def FnCommandValidWrongFalsely : Prop := fnCommandValidRow.holds Try.pinned (OpenSpec.ofChange fnCommandValidWrong)

/-- 'laws.FnCommandWrites': WHATEVER THE INPUT: true; the input reads as it did. -/
def fnCommandWritesSpec : ChangeSpec := { name := "fnCommandWrites", fn := fun _ => fun
  | [d] => { results := [.lit (.bool true)], args := [d] }
  | _ => none }
def fnCommandWritesRow : OpenClaim := { program := "ytdamnfkpfhoahaa", sum := "bdb7b85afb934d96fc37fd7df10ed6bf562facf86d72ba2ab0774c97a8643406", func := "loop.example/rangechains/laws.FnCommandWrites", spec := "fnCommandWrites", recurses := true, apart := false }
def FnCommandWritesSaid : Prop := fnCommandWritesRow.holds Try.pinned (OpenSpec.ofChange fnCommandWritesSpec)

/-- ITS FALSE NEIGHBOUR: 'it returns false'. Refute it at one input. -/
def fnCommandWritesWrong : ChangeSpec := { name := "fnCommandWrites", fn := fun _ => fun
  | [d] => { results := [.lit (.bool false)], args := [d] }
  | _ => none }
def FnCommandWritesWrongFalsely : Prop := fnCommandWritesRow.holds Try.pinned (OpenSpec.ofChange fnCommandWritesWrong)

/-- 'laws.FnEntryValid': WHATEVER THE INPUT: true; the input reads as it did. -/
def fnEntryValidSpec : ChangeSpec := { name := "fnEntryValid", fn := fun _ => fun
  | [d] => { results := [.lit (.bool true)], args := [d] }
  | _ => none }
def fnEntryValidRow : OpenClaim := { program := "ytdamnfkpfhoahaa", sum := "bdb7b85afb934d96fc37fd7df10ed6bf562facf86d72ba2ab0774c97a8643406", func := "loop.example/rangechains/laws.FnEntryValid", spec := "fnEntryValid", recurses := true, apart := false }
def FnEntryValidSaid : Prop := fnEntryValidRow.holds Try.pinned (OpenSpec.ofChange fnEntryValidSpec)

/-- ITS FALSE NEIGHBOUR: 'it returns false'. Refute it at one input. -/
def fnEntryValidWrong : ChangeSpec := { name := "fnEntryValid", fn := fun _ => fun
  | [d] => { results := [.lit (.bool false)], args := [d] }
  | _ => none }
def FnEntryValidWrongFalsely : Prop := fnEntryValidRow.holds Try.pinned (OpenSpec.ofChange fnEntryValidWrong)

/-- 'laws.FnExactNewState': WHATEVER THE INPUT: true; the input reads as it did. -/
def fnExactNewStateSpec : ChangeSpec := { name := "fnExactNewState", fn := fun _ => fun
  | [d] => { results := [.lit (.bool true)], args := [d] }
  | _ => none }
def fnExactNewStateRow : OpenClaim := { program := "ytdamnfkpfhoahaa", sum := "bdb7b85afb934d96fc37fd7df10ed6bf562facf86d72ba2ab0774c97a8643406", func := "loop.example/rangechains/laws.FnExactNewState", spec := "fnExactNewState", recurses := true, apart := false }
def FnExactNewStateSaid : Prop := fnExactNewStateRow.holds Try.pinned (OpenSpec.ofChange fnExactNewStateSpec)

/-- ITS FALSE NEIGHBOUR: 'it returns false'. Refute it at one input. -/
def fnExactNewStateWrong : ChangeSpec := { name := "fnExactNewState", fn := fun _ => fun
  | [d] => { results := [.lit (.bool false)], args := [d] }
  | _ => none }
def FnExactNewStateWrongFalsely : Prop := fnExactNewStateRow.holds Try.pinned (OpenSpec.ofChange fnExactNewStateWrong)

/-- 'laws.FnNewState': WHATEVER THE INPUT: true; the input reads as it did. -/
def fnNewStateSpec : ChangeSpec := { name := "fnNewState", fn := fun _ => fun
  | [d] => { results := [.lit (.bool true)], args := [d] }
  | _ => none }
def fnNewStateRow : OpenClaim := { program := "ytdamnfkpfhoahaa", sum := "bdb7b85afb934d96fc37fd7df10ed6bf562facf86d72ba2ab0774c97a8643406", func := "loop.example/rangechains/laws.FnNewState", spec := "fnNewState", recurses := true, apart := false }
def FnNewStateSaid : Prop := fnNewStateRow.holds Try.pinned (OpenSpec.ofChange fnNewStateSpec)

/-- ITS FALSE NEIGHBOUR: 'it returns false'. Refute it at one input. -/
def fnNewStateWrong : ChangeSpec := { name := "fnNewState", fn := fun _ => fun
  | [d] => { results := [.lit (.bool false)], args := [d] }
  | _ => none }
def FnNewStateWrongFalsely : Prop := fnNewStateRow.holds Try.pinned (OpenSpec.ofChange fnNewStateWrong)

/- THE SECOND FORM. 'bulk': how many values and letters a reading holds, each counted each time it is reached (what is shared counts as often as it is met; a slice's spare places count too). A statement '..UptoSaid' is the law's where the arguments, and the package variables that the reading takes, are together of bulk at most 1048576: NARROWER than '..Said'. Prove '..Said' where nothing that the law and all that it calls make is longer than what came in: it says more and counts as full. Else prove '..UptoSaid'. A law counts once. -/
mutual
def uptoBulk {H : Type} : DataW H → Nat
  | .lit (.string bytes) => bytes.length + 1
  | .lit _ => 1
  | .nil => 1
  | .ptr d => uptoBulk d + 1
  | .slice elems spare => uptoBulkAll elems + uptoBulkAll spare + 1
  | .agg parts => uptoBulkAll parts + 1
  | .iface _ d => uptoBulk d + 1
  | .map entries => uptoBulkEntries entries + 1
  | .held _ => 1
def uptoBulkAll {H : Type} : List (DataW H) → Nat
  | [] => 0
  | d :: r => uptoBulk d + uptoBulkAll r
def uptoBulkEntries {H : Type} : List (Lit × DataW H) → Nat
  | [] => 0
  | x :: r => uptoBulkEntry x + uptoBulkEntries r
def uptoBulkEntry {H : Type} : Lit × DataW H → Nat
  | (.string bytes, d) => bytes.length + uptoBulk d + 1
  | (_, d) => uptoBulk d + 1
 end
def uptoSmall : (H : Type) → List (DataW H) → Bool := fun _ ds => decide (uptoBulkAll ds ≤ 1048576)
def OpenSpec.upto (s : _root_.Go.ChangeSpec) : _root_.Go.OpenSpec := { _root_.Go.OpenSpec.ofChange s with cond := some uptoSmall }

/-- 'laws.FnExactCommandValid', WHERE WHAT IT READS IS OF BULK AT MOST 1048576: true; the input reads as it did. -/
def fnExactCommandValidUptoRow : OpenClaim := { program := "ytdamnfkpfhoahaa", sum := "bdb7b85afb934d96fc37fd7df10ed6bf562facf86d72ba2ab0774c97a8643406", func := "loop.example/rangechains/laws.FnExactCommandValid", spec := "fnExactCommandValid", recurses := true, apart := false, narrowed := true }
def FnExactCommandValidUptoSaid : Prop := fnExactCommandValidUptoRow.holds Try.pinned (OpenSpec.upto fnExactCommandValidSpec)

/-- 'laws.FnExactCommandWrites', WHERE WHAT IT READS IS OF BULK AT MOST 1048576: true; the input reads as it did. -/
def fnExactCommandWritesUptoRow : OpenClaim := { program := "ytdamnfkpfhoahaa", sum := "bdb7b85afb934d96fc37fd7df10ed6bf562facf86d72ba2ab0774c97a8643406", func := "loop.example/rangechains/laws.FnExactCommandWrites", spec := "fnExactCommandWrites", recurses := true, apart := false, narrowed := true }
def FnExactCommandWritesUptoSaid : Prop := fnExactCommandWritesUptoRow.holds Try.pinned (OpenSpec.upto fnExactCommandWritesSpec)

/-- 'laws.FnExactEntryValid', WHERE WHAT IT READS IS OF BULK AT MOST 1048576: true; the input reads as it did. -/
def fnExactEntryValidUptoRow : OpenClaim := { program := "ytdamnfkpfhoahaa", sum := "bdb7b85afb934d96fc37fd7df10ed6bf562facf86d72ba2ab0774c97a8643406", func := "loop.example/rangechains/laws.FnExactEntryValid", spec := "fnExactEntryValid", recurses := true, apart := false, narrowed := true }
def FnExactEntryValidUptoSaid : Prop := fnExactEntryValidUptoRow.holds Try.pinned (OpenSpec.upto fnExactEntryValidSpec)

/-- 'laws.FnCommandValid', WHERE WHAT IT READS IS OF BULK AT MOST 1048576: true; the input reads as it did. -/
def fnCommandValidUptoRow : OpenClaim := { program := "ytdamnfkpfhoahaa", sum := "bdb7b85afb934d96fc37fd7df10ed6bf562facf86d72ba2ab0774c97a8643406", func := "loop.example/rangechains/laws.FnCommandValid", spec := "fnCommandValid", recurses := true, apart := false, narrowed := true }
def FnCommandValidUptoSaid : Prop := fnCommandValidUptoRow.holds Try.pinned (OpenSpec.upto fnCommandValidSpec)

/-- 'laws.FnCommandWrites', WHERE WHAT IT READS IS OF BULK AT MOST 1048576: true; the input reads as it did. -/
def fnCommandWritesUptoRow : OpenClaim := { program := "ytdamnfkpfhoahaa", sum := "bdb7b85afb934d96fc37fd7df10ed6bf562facf86d72ba2ab0774c97a8643406", func := "loop.example/rangechains/laws.FnCommandWrites", spec := "fnCommandWrites", recurses := true, apart := false, narrowed := true }
def FnCommandWritesUptoSaid : Prop := fnCommandWritesUptoRow.holds Try.pinned (OpenSpec.upto fnCommandWritesSpec)

/-- 'laws.FnEntryValid', WHERE WHAT IT READS IS OF BULK AT MOST 1048576: true; the input reads as it did. -/
def fnEntryValidUptoRow : OpenClaim := { program := "ytdamnfkpfhoahaa", sum := "bdb7b85afb934d96fc37fd7df10ed6bf562facf86d72ba2ab0774c97a8643406", func := "loop.example/rangechains/laws.FnEntryValid", spec := "fnEntryValid", recurses := true, apart := false, narrowed := true }
def FnEntryValidUptoSaid : Prop := fnEntryValidUptoRow.holds Try.pinned (OpenSpec.upto fnEntryValidSpec)

/-- 'laws.FnExactNewState', WHERE WHAT IT READS IS OF BULK AT MOST 1048576: true; the input reads as it did. -/
def fnExactNewStateUptoRow : OpenClaim := { program := "ytdamnfkpfhoahaa", sum := "bdb7b85afb934d96fc37fd7df10ed6bf562facf86d72ba2ab0774c97a8643406", func := "loop.example/rangechains/laws.FnExactNewState", spec := "fnExactNewState", recurses := true, apart := false, narrowed := true }
def FnExactNewStateUptoSaid : Prop := fnExactNewStateUptoRow.holds Try.pinned (OpenSpec.upto fnExactNewStateSpec)

/-- 'laws.FnNewState', WHERE WHAT IT READS IS OF BULK AT MOST 1048576: true; the input reads as it did. -/
def fnNewStateUptoRow : OpenClaim := { program := "ytdamnfkpfhoahaa", sum := "bdb7b85afb934d96fc37fd7df10ed6bf562facf86d72ba2ab0774c97a8643406", func := "loop.example/rangechains/laws.FnNewState", spec := "fnNewState", recurses := true, apart := false, narrowed := true }
def FnNewStateUptoSaid : Prop := fnNewStateUptoRow.holds Try.pinned (OpenSpec.upto fnNewStateSpec)

end Rows
end Go.Proofs.Ytdamnfkpfhoahaa
