/-
  No cell of these rows narrows 'for every input' (looked for: loops, veiled, ifaces, maps, wideKeys, modest, calm, conditions, laid).
  DERIVED. THE GIVEN ROWS OF THIS SEAT. 8 by the template 'for every input the law returns true; each argument reads behind the call as it read before'; 0 by the template 'total and deterministic' (their statements: YtlimhkjnnpmpkaaTotals.lean).
  GIVEN WITH THE SEED: the statements are not yours to turn. If you find one false, say at which input.
  Laid BY PROGRAM, IN A SANDBOX (cutbox-rows.mjs): the forced cells as the released guide's own fill.sh prints them over the translation d598ba84b8391523… (all of the seat's roots in one cut). By AI agents, Wed Nov 11 2026. No macro, syntax, notation, axiom, sorry.
-/
import Derived.Test.YtlimhkjnnpmpkaaChecked
import GoSem.Claim
import GoSem.ClaimJoined
import GoSem.ClaimMapViews
import Derived.JoinedTies
import Derived.KernelRfl
namespace Go.Proofs.Ytlimhkjnnpmpkaa
/- THE CELL 'sum', in the pinned program and in every row, IS THE sha256 OF THE DUMP (.gsa) THAT YtlimhkjnnpmpkaaProg.lean LOADS. Nothing in Lean hashes anything: it is a label: what it is worth is what the hold of that sum in a sandbox is worth. -/
noncomputable def Try.pinned : Pinned := { name := "ytlimhkjnnpmpkaa", sum := "d598ba84b839152332b9ff4144665b60bb2c524551f17ab637a8768d321738d4", checked := Try.checked }
namespace Rows
def none {H : Type} : Left H := { results := [], args := [] }

/-- 'laws.FnExactEncodeEntry': WHATEVER THE INPUT: true; the input reads as it did. -/
def fnExactEncodeEntrySpec : ChangeSpec := { name := "fnExactEncodeEntry", fn := fun _ => fun
  | [d] => { results := [.lit (.bool true)], args := [d] }
  | _ => none }
def fnExactEncodeEntryRow : OpenClaim := { program := "ytlimhkjnnpmpkaa", sum := "d598ba84b839152332b9ff4144665b60bb2c524551f17ab637a8768d321738d4", func := "loop.example/rangechains/laws.FnExactEncodeEntry", spec := "fnExactEncodeEntry", recurses := true, apart := false }
def FnExactEncodeEntrySaid : Prop := fnExactEncodeEntryRow.holds Try.pinned (OpenSpec.ofChange fnExactEncodeEntrySpec)

/-- ITS FALSE NEIGHBOUR: 'it returns false'. Refute it at one input. -/
def fnExactEncodeEntryWrong : ChangeSpec := { name := "fnExactEncodeEntry", fn := fun _ => fun
  | [d] => { results := [.lit (.bool false)], args := [d] }
  | _ => none }
def FnExactEncodeEntryWrongFalsely : Prop := fnExactEncodeEntryRow.holds Try.pinned (OpenSpec.ofChange fnExactEncodeEntryWrong)

/-- 'laws.FnExactDecodeEntry': WHATEVER THE INPUT: true; the input reads as it did. -/
def fnExactDecodeEntrySpec : ChangeSpec := { name := "fnExactDecodeEntry", fn := fun _ => fun
  | [d1, d2] => { results := [.lit (.bool true)], args := [d1, d2] }
  | _ => none }
def fnExactDecodeEntryRow : OpenClaim := { program := "ytlimhkjnnpmpkaa", sum := "d598ba84b839152332b9ff4144665b60bb2c524551f17ab637a8768d321738d4", func := "loop.example/rangechains/laws.FnExactDecodeEntry", spec := "fnExactDecodeEntry", recurses := true, apart := false }
def FnExactDecodeEntrySaid : Prop := fnExactDecodeEntryRow.holds Try.pinned (OpenSpec.ofChange fnExactDecodeEntrySpec)

/-- ITS FALSE NEIGHBOUR: 'it returns false'. Refute it at one input. -/
def fnExactDecodeEntryWrong : ChangeSpec := { name := "fnExactDecodeEntry", fn := fun _ => fun
  | [d1, d2] => { results := [.lit (.bool false)], args := [d1, d2] }
  | _ => none }
def FnExactDecodeEntryWrongFalsely : Prop := fnExactDecodeEntryRow.holds Try.pinned (OpenSpec.ofChange fnExactDecodeEntryWrong)

/-- 'laws.FnEncodeEntry': WHATEVER THE INPUT: true; the input reads as it did. -/
def fnEncodeEntrySpec : ChangeSpec := { name := "fnEncodeEntry", fn := fun _ => fun
  | [d] => { results := [.lit (.bool true)], args := [d] }
  | _ => none }
def fnEncodeEntryRow : OpenClaim := { program := "ytlimhkjnnpmpkaa", sum := "d598ba84b839152332b9ff4144665b60bb2c524551f17ab637a8768d321738d4", func := "loop.example/rangechains/laws.FnEncodeEntry", spec := "fnEncodeEntry", recurses := true, apart := false }
def FnEncodeEntrySaid : Prop := fnEncodeEntryRow.holds Try.pinned (OpenSpec.ofChange fnEncodeEntrySpec)

/-- ITS FALSE NEIGHBOUR: 'it returns false'. Refute it at one input. -/
def fnEncodeEntryWrong : ChangeSpec := { name := "fnEncodeEntry", fn := fun _ => fun
  | [d] => { results := [.lit (.bool false)], args := [d] }
  | _ => none }
def FnEncodeEntryWrongFalsely : Prop := fnEncodeEntryRow.holds Try.pinned (OpenSpec.ofChange fnEncodeEntryWrong)

/-- 'laws.FnDecodeEntry': WHATEVER THE INPUT: true; the input reads as it did. -/
def fnDecodeEntrySpec : ChangeSpec := { name := "fnDecodeEntry", fn := fun _ => fun
  | [d] => { results := [.lit (.bool true)], args := [d] }
  | _ => none }
def fnDecodeEntryRow : OpenClaim := { program := "ytlimhkjnnpmpkaa", sum := "d598ba84b839152332b9ff4144665b60bb2c524551f17ab637a8768d321738d4", func := "loop.example/rangechains/laws.FnDecodeEntry", spec := "fnDecodeEntry", recurses := true, apart := false }
def FnDecodeEntrySaid : Prop := fnDecodeEntryRow.holds Try.pinned (OpenSpec.ofChange fnDecodeEntrySpec)

/-- ITS FALSE NEIGHBOUR: 'it returns false'. Refute it at one input. -/
def fnDecodeEntryWrong : ChangeSpec := { name := "fnDecodeEntry", fn := fun _ => fun
  | [d] => { results := [.lit (.bool false)], args := [d] }
  | _ => none }
def FnDecodeEntryWrongFalsely : Prop := fnDecodeEntryRow.holds Try.pinned (OpenSpec.ofChange fnDecodeEntryWrong)

/-- 'laws.FnExactFrameEntry': WHATEVER THE INPUT: true; the input reads as it did. -/
def fnExactFrameEntrySpec : ChangeSpec := { name := "fnExactFrameEntry", fn := fun _ => fun
  | [d1, d2] => { results := [.lit (.bool true)], args := [d1, d2] }
  | _ => none }
def fnExactFrameEntryRow : OpenClaim := { program := "ytlimhkjnnpmpkaa", sum := "d598ba84b839152332b9ff4144665b60bb2c524551f17ab637a8768d321738d4", func := "loop.example/rangechains/laws.FnExactFrameEntry", spec := "fnExactFrameEntry", recurses := true, apart := false }
def FnExactFrameEntrySaid : Prop := fnExactFrameEntryRow.holds Try.pinned (OpenSpec.ofChange fnExactFrameEntrySpec)

/-- ITS FALSE NEIGHBOUR: 'it returns false'. Refute it at one input. -/
def fnExactFrameEntryWrong : ChangeSpec := { name := "fnExactFrameEntry", fn := fun _ => fun
  | [d1, d2] => { results := [.lit (.bool false)], args := [d1, d2] }
  | _ => none }
def FnExactFrameEntryWrongFalsely : Prop := fnExactFrameEntryRow.holds Try.pinned (OpenSpec.ofChange fnExactFrameEntryWrong)

/-- 'laws.FnExactReadFrame': WHATEVER THE INPUT: true; the input reads as it did. -/
def fnExactReadFrameSpec : ChangeSpec := { name := "fnExactReadFrame", fn := fun _ => fun
  | [d1, d2, d3] => { results := [.lit (.bool true)], args := [d1, d2, d3] }
  | _ => none }
def fnExactReadFrameRow : OpenClaim := { program := "ytlimhkjnnpmpkaa", sum := "d598ba84b839152332b9ff4144665b60bb2c524551f17ab637a8768d321738d4", func := "loop.example/rangechains/laws.FnExactReadFrame", spec := "fnExactReadFrame", recurses := true, apart := false }
def FnExactReadFrameSaid : Prop := fnExactReadFrameRow.holds Try.pinned (OpenSpec.ofChange fnExactReadFrameSpec)

/-- ITS FALSE NEIGHBOUR: 'it returns false'. Refute it at one input. -/
def fnExactReadFrameWrong : ChangeSpec := { name := "fnExactReadFrame", fn := fun _ => fun
  | [d1, d2, d3] => { results := [.lit (.bool false)], args := [d1, d2, d3] }
  | _ => none }
def FnExactReadFrameWrongFalsely : Prop := fnExactReadFrameRow.holds Try.pinned (OpenSpec.ofChange fnExactReadFrameWrong)

/-- 'laws.FnFrameEntry': WHATEVER THE INPUT: true; the input reads as it did. -/
def fnFrameEntrySpec : ChangeSpec := { name := "fnFrameEntry", fn := fun _ => fun
  | [d] => { results := [.lit (.bool true)], args := [d] }
  | _ => none }
def fnFrameEntryRow : OpenClaim := { program := "ytlimhkjnnpmpkaa", sum := "d598ba84b839152332b9ff4144665b60bb2c524551f17ab637a8768d321738d4", func := "loop.example/rangechains/laws.FnFrameEntry", spec := "fnFrameEntry", recurses := true, apart := false }
def FnFrameEntrySaid : Prop := fnFrameEntryRow.holds Try.pinned (OpenSpec.ofChange fnFrameEntrySpec)

/-- ITS FALSE NEIGHBOUR: 'it returns false'. Refute it at one input. -/
def fnFrameEntryWrong : ChangeSpec := { name := "fnFrameEntry", fn := fun _ => fun
  | [d] => { results := [.lit (.bool false)], args := [d] }
  | _ => none }
def FnFrameEntryWrongFalsely : Prop := fnFrameEntryRow.holds Try.pinned (OpenSpec.ofChange fnFrameEntryWrong)

/-- 'laws.FnReadFrame': WHATEVER THE INPUT: true; the input reads as it did. -/
def fnReadFrameSpec : ChangeSpec := { name := "fnReadFrame", fn := fun _ => fun
  | [d] => { results := [.lit (.bool true)], args := [d] }
  | _ => none }
def fnReadFrameRow : OpenClaim := { program := "ytlimhkjnnpmpkaa", sum := "d598ba84b839152332b9ff4144665b60bb2c524551f17ab637a8768d321738d4", func := "loop.example/rangechains/laws.FnReadFrame", spec := "fnReadFrame", recurses := true, apart := false }
def FnReadFrameSaid : Prop := fnReadFrameRow.holds Try.pinned (OpenSpec.ofChange fnReadFrameSpec)

/-- ITS FALSE NEIGHBOUR: 'it returns false'. Refute it at one input. -/
def fnReadFrameWrong : ChangeSpec := { name := "fnReadFrame", fn := fun _ => fun
  | [d] => { results := [.lit (.bool false)], args := [d] }
  | _ => none }
def FnReadFrameWrongFalsely : Prop := fnReadFrameRow.holds Try.pinned (OpenSpec.ofChange fnReadFrameWrong)

/- THE SECOND FORM. 'bulk': how many values and letters a reading holds, each counted each time it is reached (what is shared counts as often as it is met; a slice's spare places count too). A statement '..UptoSaid' is the law's where the arguments, and the package variables that the reading takes, are together of bulk at most 1048576: NARROWER than '..Said'. Prove '..Said' where nothing that the law and all that it calls make is longer than what came in: it says more and counts as full. Else prove '..UptoSaid'. A law counts once. -/
mutual
def uptoBulk {H : Type} : DataW H → Nat
  | .lit (.string bytes) => bytes.length + 1
  | .lit _ => 1
  | .nil => 1
  | .ptr d => uptoBulk d + 1
  | .slice elems spare => uptoBulkAll elems + uptoBulkAll spare + 1
  | .agg parts => uptoBulkAll parts + 1
  | .iface _ d => uptoBulk d + 1
  | .map entries => uptoBulkEntries entries + 1
  | .held _ => 1
def uptoBulkAll {H : Type} : List (DataW H) → Nat
  | [] => 0
  | d :: r => uptoBulk d + uptoBulkAll r
def uptoBulkEntries {H : Type} : List (Lit × DataW H) → Nat
  | [] => 0
  | x :: r => uptoBulkEntry x + uptoBulkEntries r
def uptoBulkEntry {H : Type} : Lit × DataW H → Nat
  | (.string bytes, d) => bytes.length + uptoBulk d + 1
  | (_, d) => uptoBulk d + 1
 end
def uptoSmall : (H : Type) → List (DataW H) → Bool := fun _ ds => decide (uptoBulkAll ds ≤ 1048576)
def OpenSpec.upto (s : _root_.Go.ChangeSpec) : _root_.Go.OpenSpec := { _root_.Go.OpenSpec.ofChange s with cond := some uptoSmall }

/-- 'laws.FnExactEncodeEntry', WHERE WHAT IT READS IS OF BULK AT MOST 1048576: true; the input reads as it did. -/
def fnExactEncodeEntryUptoRow : OpenClaim := { program := "ytlimhkjnnpmpkaa", sum := "d598ba84b839152332b9ff4144665b60bb2c524551f17ab637a8768d321738d4", func := "loop.example/rangechains/laws.FnExactEncodeEntry", spec := "fnExactEncodeEntry", recurses := true, apart := false, narrowed := true }
def FnExactEncodeEntryUptoSaid : Prop := fnExactEncodeEntryUptoRow.holds Try.pinned (OpenSpec.upto fnExactEncodeEntrySpec)

/-- 'laws.FnExactDecodeEntry', WHERE WHAT IT READS IS OF BULK AT MOST 1048576: true; the input reads as it did. -/
def fnExactDecodeEntryUptoRow : OpenClaim := { program := "ytlimhkjnnpmpkaa", sum := "d598ba84b839152332b9ff4144665b60bb2c524551f17ab637a8768d321738d4", func := "loop.example/rangechains/laws.FnExactDecodeEntry", spec := "fnExactDecodeEntry", recurses := true, apart := false, narrowed := true }
def FnExactDecodeEntryUptoSaid : Prop := fnExactDecodeEntryUptoRow.holds Try.pinned (OpenSpec.upto fnExactDecodeEntrySpec)

/-- 'laws.FnEncodeEntry', WHERE WHAT IT READS IS OF BULK AT MOST 1048576: true; the input reads as it did. -/
def fnEncodeEntryUptoRow : OpenClaim := { program := "ytlimhkjnnpmpkaa", sum := "d598ba84b839152332b9ff4144665b60bb2c524551f17ab637a8768d321738d4", func := "loop.example/rangechains/laws.FnEncodeEntry", spec := "fnEncodeEntry", recurses := true, apart := false, narrowed := true }
def FnEncodeEntryUptoSaid : Prop := fnEncodeEntryUptoRow.holds Try.pinned (OpenSpec.upto fnEncodeEntrySpec)

/-- 'laws.FnDecodeEntry', WHERE WHAT IT READS IS OF BULK AT MOST 1048576: true; the input reads as it did. -/
def fnDecodeEntryUptoRow : OpenClaim := { program := "ytlimhkjnnpmpkaa", sum := "d598ba84b839152332b9ff4144665b60bb2c524551f17ab637a8768d321738d4", func := "loop.example/rangechains/laws.FnDecodeEntry", spec := "fnDecodeEntry", recurses := true, apart := false, narrowed := true }
def FnDecodeEntryUptoSaid : Prop := fnDecodeEntryUptoRow.holds Try.pinned (OpenSpec.upto fnDecodeEntrySpec)

/-- 'laws.FnExactFrameEntry', WHERE WHAT IT READS IS OF BULK AT MOST 1048576: true; the input reads as it did. -/
def fnExactFrameEntryUptoRow : OpenClaim := { program := "ytlimhkjnnpmpkaa", sum := "d598ba84b839152332b9ff4144665b60bb2c524551f17ab637a8768d321738d4", func := "loop.example/rangechains/laws.FnExactFrameEntry", spec := "fnExactFrameEntry", recurses := true, apart := false, narrowed := true }
def FnExactFrameEntryUptoSaid : Prop := fnExactFrameEntryUptoRow.holds Try.pinned (OpenSpec.upto fnExactFrameEntrySpec)

/-- 'laws.FnExactReadFrame', WHERE WHAT IT READS IS OF BULK AT MOST 1048576: true; the input reads as it did. -/
def fnExactReadFrameUptoRow : OpenClaim := { program := "ytlimhkjnnpmpkaa", sum := "d598ba84b839152332b9ff4144665b60bb2c524551f17ab637a8768d321738d4", func := "loop.example/rangechains/laws.FnExactReadFrame", spec := "fnExactReadFrame", recurses := true, apart := false, narrowed := true }
def FnExactReadFrameUptoSaid : Prop := fnExactReadFrameUptoRow.holds Try.pinned (OpenSpec.upto fnExactReadFrameSpec)

/-- 'laws.FnFrameEntry', WHERE WHAT IT READS IS OF BULK AT MOST 1048576: true; the input reads as it did. -/
def fnFrameEntryUptoRow : OpenClaim := { program := "ytlimhkjnnpmpkaa", sum := "d598ba84b839152332b9ff4144665b60bb2c524551f17ab637a8768d321738d4", func := "loop.example/rangechains/laws.FnFrameEntry", spec := "fnFrameEntry", recurses := true, apart := false, narrowed := true }
def FnFrameEntryUptoSaid : Prop := fnFrameEntryUptoRow.holds Try.pinned (OpenSpec.upto fnFrameEntrySpec)

/-- 'laws.FnReadFrame', WHERE WHAT IT READS IS OF BULK AT MOST 1048576: true; the input reads as it did. -/
def fnReadFrameUptoRow : OpenClaim := { program := "ytlimhkjnnpmpkaa", sum := "d598ba84b839152332b9ff4144665b60bb2c524551f17ab637a8768d321738d4", func := "loop.example/rangechains/laws.FnReadFrame", spec := "fnReadFrame", recurses := true, apart := false, narrowed := true }
def FnReadFrameUptoSaid : Prop := fnReadFrameUptoRow.holds Try.pinned (OpenSpec.upto fnReadFrameSpec)

end Rows
end Go.Proofs.Ytlimhkjnnpmpkaa
