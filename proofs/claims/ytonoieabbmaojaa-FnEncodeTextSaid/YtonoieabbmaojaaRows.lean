/-
  No cell of these rows narrows 'for every input' (looked for: loops, veiled, ifaces, maps, wideKeys, modest, calm, conditions, laid).
  DERIVED. THE GIVEN ROWS OF THIS SEAT. 12 by the template 'for every input the law returns true; each argument reads behind the call as it read before'; 0 by the template 'total and deterministic' (their statements: YtonoieabbmaojaaTotals.lean).
  GIVEN WITH THE SEED: the statements are not yours to turn. If you find one false, say at which input.
  Laid BY PROGRAM, IN A SANDBOX (cutbox-rows.mjs): the forced cells as the released guide's own fill.sh prints them over the translation d4e1c23fe19aa5df… (all of the seat's roots in one cut). By AI agents, Wed Nov 11 2026. No macro, syntax, notation, axiom, sorry.
-/
import Derived.Test.YtonoieabbmaojaaChecked
import GoSem.Claim
import GoSem.ClaimJoined
import GoSem.ClaimMapViews
import Derived.JoinedTies
import Derived.KernelRfl
namespace Go.Proofs.Ytonoieabbmaojaa
/- THE CELL 'sum', in the pinned program and in every row, IS THE sha256 OF THE DUMP (.gsa) THAT YtonoieabbmaojaaProg.lean LOADS. Nothing in Lean hashes anything: it is a label: what it is worth is what the hold of that sum in a sandbox is worth. -/
noncomputable def Try.pinned : Pinned := { name := "ytonoieabbmaojaa", sum := "d4e1c23fe19aa5df76139521a91f53072fad563c79b77e97085adcc18ac5e658", checked := Try.checked }
namespace Rows
def none {H : Type} : Left H := { results := [], args := [] }

/-- 'laws.FnExactBytesValid': WHATEVER THE INPUT: true; the input reads as it did. -/
def fnExactBytesValidSpec : ChangeSpec := { name := "fnExactBytesValid", fn := fun _ => fun
  | [d] => { results := [.lit (.bool true)], args := [d] }
  | _ => none }
def fnExactBytesValidRow : OpenClaim := { program := "ytonoieabbmaojaa", sum := "d4e1c23fe19aa5df76139521a91f53072fad563c79b77e97085adcc18ac5e658", func := "loop.example/rangechains/laws.FnExactBytesValid", spec := "fnExactBytesValid", apart := false }
def FnExactBytesValidSaid : Prop := fnExactBytesValidRow.holds Try.pinned (OpenSpec.ofChange fnExactBytesValidSpec)

/-- ITS FALSE NEIGHBOUR: 'it returns false'. Refute it at one input. -/
def fnExactBytesValidWrong : ChangeSpec := { name := "fnExactBytesValid", fn := fun _ => fun
  | [d] => { results := [.lit (.bool false)], args := [d] }
  | _ => none }
def FnExactBytesValidWrongFalsely : Prop := fnExactBytesValidRow.holds Try.pinned (OpenSpec.ofChange fnExactBytesValidWrong)

/-- 'laws.FnExactEncodeNumber': WHATEVER THE INPUT: true; the input reads as it did. -/
def fnExactEncodeNumberSpec : ChangeSpec := { name := "fnExactEncodeNumber", fn := fun _ => fun
  | [d] => { results := [.lit (.bool true)], args := [d] }
  | _ => none }
def fnExactEncodeNumberRow : OpenClaim := { program := "ytonoieabbmaojaa", sum := "d4e1c23fe19aa5df76139521a91f53072fad563c79b77e97085adcc18ac5e658", func := "loop.example/rangechains/laws.FnExactEncodeNumber", spec := "fnExactEncodeNumber", apart := false }
def FnExactEncodeNumberSaid : Prop := fnExactEncodeNumberRow.holds Try.pinned (OpenSpec.ofChange fnExactEncodeNumberSpec)

/-- ITS FALSE NEIGHBOUR: 'it returns false'. Refute it at one input. -/
def fnExactEncodeNumberWrong : ChangeSpec := { name := "fnExactEncodeNumber", fn := fun _ => fun
  | [d] => { results := [.lit (.bool false)], args := [d] }
  | _ => none }
def FnExactEncodeNumberWrongFalsely : Prop := fnExactEncodeNumberRow.holds Try.pinned (OpenSpec.ofChange fnExactEncodeNumberWrong)

/-- 'laws.FnExactRecordSum': WHATEVER THE INPUT: true; the input reads as it did. -/
def fnExactRecordSumSpec : ChangeSpec := { name := "fnExactRecordSum", fn := fun _ => fun
  | [d] => { results := [.lit (.bool true)], args := [d] }
  | _ => none }
def fnExactRecordSumRow : OpenClaim := { program := "ytonoieabbmaojaa", sum := "d4e1c23fe19aa5df76139521a91f53072fad563c79b77e97085adcc18ac5e658", func := "loop.example/rangechains/laws.FnExactRecordSum", spec := "fnExactRecordSum", apart := false }
def FnExactRecordSumSaid : Prop := fnExactRecordSumRow.holds Try.pinned (OpenSpec.ofChange fnExactRecordSumSpec)

/-- ITS FALSE NEIGHBOUR: 'it returns false'. Refute it at one input. -/
def fnExactRecordSumWrong : ChangeSpec := { name := "fnExactRecordSum", fn := fun _ => fun
  | [d] => { results := [.lit (.bool false)], args := [d] }
  | _ => none }
def FnExactRecordSumWrongFalsely : Prop := fnExactRecordSumRow.holds Try.pinned (OpenSpec.ofChange fnExactRecordSumWrong)

/-- 'laws.FnExactEncodeText': WHATEVER THE INPUT: true; the input reads as it did. -/
def fnExactEncodeTextSpec : ChangeSpec := { name := "fnExactEncodeText", fn := fun _ => fun
  | [d] => { results := [.lit (.bool true)], args := [d] }
  | _ => none }
def fnExactEncodeTextRow : OpenClaim := { program := "ytonoieabbmaojaa", sum := "d4e1c23fe19aa5df76139521a91f53072fad563c79b77e97085adcc18ac5e658", func := "loop.example/rangechains/laws.FnExactEncodeText", spec := "fnExactEncodeText", apart := false }
def FnExactEncodeTextSaid : Prop := fnExactEncodeTextRow.holds Try.pinned (OpenSpec.ofChange fnExactEncodeTextSpec)

/-- ITS FALSE NEIGHBOUR: 'it returns false'. Refute it at one input. -/
def fnExactEncodeTextWrong : ChangeSpec := { name := "fnExactEncodeText", fn := fun _ => fun
  | [d] => { results := [.lit (.bool false)], args := [d] }
  | _ => none }
def FnExactEncodeTextWrongFalsely : Prop := fnExactEncodeTextRow.holds Try.pinned (OpenSpec.ofChange fnExactEncodeTextWrong)

/-- 'laws.FnExactDecodeNumber': WHATEVER THE INPUT: true; the input reads as it did. -/
def fnExactDecodeNumberSpec : ChangeSpec := { name := "fnExactDecodeNumber", fn := fun _ => fun
  | [d1, d2] => { results := [.lit (.bool true)], args := [d1, d2] }
  | _ => none }
def fnExactDecodeNumberRow : OpenClaim := { program := "ytonoieabbmaojaa", sum := "d4e1c23fe19aa5df76139521a91f53072fad563c79b77e97085adcc18ac5e658", func := "loop.example/rangechains/laws.FnExactDecodeNumber", spec := "fnExactDecodeNumber", apart := false }
def FnExactDecodeNumberSaid : Prop := fnExactDecodeNumberRow.holds Try.pinned (OpenSpec.ofChange fnExactDecodeNumberSpec)

/-- ITS FALSE NEIGHBOUR: 'it returns false'. Refute it at one input. -/
def fnExactDecodeNumberWrong : ChangeSpec := { name := "fnExactDecodeNumber", fn := fun _ => fun
  | [d1, d2] => { results := [.lit (.bool false)], args := [d1, d2] }
  | _ => none }
def FnExactDecodeNumberWrongFalsely : Prop := fnExactDecodeNumberRow.holds Try.pinned (OpenSpec.ofChange fnExactDecodeNumberWrong)

/-- 'laws.FnExactDecodeText': WHATEVER THE INPUT: true; the input reads as it did. -/
def fnExactDecodeTextSpec : ChangeSpec := { name := "fnExactDecodeText", fn := fun _ => fun
  | [d1, d2] => { results := [.lit (.bool true)], args := [d1, d2] }
  | _ => none }
def fnExactDecodeTextRow : OpenClaim := { program := "ytonoieabbmaojaa", sum := "d4e1c23fe19aa5df76139521a91f53072fad563c79b77e97085adcc18ac5e658", func := "loop.example/rangechains/laws.FnExactDecodeText", spec := "fnExactDecodeText", apart := false }
def FnExactDecodeTextSaid : Prop := fnExactDecodeTextRow.holds Try.pinned (OpenSpec.ofChange fnExactDecodeTextSpec)

/-- ITS FALSE NEIGHBOUR: 'it returns false'. Refute it at one input. -/
def fnExactDecodeTextWrong : ChangeSpec := { name := "fnExactDecodeText", fn := fun _ => fun
  | [d1, d2] => { results := [.lit (.bool false)], args := [d1, d2] }
  | _ => none }
def FnExactDecodeTextWrongFalsely : Prop := fnExactDecodeTextRow.holds Try.pinned (OpenSpec.ofChange fnExactDecodeTextWrong)

/-- 'laws.FnEncodeNumber': WHATEVER THE INPUT: true; the input reads as it did. -/
def fnEncodeNumberSpec : ChangeSpec := { name := "fnEncodeNumber", fn := fun _ => fun
  | [d] => { results := [.lit (.bool true)], args := [d] }
  | _ => none }
def fnEncodeNumberRow : OpenClaim := { program := "ytonoieabbmaojaa", sum := "d4e1c23fe19aa5df76139521a91f53072fad563c79b77e97085adcc18ac5e658", func := "loop.example/rangechains/laws.FnEncodeNumber", spec := "fnEncodeNumber", recurses := true, apart := false }
def FnEncodeNumberSaid : Prop := fnEncodeNumberRow.holds Try.pinned (OpenSpec.ofChange fnEncodeNumberSpec)

/-- ITS FALSE NEIGHBOUR: 'it returns false'. Refute it at one input. -/
def fnEncodeNumberWrong : ChangeSpec := { name := "fnEncodeNumber", fn := fun _ => fun
  | [d] => { results := [.lit (.bool false)], args := [d] }
  | _ => none }
def FnEncodeNumberWrongFalsely : Prop := fnEncodeNumberRow.holds Try.pinned (OpenSpec.ofChange fnEncodeNumberWrong)

/-- 'laws.FnBytesValid': WHATEVER THE INPUT: true; the input reads as it did. -/
def fnBytesValidSpec : ChangeSpec := { name := "fnBytesValid", fn := fun _ => fun
  | [d] => { results := [.lit (.bool true)], args := [d] }
  | _ => none }
def fnBytesValidRow : OpenClaim := { program := "ytonoieabbmaojaa", sum := "d4e1c23fe19aa5df76139521a91f53072fad563c79b77e97085adcc18ac5e658", func := "loop.example/rangechains/laws.FnBytesValid", spec := "fnBytesValid", recurses := true, apart := false }
def FnBytesValidSaid : Prop := fnBytesValidRow.holds Try.pinned (OpenSpec.ofChange fnBytesValidSpec)

/-- ITS FALSE NEIGHBOUR: 'it returns false'. Refute it at one input. -/
def fnBytesValidWrong : ChangeSpec := { name := "fnBytesValid", fn := fun _ => fun
  | [d] => { results := [.lit (.bool false)], args := [d] }
  | _ => none }
def FnBytesValidWrongFalsely : Prop := fnBytesValidRow.holds Try.pinned (OpenSpec.ofChange fnBytesValidWrong)

/-- 'laws.FnRecordSum': WHATEVER THE INPUT: true; the input reads as it did. -/
def fnRecordSumSpec : ChangeSpec := { name := "fnRecordSum", fn := fun _ => fun
  | [d] => { results := [.lit (.bool true)], args := [d] }
  | _ => none }
def fnRecordSumRow : OpenClaim := { program := "ytonoieabbmaojaa", sum := "d4e1c23fe19aa5df76139521a91f53072fad563c79b77e97085adcc18ac5e658", func := "loop.example/rangechains/laws.FnRecordSum", spec := "fnRecordSum", recurses := true, apart := false }
def FnRecordSumSaid : Prop := fnRecordSumRow.holds Try.pinned (OpenSpec.ofChange fnRecordSumSpec)

/-- ITS FALSE NEIGHBOUR: 'it returns false'. Refute it at one input. -/
def fnRecordSumWrong : ChangeSpec := { name := "fnRecordSum", fn := fun _ => fun
  | [d] => { results := [.lit (.bool false)], args := [d] }
  | _ => none }
def FnRecordSumWrongFalsely : Prop := fnRecordSumRow.holds Try.pinned (OpenSpec.ofChange fnRecordSumWrong)

/-- 'laws.FnEncodeText': WHATEVER THE INPUT: true; the input reads as it did. -/
def fnEncodeTextSpec : ChangeSpec := { name := "fnEncodeText", fn := fun _ => fun
  | [d] => { results := [.lit (.bool true)], args := [d] }
  | _ => none }
def fnEncodeTextRow : OpenClaim := { program := "ytonoieabbmaojaa", sum := "d4e1c23fe19aa5df76139521a91f53072fad563c79b77e97085adcc18ac5e658", func := "loop.example/rangechains/laws.FnEncodeText", spec := "fnEncodeText", recurses := true, apart := false }
def FnEncodeTextSaid : Prop := fnEncodeTextRow.holds Try.pinned (OpenSpec.ofChange fnEncodeTextSpec)

/-- ITS FALSE NEIGHBOUR: 'it returns false'. Refute it at one input. -/
def fnEncodeTextWrong : ChangeSpec := { name := "fnEncodeText", fn := fun _ => fun
  | [d] => { results := [.lit (.bool false)], args := [d] }
  | _ => none }
def FnEncodeTextWrongFalsely : Prop := fnEncodeTextRow.holds Try.pinned (OpenSpec.ofChange fnEncodeTextWrong)

/-- 'laws.FnDecodeNumber': WHATEVER THE INPUT: true; the input reads as it did. -/
def fnDecodeNumberSpec : ChangeSpec := { name := "fnDecodeNumber", fn := fun _ => fun
  | [d] => { results := [.lit (.bool true)], args := [d] }
  | _ => none }
def fnDecodeNumberRow : OpenClaim := { program := "ytonoieabbmaojaa", sum := "d4e1c23fe19aa5df76139521a91f53072fad563c79b77e97085adcc18ac5e658", func := "loop.example/rangechains/laws.FnDecodeNumber", spec := "fnDecodeNumber", recurses := true, apart := false }
def FnDecodeNumberSaid : Prop := fnDecodeNumberRow.holds Try.pinned (OpenSpec.ofChange fnDecodeNumberSpec)

/-- ITS FALSE NEIGHBOUR: 'it returns false'. Refute it at one input. -/
def fnDecodeNumberWrong : ChangeSpec := { name := "fnDecodeNumber", fn := fun _ => fun
  | [d] => { results := [.lit (.bool false)], args := [d] }
  | _ => none }
def FnDecodeNumberWrongFalsely : Prop := fnDecodeNumberRow.holds Try.pinned (OpenSpec.ofChange fnDecodeNumberWrong)

/-- 'laws.FnDecodeText': WHATEVER THE INPUT: true; the input reads as it did. -/
def fnDecodeTextSpec : ChangeSpec := { name := "fnDecodeText", fn := fun _ => fun
  | [d] => { results := [.lit (.bool true)], args := [d] }
  | _ => none }
def fnDecodeTextRow : OpenClaim := { program := "ytonoieabbmaojaa", sum := "d4e1c23fe19aa5df76139521a91f53072fad563c79b77e97085adcc18ac5e658", func := "loop.example/rangechains/laws.FnDecodeText", spec := "fnDecodeText", recurses := true, apart := false }
def FnDecodeTextSaid : Prop := fnDecodeTextRow.holds Try.pinned (OpenSpec.ofChange fnDecodeTextSpec)

/-- ITS FALSE NEIGHBOUR: 'it returns false'. Refute it at one input. -/
def fnDecodeTextWrong : ChangeSpec := { name := "fnDecodeText", fn := fun _ => fun
  | [d] => { results := [.lit (.bool false)], args := [d] }
  | _ => none }
def FnDecodeTextWrongFalsely : Prop := fnDecodeTextRow.holds Try.pinned (OpenSpec.ofChange fnDecodeTextWrong)

/- THE SECOND FORM. 'bulk': how many values and letters a reading holds, each counted each time it is reached (what is shared counts as often as it is met; a slice's spare places count too). A statement '..UptoSaid' is the law's where the arguments, and the package variables that the reading takes, are together of bulk at most 1048576: NARROWER than '..Said'. Prove '..Said' where nothing that the law and all that it calls make is longer than what came in: it says more and counts as full. Else prove '..UptoSaid'. A law counts once. -/
mutual
def uptoBulk {H : Type} : DataW H → Nat
  | .lit (.string bytes) => bytes.length + 1
  | .lit _ => 1
  | .nil => 1
  | .ptr d => uptoBulk d + 1
  | .slice elems spare => uptoBulkAll elems + uptoBulkAll spare + 1
  | .agg parts => uptoBulkAll parts + 1
  | .iface _ d => uptoBulk d + 1
  | .map entries => uptoBulkEntries entries + 1
  | .held _ => 1
def uptoBulkAll {H : Type} : List (DataW H) → Nat
  | [] => 0
  | d :: r => uptoBulk d + uptoBulkAll r
def uptoBulkEntries {H : Type} : List (Lit × DataW H) → Nat
  | [] => 0
  | x :: r => uptoBulkEntry x + uptoBulkEntries r
def uptoBulkEntry {H : Type} : Lit × DataW H → Nat
  | (.string bytes, d) => bytes.length + uptoBulk d + 1
  | (_, d) => uptoBulk d + 1
 end
def uptoSmall : (H : Type) → List (DataW H) → Bool := fun _ ds => decide (uptoBulkAll ds ≤ 1048576)
def OpenSpec.upto (s : _root_.Go.ChangeSpec) : _root_.Go.OpenSpec := { _root_.Go.OpenSpec.ofChange s with cond := some uptoSmall }

/-- 'laws.FnExactBytesValid', WHERE WHAT IT READS IS OF BULK AT MOST 1048576: true; the input reads as it did. -/
def fnExactBytesValidUptoRow : OpenClaim := { program := "ytonoieabbmaojaa", sum := "d4e1c23fe19aa5df76139521a91f53072fad563c79b77e97085adcc18ac5e658", func := "loop.example/rangechains/laws.FnExactBytesValid", spec := "fnExactBytesValid", apart := false, narrowed := true }
def FnExactBytesValidUptoSaid : Prop := fnExactBytesValidUptoRow.holds Try.pinned (OpenSpec.upto fnExactBytesValidSpec)

/-- 'laws.FnExactEncodeNumber', WHERE WHAT IT READS IS OF BULK AT MOST 1048576: true; the input reads as it did. -/
def fnExactEncodeNumberUptoRow : OpenClaim := { program := "ytonoieabbmaojaa", sum := "d4e1c23fe19aa5df76139521a91f53072fad563c79b77e97085adcc18ac5e658", func := "loop.example/rangechains/laws.FnExactEncodeNumber", spec := "fnExactEncodeNumber", apart := false, narrowed := true }
def FnExactEncodeNumberUptoSaid : Prop := fnExactEncodeNumberUptoRow.holds Try.pinned (OpenSpec.upto fnExactEncodeNumberSpec)

/-- 'laws.FnExactRecordSum', WHERE WHAT IT READS IS OF BULK AT MOST 1048576: true; the input reads as it did. -/
def fnExactRecordSumUptoRow : OpenClaim := { program := "ytonoieabbmaojaa", sum := "d4e1c23fe19aa5df76139521a91f53072fad563c79b77e97085adcc18ac5e658", func := "loop.example/rangechains/laws.FnExactRecordSum", spec := "fnExactRecordSum", apart := false, narrowed := true }
def FnExactRecordSumUptoSaid : Prop := fnExactRecordSumUptoRow.holds Try.pinned (OpenSpec.upto fnExactRecordSumSpec)

/-- 'laws.FnExactEncodeText', WHERE WHAT IT READS IS OF BULK AT MOST 1048576: true; the input reads as it did. -/
def fnExactEncodeTextUptoRow : OpenClaim := { program := "ytonoieabbmaojaa", sum := "d4e1c23fe19aa5df76139521a91f53072fad563c79b77e97085adcc18ac5e658", func := "loop.example/rangechains/laws.FnExactEncodeText", spec := "fnExactEncodeText", apart := false, narrowed := true }
def FnExactEncodeTextUptoSaid : Prop := fnExactEncodeTextUptoRow.holds Try.pinned (OpenSpec.upto fnExactEncodeTextSpec)

/-- 'laws.FnExactDecodeNumber', WHERE WHAT IT READS IS OF BULK AT MOST 1048576: true; the input reads as it did. -/
def fnExactDecodeNumberUptoRow : OpenClaim := { program := "ytonoieabbmaojaa", sum := "d4e1c23fe19aa5df76139521a91f53072fad563c79b77e97085adcc18ac5e658", func := "loop.example/rangechains/laws.FnExactDecodeNumber", spec := "fnExactDecodeNumber", apart := false, narrowed := true }
def FnExactDecodeNumberUptoSaid : Prop := fnExactDecodeNumberUptoRow.holds Try.pinned (OpenSpec.upto fnExactDecodeNumberSpec)

/-- 'laws.FnExactDecodeText', WHERE WHAT IT READS IS OF BULK AT MOST 1048576: true; the input reads as it did. -/
def fnExactDecodeTextUptoRow : OpenClaim := { program := "ytonoieabbmaojaa", sum := "d4e1c23fe19aa5df76139521a91f53072fad563c79b77e97085adcc18ac5e658", func := "loop.example/rangechains/laws.FnExactDecodeText", spec := "fnExactDecodeText", apart := false, narrowed := true }
def FnExactDecodeTextUptoSaid : Prop := fnExactDecodeTextUptoRow.holds Try.pinned (OpenSpec.upto fnExactDecodeTextSpec)

/-- 'laws.FnEncodeNumber', WHERE WHAT IT READS IS OF BULK AT MOST 1048576: true; the input reads as it did. -/
def fnEncodeNumberUptoRow : OpenClaim := { program := "ytonoieabbmaojaa", sum := "d4e1c23fe19aa5df76139521a91f53072fad563c79b77e97085adcc18ac5e658", func := "loop.example/rangechains/laws.FnEncodeNumber", spec := "fnEncodeNumber", recurses := true, apart := false, narrowed := true }
def FnEncodeNumberUptoSaid : Prop := fnEncodeNumberUptoRow.holds Try.pinned (OpenSpec.upto fnEncodeNumberSpec)

/-- 'laws.FnBytesValid', WHERE WHAT IT READS IS OF BULK AT MOST 1048576: true; the input reads as it did. -/
def fnBytesValidUptoRow : OpenClaim := { program := "ytonoieabbmaojaa", sum := "d4e1c23fe19aa5df76139521a91f53072fad563c79b77e97085adcc18ac5e658", func := "loop.example/rangechains/laws.FnBytesValid", spec := "fnBytesValid", recurses := true, apart := false, narrowed := true }
def FnBytesValidUptoSaid : Prop := fnBytesValidUptoRow.holds Try.pinned (OpenSpec.upto fnBytesValidSpec)

/-- 'laws.FnRecordSum', WHERE WHAT IT READS IS OF BULK AT MOST 1048576: true; the input reads as it did. -/
def fnRecordSumUptoRow : OpenClaim := { program := "ytonoieabbmaojaa", sum := "d4e1c23fe19aa5df76139521a91f53072fad563c79b77e97085adcc18ac5e658", func := "loop.example/rangechains/laws.FnRecordSum", spec := "fnRecordSum", recurses := true, apart := false, narrowed := true }
def FnRecordSumUptoSaid : Prop := fnRecordSumUptoRow.holds Try.pinned (OpenSpec.upto fnRecordSumSpec)

/-- 'laws.FnEncodeText', WHERE WHAT IT READS IS OF BULK AT MOST 1048576: true; the input reads as it did. -/
def fnEncodeTextUptoRow : OpenClaim := { program := "ytonoieabbmaojaa", sum := "d4e1c23fe19aa5df76139521a91f53072fad563c79b77e97085adcc18ac5e658", func := "loop.example/rangechains/laws.FnEncodeText", spec := "fnEncodeText", recurses := true, apart := false, narrowed := true }
def FnEncodeTextUptoSaid : Prop := fnEncodeTextUptoRow.holds Try.pinned (OpenSpec.upto fnEncodeTextSpec)

/-- 'laws.FnDecodeNumber', WHERE WHAT IT READS IS OF BULK AT MOST 1048576: true; the input reads as it did. -/
def fnDecodeNumberUptoRow : OpenClaim := { program := "ytonoieabbmaojaa", sum := "d4e1c23fe19aa5df76139521a91f53072fad563c79b77e97085adcc18ac5e658", func := "loop.example/rangechains/laws.FnDecodeNumber", spec := "fnDecodeNumber", recurses := true, apart := false, narrowed := true }
def FnDecodeNumberUptoSaid : Prop := fnDecodeNumberUptoRow.holds Try.pinned (OpenSpec.upto fnDecodeNumberSpec)

/-- 'laws.FnDecodeText', WHERE WHAT IT READS IS OF BULK AT MOST 1048576: true; the input reads as it did. -/
def fnDecodeTextUptoRow : OpenClaim := { program := "ytonoieabbmaojaa", sum := "d4e1c23fe19aa5df76139521a91f53072fad563c79b77e97085adcc18ac5e658", func := "loop.example/rangechains/laws.FnDecodeText", spec := "fnDecodeText", recurses := true, apart := false, narrowed := true }
def FnDecodeTextUptoSaid : Prop := fnDecodeTextUptoRow.holds Try.pinned (OpenSpec.upto fnDecodeTextSpec)

end Rows
end Go.Proofs.Ytonoieabbmaojaa
