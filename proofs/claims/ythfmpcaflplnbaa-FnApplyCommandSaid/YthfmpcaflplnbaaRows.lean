/-
  No cell of these rows narrows 'for every input' (looked for: loops, veiled, ifaces, maps, wideKeys, modest, calm, conditions, laid).
  DERIVED. THE GIVEN ROWS OF THIS SEAT. 5 by the template 'for every input the law returns true; each argument reads behind the call as it read before'; 0 by the template 'total and deterministic' (their statements: YthfmpcaflplnbaaTotals.lean).
  GIVEN WITH THE SEED: the statements are not yours to turn. If you find one false, say at which input.
  Laid BY PROGRAM, IN A SANDBOX (cutbox-rows.mjs): the forced cells as the released guide's own fill.sh prints them over the translation 7ce1d134a28f5621… (all of the seat's roots in one cut). By AI agents, Wed Nov 11 2026. No macro, syntax, notation, axiom, sorry.
-/
import Derived.Test.YthfmpcaflplnbaaChecked
import GoSem.Claim
import GoSem.ClaimJoined
import GoSem.ClaimMapViews
import Derived.JoinedTies
import Derived.KernelRfl
namespace Go.Proofs.Ythfmpcaflplnbaa
/- THE CELL 'sum', in the pinned program and in every row, IS THE sha256 OF THE DUMP (.gsa) THAT YthfmpcaflplnbaaProg.lean LOADS. Nothing in Lean hashes anything: it is a label: what it is worth is what the hold of that sum in a sandbox is worth. -/
noncomputable def Try.pinned : Pinned := { name := "ythfmpcaflplnbaa", sum := "7ce1d134a28f5621858b626a2f7e1d8ca61214e74a761741dbcd089a906289ef", checked := Try.checked }
namespace Rows
def none {H : Type} : Left H := { results := [], args := [] }

/-- 'laws.FnExactApplyCommand': WHATEVER THE INPUT: true; the input reads as it did. -/
def fnExactApplyCommandSpec : ChangeSpec := { name := "fnExactApplyCommand", fn := fun _ => fun
  | [d1, d2] => { results := [.lit (.bool true)], args := [d1, d2] }
  | _ => none }
def fnExactApplyCommandRow : OpenClaim := { program := "ythfmpcaflplnbaa", sum := "7ce1d134a28f5621858b626a2f7e1d8ca61214e74a761741dbcd089a906289ef", func := "loop.example/rangechains/laws.FnExactApplyCommand", spec := "fnExactApplyCommand", unfollowed := true, recurses := true, apart := false }
def FnExactApplyCommandSaid : Prop := fnExactApplyCommandRow.holds Try.pinned (OpenSpec.ofChange fnExactApplyCommandSpec)

/-- ITS FALSE NEIGHBOUR: 'it returns false'. Refute it at one input. -/
def fnExactApplyCommandWrong : ChangeSpec := { name := "fnExactApplyCommand", fn := fun _ => fun
  | [d1, d2] => { results := [.lit (.bool false)], args := [d1, d2] }
  | _ => none }
def FnExactApplyCommandWrongFalsely : Prop := fnExactApplyCommandRow.holds Try.pinned (OpenSpec.ofChange fnExactApplyCommandWrong)

/-- 'laws.FnApplyCommand': WHATEVER THE INPUT: true; the input reads as it did. -/
def fnApplyCommandSpec : ChangeSpec := { name := "fnApplyCommand", fn := fun _ => fun
  | [d] => { results := [.lit (.bool true)], args := [d] }
  | _ => none }
def fnApplyCommandRow : OpenClaim := { program := "ythfmpcaflplnbaa", sum := "7ce1d134a28f5621858b626a2f7e1d8ca61214e74a761741dbcd089a906289ef", func := "loop.example/rangechains/laws.FnApplyCommand", spec := "fnApplyCommand", unfollowed := true, recurses := true, apart := false }
def FnApplyCommandSaid : Prop := fnApplyCommandRow.holds Try.pinned (OpenSpec.ofChange fnApplyCommandSpec)

/-- ITS FALSE NEIGHBOUR: 'it returns false'. Refute it at one input. -/
def fnApplyCommandWrong : ChangeSpec := { name := "fnApplyCommand", fn := fun _ => fun
  | [d] => { results := [.lit (.bool false)], args := [d] }
  | _ => none }
def FnApplyCommandWrongFalsely : Prop := fnApplyCommandRow.holds Try.pinned (OpenSpec.ofChange fnApplyCommandWrong)

/-- 'laws.FnExactRunCommands': WHATEVER THE INPUT: true; the input reads as it did. -/
def fnExactRunCommandsSpec : ChangeSpec := { name := "fnExactRunCommands", fn := fun _ => fun
  | [d1, d2] => { results := [.lit (.bool true)], args := [d1, d2] }
  | _ => none }
def fnExactRunCommandsRow : OpenClaim := { program := "ythfmpcaflplnbaa", sum := "7ce1d134a28f5621858b626a2f7e1d8ca61214e74a761741dbcd089a906289ef", func := "loop.example/rangechains/laws.FnExactRunCommands", spec := "fnExactRunCommands", unfollowed := true, recurses := true, apart := false }
def FnExactRunCommandsSaid : Prop := fnExactRunCommandsRow.holds Try.pinned (OpenSpec.ofChange fnExactRunCommandsSpec)

/-- ITS FALSE NEIGHBOUR: 'it returns false'. Refute it at one input. -/
def fnExactRunCommandsWrong : ChangeSpec := { name := "fnExactRunCommands", fn := fun _ => fun
  | [d1, d2] => { results := [.lit (.bool false)], args := [d1, d2] }
  | _ => none }
def FnExactRunCommandsWrongFalsely : Prop := fnExactRunCommandsRow.holds Try.pinned (OpenSpec.ofChange fnExactRunCommandsWrong)

/-- 'laws.FnRunCommands': WHATEVER THE INPUT: true; the input reads as it did. -/
def fnRunCommandsSpec : ChangeSpec := { name := "fnRunCommands", fn := fun _ => fun
  | [d] => { results := [.lit (.bool true)], args := [d] }
  | _ => none }
def fnRunCommandsRow : OpenClaim := { program := "ythfmpcaflplnbaa", sum := "7ce1d134a28f5621858b626a2f7e1d8ca61214e74a761741dbcd089a906289ef", func := "loop.example/rangechains/laws.FnRunCommands", spec := "fnRunCommands", unfollowed := true, recurses := true, apart := false }
def FnRunCommandsSaid : Prop := fnRunCommandsRow.holds Try.pinned (OpenSpec.ofChange fnRunCommandsSpec)

/-- ITS FALSE NEIGHBOUR: 'it returns false'. Refute it at one input. -/
def fnRunCommandsWrong : ChangeSpec := { name := "fnRunCommands", fn := fun _ => fun
  | [d] => { results := [.lit (.bool false)], args := [d] }
  | _ => none }
def FnRunCommandsWrongFalsely : Prop := fnRunCommandsRow.holds Try.pinned (OpenSpec.ofChange fnRunCommandsWrong)

/-- 'laws.FnPagesDrop': WHATEVER THE INPUT: true; the input reads as it did. -/
def fnPagesDropSpec : ChangeSpec := { name := "fnPagesDrop", fn := fun _ => fun
  | [d] => { results := [.lit (.bool true)], args := [d] }
  | _ => none }
def fnPagesDropRow : OpenClaim := { program := "ythfmpcaflplnbaa", sum := "7ce1d134a28f5621858b626a2f7e1d8ca61214e74a761741dbcd089a906289ef", func := "loop.example/rangechains/laws.FnPagesDrop", spec := "fnPagesDrop", unfollowed := true, recurses := true, apart := false }
def FnPagesDropSaid : Prop := fnPagesDropRow.holds Try.pinned (OpenSpec.ofChange fnPagesDropSpec)

/-- ITS FALSE NEIGHBOUR: 'it returns false'. Refute it at one input. -/
def fnPagesDropWrong : ChangeSpec := { name := "fnPagesDrop", fn := fun _ => fun
  | [d] => { results := [.lit (.bool false)], args := [d] }
  | _ => none }
def FnPagesDropWrongFalsely : Prop := fnPagesDropRow.holds Try.pinned (OpenSpec.ofChange fnPagesDropWrong)

/- THE SECOND FORM. 'bulk': how many values and letters a reading holds, each counted each time it is reached (what is shared counts as often as it is met; a slice's spare places count too). A statement '..UptoSaid' is the law's where the arguments, and the package variables that the reading takes, are together of bulk at most 1048576: NARROWER than '..Said'. Prove '..Said' where nothing that the law and all that it calls make is longer than what came in: it says more and counts as full. Else prove '..UptoSaid'. A law counts once. -/
mutual
def uptoBulk {H : Type} : DataW H → Nat
  | .lit (.string bytes) => bytes.length + 1
  | .lit _ => 1
  | .nil => 1
  | .ptr d => uptoBulk d + 1
  | .slice elems spare => uptoBulkAll elems + uptoBulkAll spare + 1
  | .agg parts => uptoBulkAll parts + 1
  | .iface _ d => uptoBulk d + 1
  | .map entries => uptoBulkEntries entries + 1
  | .held _ => 1
def uptoBulkAll {H : Type} : List (DataW H) → Nat
  | [] => 0
  | d :: r => uptoBulk d + uptoBulkAll r
def uptoBulkEntries {H : Type} : List (Lit × DataW H) → Nat
  | [] => 0
  | x :: r => uptoBulkEntry x + uptoBulkEntries r
def uptoBulkEntry {H : Type} : Lit × DataW H → Nat
  | (.string bytes, d) => bytes.length + uptoBulk d + 1
  | (_, d) => uptoBulk d + 1
 end
def uptoSmall : (H : Type) → List (DataW H) → Bool := fun _ ds => decide (uptoBulkAll ds ≤ 1048576)
def OpenSpec.upto (s : _root_.Go.ChangeSpec) : _root_.Go.OpenSpec := { _root_.Go.OpenSpec.ofChange s with cond := some uptoSmall }

/-- 'laws.FnExactApplyCommand', WHERE WHAT IT READS IS OF BULK AT MOST 1048576: true; the input reads as it did. -/
def fnExactApplyCommandUptoRow : OpenClaim := { program := "ythfmpcaflplnbaa", sum := "7ce1d134a28f5621858b626a2f7e1d8ca61214e74a761741dbcd089a906289ef", func := "loop.example/rangechains/laws.FnExactApplyCommand", spec := "fnExactApplyCommand", unfollowed := true, recurses := true, apart := false, narrowed := true }
def FnExactApplyCommandUptoSaid : Prop := fnExactApplyCommandUptoRow.holds Try.pinned (OpenSpec.upto fnExactApplyCommandSpec)

/-- 'laws.FnApplyCommand', WHERE WHAT IT READS IS OF BULK AT MOST 1048576: true; the input reads as it did. -/
def fnApplyCommandUptoRow : OpenClaim := { program := "ythfmpcaflplnbaa", sum := "7ce1d134a28f5621858b626a2f7e1d8ca61214e74a761741dbcd089a906289ef", func := "loop.example/rangechains/laws.FnApplyCommand", spec := "fnApplyCommand", unfollowed := true, recurses := true, apart := false, narrowed := true }
def FnApplyCommandUptoSaid : Prop := fnApplyCommandUptoRow.holds Try.pinned (OpenSpec.upto fnApplyCommandSpec)

/-- 'laws.FnExactRunCommands', WHERE WHAT IT READS IS OF BULK AT MOST 1048576: true; the input reads as it did. -/
def fnExactRunCommandsUptoRow : OpenClaim := { program := "ythfmpcaflplnbaa", sum := "7ce1d134a28f5621858b626a2f7e1d8ca61214e74a761741dbcd089a906289ef", func := "loop.example/rangechains/laws.FnExactRunCommands", spec := "fnExactRunCommands", unfollowed := true, recurses := true, apart := false, narrowed := true }
def FnExactRunCommandsUptoSaid : Prop := fnExactRunCommandsUptoRow.holds Try.pinned (OpenSpec.upto fnExactRunCommandsSpec)

/-- 'laws.FnRunCommands', WHERE WHAT IT READS IS OF BULK AT MOST 1048576: true; the input reads as it did. -/
def fnRunCommandsUptoRow : OpenClaim := { program := "ythfmpcaflplnbaa", sum := "7ce1d134a28f5621858b626a2f7e1d8ca61214e74a761741dbcd089a906289ef", func := "loop.example/rangechains/laws.FnRunCommands", spec := "fnRunCommands", unfollowed := true, recurses := true, apart := false, narrowed := true }
def FnRunCommandsUptoSaid : Prop := fnRunCommandsUptoRow.holds Try.pinned (OpenSpec.upto fnRunCommandsSpec)

/-- 'laws.FnPagesDrop', WHERE WHAT IT READS IS OF BULK AT MOST 1048576: true; the input reads as it did. -/
def fnPagesDropUptoRow : OpenClaim := { program := "ythfmpcaflplnbaa", sum := "7ce1d134a28f5621858b626a2f7e1d8ca61214e74a761741dbcd089a906289ef", func := "loop.example/rangechains/laws.FnPagesDrop", spec := "fnPagesDrop", unfollowed := true, recurses := true, apart := false, narrowed := true }
def FnPagesDropUptoSaid : Prop := fnPagesDropUptoRow.holds Try.pinned (OpenSpec.upto fnPagesDropSpec)

end Rows
end Go.Proofs.Ythfmpcaflplnbaa
