/-
  No cell of these rows narrows 'for every input' (looked for: loops, veiled, ifaces, maps, wideKeys, modest, calm, conditions, laid).
  DERIVED. THE GIVEN ROWS OF THIS SEAT. 6 by the template 'for every input the law returns true; each argument reads behind the call as it read before'; 0 by the template 'total and deterministic' (their statements: YtkfcmjdooldonaaTotals.lean).
  GIVEN WITH THE SEED: the statements are not yours to turn. If you find one false, say at which input.
  Laid BY PROGRAM, IN A SANDBOX (cutbox-rows.mjs): the forced cells as the released guide's own fill.sh prints them over the translation 37afb6d1a2ee3e14… (all of the seat's roots in one cut). By AI agents, Wed Nov 11 2026. No macro, syntax, notation, axiom, sorry.
-/
import Derived.Test.YtkfcmjdooldonaaChecked
import GoSem.Claim
import GoSem.ClaimJoined
import GoSem.ClaimMapViews
import Derived.JoinedTies
import Derived.KernelRfl
namespace Go.Proofs.Ytkfcmjdooldonaa
/- THE CELL 'sum', in the pinned program and in every row, IS THE sha256 OF THE DUMP (.gsa) THAT YtkfcmjdooldonaaProg.lean LOADS. Nothing in Lean hashes anything: it is a label: what it is worth is what the hold of that sum in a sandbox is worth. -/
noncomputable def Try.pinned : Pinned := { name := "ytkfcmjdooldonaa", sum := "37afb6d1a2ee3e1417897b039a9abedd76b92f3500a7f13fdb84484c9f52ea80", checked := Try.checked }
namespace Rows
def none {H : Type} : Left H := { results := [], args := [] }

/-- 'laws.FnLzShort': WHATEVER THE INPUT: true; the input reads as it did. -/
def fnLzShortSpec : ChangeSpec := { name := "fnLzShort", fn := fun _ => fun
  | [d1, d2] => { results := [.lit (.bool true)], args := [d1, d2] }
  | _ => none }
def fnLzShortRow : OpenClaim := { program := "ytkfcmjdooldonaa", sum := "37afb6d1a2ee3e1417897b039a9abedd76b92f3500a7f13fdb84484c9f52ea80", func := "loop.example/g00904/laws.FnLzShort", spec := "fnLzShort", inPlace := ["internal/abi.NoEscape"], apart := false }
def FnLzShortSaid : Prop := fnLzShortRow.holds Try.pinned (OpenSpec.ofChange fnLzShortSpec)

/-- ITS FALSE NEIGHBOUR: 'it returns false'. Refute it at one input. -/
def fnLzShortWrong : ChangeSpec := { name := "fnLzShort", fn := fun _ => fun
  | [d1, d2] => { results := [.lit (.bool false)], args := [d1, d2] }
  | _ => none }
def FnLzShortWrongFalsely : Prop := fnLzShortRow.holds Try.pinned (OpenSpec.ofChange fnLzShortWrong)

/-- 'laws.FnExactReadBlock': WHATEVER THE INPUT: true; the input reads as it did. -/
def fnExactReadBlockSpec : ChangeSpec := { name := "fnExactReadBlock", fn := fun _ => fun
  | [d1, d2] => { results := [.lit (.bool true)], args := [d1, d2] }
  | _ => none }
def fnExactReadBlockRow : OpenClaim := { program := "ytkfcmjdooldonaa", sum := "37afb6d1a2ee3e1417897b039a9abedd76b92f3500a7f13fdb84484c9f52ea80", func := "loop.example/g00904/laws.FnExactReadBlock", spec := "fnExactReadBlock", unfollowed := true, recurses := true, apart := false }
def FnExactReadBlockSaid : Prop := fnExactReadBlockRow.holds Try.pinned (OpenSpec.ofChange fnExactReadBlockSpec)

/-- ITS FALSE NEIGHBOUR: 'it returns false'. Refute it at one input. -/
def fnExactReadBlockWrong : ChangeSpec := { name := "fnExactReadBlock", fn := fun _ => fun
  | [d1, d2] => { results := [.lit (.bool false)], args := [d1, d2] }
  | _ => none }
def FnExactReadBlockWrongFalsely : Prop := fnExactReadBlockRow.holds Try.pinned (OpenSpec.ofChange fnExactReadBlockWrong)

/-- 'laws.FnDisk': WHATEVER THE INPUT: true; the input reads as it did. -/
def fnDiskSpec : ChangeSpec := { name := "fnDisk", fn := fun _ => fun
  | [d] => { results := [.lit (.bool true)], args := [d] }
  | _ => none }
def fnDiskRow : OpenClaim := { program := "ytkfcmjdooldonaa", sum := "37afb6d1a2ee3e1417897b039a9abedd76b92f3500a7f13fdb84484c9f52ea80", func := "loop.example/g00904/laws.FnDisk", spec := "fnDisk", unfollowed := true, recurses := true, apart := false }
def FnDiskSaid : Prop := fnDiskRow.holds Try.pinned (OpenSpec.ofChange fnDiskSpec)

/-- ITS FALSE NEIGHBOUR: 'it returns false'. Refute it at one input. -/
def fnDiskWrong : ChangeSpec := { name := "fnDisk", fn := fun _ => fun
  | [d] => { results := [.lit (.bool false)], args := [d] }
  | _ => none }
def FnDiskWrongFalsely : Prop := fnDiskRow.holds Try.pinned (OpenSpec.ofChange fnDiskWrong)

/-- 'laws.FnExactShiftSelection': WHATEVER THE INPUT: true; the input reads as it did. -/
def fnExactShiftSelectionSpec : ChangeSpec := { name := "fnExactShiftSelection", fn := fun _ => fun
  | [d1, d2] => { results := [.lit (.bool true)], args := [d1, d2] }
  | _ => none }
def fnExactShiftSelectionRow : OpenClaim := { program := "ytkfcmjdooldonaa", sum := "37afb6d1a2ee3e1417897b039a9abedd76b92f3500a7f13fdb84484c9f52ea80", func := "loop.example/g00904/laws.FnExactShiftSelection", spec := "fnExactShiftSelection", unfollowed := true, recurses := true, apart := false }
def FnExactShiftSelectionSaid : Prop := fnExactShiftSelectionRow.holds Try.pinned (OpenSpec.ofChange fnExactShiftSelectionSpec)

/-- ITS FALSE NEIGHBOUR: 'it returns false'. Refute it at one input. -/
def fnExactShiftSelectionWrong : ChangeSpec := { name := "fnExactShiftSelection", fn := fun _ => fun
  | [d1, d2] => { results := [.lit (.bool false)], args := [d1, d2] }
  | _ => none }
def FnExactShiftSelectionWrongFalsely : Prop := fnExactShiftSelectionRow.holds Try.pinned (OpenSpec.ofChange fnExactShiftSelectionWrong)

/-- 'laws.FnNodes': WHATEVER THE INPUT: true; the input reads as it did. -/
def fnNodesSpec : ChangeSpec := { name := "fnNodes", fn := fun _ => fun
  | [d1, d2] => { results := [.lit (.bool true)], args := [d1, d2] }
  | _ => none }
def fnNodesRow : OpenClaim := { program := "ytkfcmjdooldonaa", sum := "37afb6d1a2ee3e1417897b039a9abedd76b92f3500a7f13fdb84484c9f52ea80", func := "loop.example/g00904/laws.FnNodes", spec := "fnNodes", inPlace := ["internal/abi.NoEscape", "internal/bytealg.MakeNoZero"], unfollowed := true, recurses := true, apart := false }
def FnNodesSaid : Prop := fnNodesRow.holds Try.pinned (OpenSpec.ofChange fnNodesSpec)

/-- ITS FALSE NEIGHBOUR: 'it returns false'. Refute it at one input. -/
def fnNodesWrong : ChangeSpec := { name := "fnNodes", fn := fun _ => fun
  | [d1, d2] => { results := [.lit (.bool false)], args := [d1, d2] }
  | _ => none }
def FnNodesWrongFalsely : Prop := fnNodesRow.holds Try.pinned (OpenSpec.ofChange fnNodesWrong)

/-- 'laws.FnExactDecodeNode': WHATEVER THE INPUT: true; the input reads as it did. -/
def fnExactDecodeNodeSpec : ChangeSpec := { name := "fnExactDecodeNode", fn := fun _ => fun
  | [d] => { results := [.lit (.bool true)], args := [d] }
  | _ => none }
def fnExactDecodeNodeRow : OpenClaim := { program := "ytkfcmjdooldonaa", sum := "37afb6d1a2ee3e1417897b039a9abedd76b92f3500a7f13fdb84484c9f52ea80", func := "loop.example/g00904/laws.FnExactDecodeNode", spec := "fnExactDecodeNode", inPlace := ["internal/abi.NoEscape", "internal/bytealg.MakeNoZero"], unfollowed := true, recurses := true, apart := false }
def FnExactDecodeNodeSaid : Prop := fnExactDecodeNodeRow.holds Try.pinned (OpenSpec.ofChange fnExactDecodeNodeSpec)

/-- ITS FALSE NEIGHBOUR: 'it returns false'. Refute it at one input. -/
def fnExactDecodeNodeWrong : ChangeSpec := { name := "fnExactDecodeNode", fn := fun _ => fun
  | [d] => { results := [.lit (.bool false)], args := [d] }
  | _ => none }
def FnExactDecodeNodeWrongFalsely : Prop := fnExactDecodeNodeRow.holds Try.pinned (OpenSpec.ofChange fnExactDecodeNodeWrong)

/- THE SECOND FORM. 'bulk': how many values and letters a reading holds, each counted each time it is reached (what is shared counts as often as it is met; a slice's spare places count too). A statement '..UptoSaid' is the law's where the arguments, and the package variables that the reading takes, are together of bulk at most 1048576: NARROWER than '..Said'. Prove '..Said' where nothing that the law and all that it calls make is longer than what came in: it says more and counts as full. Else prove '..UptoSaid'. A law counts once. -/
mutual
def uptoBulk {H : Type} : DataW H → Nat
  | .lit (.string bytes) => bytes.length + 1
  | .lit _ => 1
  | .nil => 1
  | .ptr d => uptoBulk d + 1
  | .slice elems spare => uptoBulkAll elems + uptoBulkAll spare + 1
  | .agg parts => uptoBulkAll parts + 1
  | .iface _ d => uptoBulk d + 1
  | .map entries => uptoBulkEntries entries + 1
  | .held _ => 1
def uptoBulkAll {H : Type} : List (DataW H) → Nat
  | [] => 0
  | d :: r => uptoBulk d + uptoBulkAll r
def uptoBulkEntries {H : Type} : List (Lit × DataW H) → Nat
  | [] => 0
  | x :: r => uptoBulkEntry x + uptoBulkEntries r
def uptoBulkEntry {H : Type} : Lit × DataW H → Nat
  | (.string bytes, d) => bytes.length + uptoBulk d + 1
  | (_, d) => uptoBulk d + 1
 end
def uptoSmall : (H : Type) → List (DataW H) → Bool := fun _ ds => decide (uptoBulkAll ds ≤ 1048576)
def OpenSpec.upto (s : _root_.Go.ChangeSpec) : _root_.Go.OpenSpec := { _root_.Go.OpenSpec.ofChange s with cond := some uptoSmall }

/-- 'laws.FnLzShort', WHERE WHAT IT READS IS OF BULK AT MOST 1048576: true; the input reads as it did. -/
def fnLzShortUptoRow : OpenClaim := { program := "ytkfcmjdooldonaa", sum := "37afb6d1a2ee3e1417897b039a9abedd76b92f3500a7f13fdb84484c9f52ea80", func := "loop.example/g00904/laws.FnLzShort", spec := "fnLzShort", inPlace := ["internal/abi.NoEscape"], apart := false, narrowed := true }
def FnLzShortUptoSaid : Prop := fnLzShortUptoRow.holds Try.pinned (OpenSpec.upto fnLzShortSpec)

/-- 'laws.FnExactReadBlock', WHERE WHAT IT READS IS OF BULK AT MOST 1048576: true; the input reads as it did. -/
def fnExactReadBlockUptoRow : OpenClaim := { program := "ytkfcmjdooldonaa", sum := "37afb6d1a2ee3e1417897b039a9abedd76b92f3500a7f13fdb84484c9f52ea80", func := "loop.example/g00904/laws.FnExactReadBlock", spec := "fnExactReadBlock", unfollowed := true, recurses := true, apart := false, narrowed := true }
def FnExactReadBlockUptoSaid : Prop := fnExactReadBlockUptoRow.holds Try.pinned (OpenSpec.upto fnExactReadBlockSpec)

/-- 'laws.FnDisk', WHERE WHAT IT READS IS OF BULK AT MOST 1048576: true; the input reads as it did. -/
def fnDiskUptoRow : OpenClaim := { program := "ytkfcmjdooldonaa", sum := "37afb6d1a2ee3e1417897b039a9abedd76b92f3500a7f13fdb84484c9f52ea80", func := "loop.example/g00904/laws.FnDisk", spec := "fnDisk", unfollowed := true, recurses := true, apart := false, narrowed := true }
def FnDiskUptoSaid : Prop := fnDiskUptoRow.holds Try.pinned (OpenSpec.upto fnDiskSpec)

/-- 'laws.FnExactShiftSelection', WHERE WHAT IT READS IS OF BULK AT MOST 1048576: true; the input reads as it did. -/
def fnExactShiftSelectionUptoRow : OpenClaim := { program := "ytkfcmjdooldonaa", sum := "37afb6d1a2ee3e1417897b039a9abedd76b92f3500a7f13fdb84484c9f52ea80", func := "loop.example/g00904/laws.FnExactShiftSelection", spec := "fnExactShiftSelection", unfollowed := true, recurses := true, apart := false, narrowed := true }
def FnExactShiftSelectionUptoSaid : Prop := fnExactShiftSelectionUptoRow.holds Try.pinned (OpenSpec.upto fnExactShiftSelectionSpec)

/-- 'laws.FnNodes', WHERE WHAT IT READS IS OF BULK AT MOST 1048576: true; the input reads as it did. -/
def fnNodesUptoRow : OpenClaim := { program := "ytkfcmjdooldonaa", sum := "37afb6d1a2ee3e1417897b039a9abedd76b92f3500a7f13fdb84484c9f52ea80", func := "loop.example/g00904/laws.FnNodes", spec := "fnNodes", inPlace := ["internal/abi.NoEscape", "internal/bytealg.MakeNoZero"], unfollowed := true, recurses := true, apart := false, narrowed := true }
def FnNodesUptoSaid : Prop := fnNodesUptoRow.holds Try.pinned (OpenSpec.upto fnNodesSpec)

/-- 'laws.FnExactDecodeNode', WHERE WHAT IT READS IS OF BULK AT MOST 1048576: true; the input reads as it did. -/
def fnExactDecodeNodeUptoRow : OpenClaim := { program := "ytkfcmjdooldonaa", sum := "37afb6d1a2ee3e1417897b039a9abedd76b92f3500a7f13fdb84484c9f52ea80", func := "loop.example/g00904/laws.FnExactDecodeNode", spec := "fnExactDecodeNode", inPlace := ["internal/abi.NoEscape", "internal/bytealg.MakeNoZero"], unfollowed := true, recurses := true, apart := false, narrowed := true }
def FnExactDecodeNodeUptoSaid : Prop := fnExactDecodeNodeUptoRow.holds Try.pinned (OpenSpec.upto fnExactDecodeNodeSpec)

end Rows
end Go.Proofs.Ytkfcmjdooldonaa
