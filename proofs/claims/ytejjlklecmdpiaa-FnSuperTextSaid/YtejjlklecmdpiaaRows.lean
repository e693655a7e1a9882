/-
  No cell of these rows narrows 'for every input' (looked for: loops, veiled, ifaces, maps, wideKeys, modest, calm, conditions, laid).
  DERIVED. THE GIVEN ROWS OF THIS SEAT. 6 by the template 'for every input the law returns true; each argument reads behind the call as it read before'; 0 by the template 'total and deterministic' (their statements: YtejjlklecmdpiaaTotals.lean).
  GIVEN WITH THE SEED: the statements are not yours to turn. If you find one false, say at which input.
  Laid BY PROGRAM, IN A SANDBOX (cutbox-rows.mjs): the forced cells as the released guide's own fill.sh prints them over the translation 5e5d7e40ab573730… (all of the seat's roots in one cut). By AI agents, Wed Nov 11 2026. No macro, syntax, notation, axiom, sorry.
-/
import Derived.Test.YtejjlklecmdpiaaChecked
import GoSem.Claim
import GoSem.ClaimJoined
import GoSem.ClaimMapViews
import Derived.JoinedTies
import Derived.KernelRfl
namespace Go.Proofs.Ytejjlklecmdpiaa
/- THE CELL 'sum', in the pinned program and in every row, IS THE sha256 OF THE DUMP (.gsa) THAT YtejjlklecmdpiaaProg.lean LOADS. Nothing in Lean hashes anything: it is a label: what it is worth is what the hold of that sum in a sandbox is worth. -/
noncomputable def Try.pinned : Pinned := { name := "ytejjlklecmdpiaa", sum := "5e5d7e40ab57373097cc26bee8302ddae1c910155d8ecb723bbcf58281e1c891", checked := Try.checked }
namespace Rows
def none {H : Type} : Left H := { results := [], args := [] }

/-- 'laws.FnDisk': WHATEVER THE INPUT: true; the input reads as it did. -/
def fnDiskSpec : ChangeSpec := { name := "fnDisk", fn := fun _ => fun
  | [d] => { results := [.lit (.bool true)], args := [d] }
  | _ => none }
def fnDiskRow : OpenClaim := { program := "ytejjlklecmdpiaa", sum := "5e5d7e40ab57373097cc26bee8302ddae1c910155d8ecb723bbcf58281e1c891", func := "loop.example/g00904/laws.FnDisk", spec := "fnDisk", unfollowed := true, recurses := true, apart := false }
def FnDiskSaid : Prop := fnDiskRow.holds Try.pinned (OpenSpec.ofChange fnDiskSpec)

/-- ITS FALSE NEIGHBOUR: 'it returns false'. Refute it at one input. -/
def fnDiskWrong : ChangeSpec := { name := "fnDisk", fn := fun _ => fun
  | [d] => { results := [.lit (.bool false)], args := [d] }
  | _ => none }
def FnDiskWrongFalsely : Prop := fnDiskRow.holds Try.pinned (OpenSpec.ofChange fnDiskWrong)

/-- 'laws.FnExactSetFuse': WHATEVER THE INPUT: true; the input reads as it did. -/
def fnExactSetFuseSpec : ChangeSpec := { name := "fnExactSetFuse", fn := fun _ => fun
  | [d1, d2] => { results := [.lit (.bool true)], args := [d1, d2] }
  | _ => none }
def fnExactSetFuseRow : OpenClaim := { program := "ytejjlklecmdpiaa", sum := "5e5d7e40ab57373097cc26bee8302ddae1c910155d8ecb723bbcf58281e1c891", func := "loop.example/g00904/laws.FnExactSetFuse", spec := "fnExactSetFuse", unfollowed := true, recurses := true, apart := false }
def FnExactSetFuseSaid : Prop := fnExactSetFuseRow.holds Try.pinned (OpenSpec.ofChange fnExactSetFuseSpec)

/-- ITS FALSE NEIGHBOUR: 'it returns false'. Refute it at one input. -/
def fnExactSetFuseWrong : ChangeSpec := { name := "fnExactSetFuse", fn := fun _ => fun
  | [d1, d2] => { results := [.lit (.bool false)], args := [d1, d2] }
  | _ => none }
def FnExactSetFuseWrongFalsely : Prop := fnExactSetFuseRow.holds Try.pinned (OpenSpec.ofChange fnExactSetFuseWrong)

/-- 'laws.FnExactDecodeSuper': WHATEVER THE INPUT: true; the input reads as it did. -/
def fnExactDecodeSuperSpec : ChangeSpec := { name := "fnExactDecodeSuper", fn := fun _ => fun
  | [d] => { results := [.lit (.bool true)], args := [d] }
  | _ => none }
def fnExactDecodeSuperRow : OpenClaim := { program := "ytejjlklecmdpiaa", sum := "5e5d7e40ab57373097cc26bee8302ddae1c910155d8ecb723bbcf58281e1c891", func := "loop.example/g00904/laws.FnExactDecodeSuper", spec := "fnExactDecodeSuper", inPlace := ["internal/abi.NoEscape", "internal/bytealg.MakeNoZero"], apart := false }
def FnExactDecodeSuperSaid : Prop := fnExactDecodeSuperRow.holds Try.pinned (OpenSpec.ofChange fnExactDecodeSuperSpec)

/-- ITS FALSE NEIGHBOUR: 'it returns false'. Refute it at one input. -/
def fnExactDecodeSuperWrong : ChangeSpec := { name := "fnExactDecodeSuper", fn := fun _ => fun
  | [d] => { results := [.lit (.bool false)], args := [d] }
  | _ => none }
def FnExactDecodeSuperWrongFalsely : Prop := fnExactDecodeSuperRow.holds Try.pinned (OpenSpec.ofChange fnExactDecodeSuperWrong)

/-- 'laws.FnHeap': WHATEVER THE INPUT: true; the input reads as it did. -/
def fnHeapSpec : ChangeSpec := { name := "fnHeap", fn := fun _ => fun
  | [d] => { results := [.lit (.bool true)], args := [d] }
  | _ => none }
def fnHeapRow : OpenClaim := { program := "ytejjlklecmdpiaa", sum := "5e5d7e40ab57373097cc26bee8302ddae1c910155d8ecb723bbcf58281e1c891", func := "loop.example/g00904/laws.FnHeap", spec := "fnHeap", unfollowed := true, recurses := true, apart := false }
def FnHeapSaid : Prop := fnHeapRow.holds Try.pinned (OpenSpec.ofChange fnHeapSpec)

/-- ITS FALSE NEIGHBOUR: 'it returns false'. Refute it at one input. -/
def fnHeapWrong : ChangeSpec := { name := "fnHeap", fn := fun _ => fun
  | [d] => { results := [.lit (.bool false)], args := [d] }
  | _ => none }
def FnHeapWrongFalsely : Prop := fnHeapRow.holds Try.pinned (OpenSpec.ofChange fnHeapWrong)

/-- 'laws.FnSuperText': WHATEVER THE INPUT: true; the input reads as it did. -/
def fnSuperTextSpec : ChangeSpec := { name := "fnSuperText", fn := fun _ => fun
  | [d1, d2] => { results := [.lit (.bool true)], args := [d1, d2] }
  | _ => none }
def fnSuperTextRow : OpenClaim := { program := "ytejjlklecmdpiaa", sum := "5e5d7e40ab57373097cc26bee8302ddae1c910155d8ecb723bbcf58281e1c891", func := "loop.example/g00904/laws.FnSuperText", spec := "fnSuperText", inPlace := ["internal/abi.NoEscape", "internal/bytealg.MakeNoZero"], apart := false }
def FnSuperTextSaid : Prop := fnSuperTextRow.holds Try.pinned (OpenSpec.ofChange fnSuperTextSpec)

/-- ITS FALSE NEIGHBOUR: 'it returns false'. Refute it at one input. -/
def fnSuperTextWrong : ChangeSpec := { name := "fnSuperText", fn := fun _ => fun
  | [d1, d2] => { results := [.lit (.bool false)], args := [d1, d2] }
  | _ => none }
def FnSuperTextWrongFalsely : Prop := fnSuperTextRow.holds Try.pinned (OpenSpec.ofChange fnSuperTextWrong)

/-- 'laws.FnExactBarrier': WHATEVER THE INPUT: true; the input reads as it did. -/
def fnExactBarrierSpec : ChangeSpec := { name := "fnExactBarrier", fn := fun _ => fun
  | [d] => { results := [.lit (.bool true)], args := [d] }
  | _ => none }
def fnExactBarrierRow : OpenClaim := { program := "ytejjlklecmdpiaa", sum := "5e5d7e40ab57373097cc26bee8302ddae1c910155d8ecb723bbcf58281e1c891", func := "loop.example/g00904/laws.FnExactBarrier", spec := "fnExactBarrier", unfollowed := true, recurses := true, apart := false }
def FnExactBarrierSaid : Prop := fnExactBarrierRow.holds Try.pinned (OpenSpec.ofChange fnExactBarrierSpec)

/-- ITS FALSE NEIGHBOUR: 'it returns false'. Refute it at one input. -/
def fnExactBarrierWrong : ChangeSpec := { name := "fnExactBarrier", fn := fun _ => fun
  | [d] => { results := [.lit (.bool false)], args := [d] }
  | _ => none }
def FnExactBarrierWrongFalsely : Prop := fnExactBarrierRow.holds Try.pinned (OpenSpec.ofChange fnExactBarrierWrong)

/- THE SECOND FORM. 'bulk': how many values and letters a reading holds, each counted each time it is reached (what is shared counts as often as it is met; a slice's spare places count too). A statement '..UptoSaid' is the law's where the arguments, and the package variables that the reading takes, are together of bulk at most 1048576: NARROWER than '..Said'. Prove '..Said' where nothing that the law and all that it calls make is longer than what came in: it says more and counts as full. Else prove '..UptoSaid'. A law counts once. -/
mutual
def uptoBulk {H : Type} : DataW H → Nat
  | .lit (.string bytes) => bytes.length + 1
  | .lit _ => 1
  | .nil => 1
  | .ptr d => uptoBulk d + 1
  | .slice elems spare => uptoBulkAll elems + uptoBulkAll spare + 1
  | .agg parts => uptoBulkAll parts + 1
  | .iface _ d => uptoBulk d + 1
  | .map entries => uptoBulkEntries entries + 1
  | .held _ => 1
def uptoBulkAll {H : Type} : List (DataW H) → Nat
  | [] => 0
  | d :: r => uptoBulk d + uptoBulkAll r
def uptoBulkEntries {H : Type} : List (Lit × DataW H) → Nat
  | [] => 0
  | x :: r => uptoBulkEntry x + uptoBulkEntries r
def uptoBulkEntry {H : Type} : Lit × DataW H → Nat
  | (.string bytes, d) => bytes.length + uptoBulk d + 1
  | (_, d) => uptoBulk d + 1
 end
def uptoSmall : (H : Type) → List (DataW H) → Bool := fun _ ds => decide (uptoBulkAll ds ≤ 1048576)
def OpenSpec.upto (s : _root_.Go.ChangeSpec) : _root_.Go.OpenSpec := { _root_.Go.OpenSpec.ofChange s with cond := some uptoSmall }

/-- 'laws.FnDisk', WHERE WHAT IT READS IS OF BULK AT MOST 1048576: true; the input reads as it did. -/
def fnDiskUptoRow : OpenClaim := { program := "ytejjlklecmdpiaa", sum := "5e5d7e40ab57373097cc26bee8302ddae1c910155d8ecb723bbcf58281e1c891", func := "loop.example/g00904/laws.FnDisk", spec := "fnDisk", unfollowed := true, recurses := true, apart := false, narrowed := true }
def FnDiskUptoSaid : Prop := fnDiskUptoRow.holds Try.pinned (OpenSpec.upto fnDiskSpec)

/-- 'laws.FnExactSetFuse', WHERE WHAT IT READS IS OF BULK AT MOST 1048576: true; the input reads as it did. -/
def fnExactSetFuseUptoRow : OpenClaim := { program := "ytejjlklecmdpiaa", sum := "5e5d7e40ab57373097cc26bee8302ddae1c910155d8ecb723bbcf58281e1c891", func := "loop.example/g00904/laws.FnExactSetFuse", spec := "fnExactSetFuse", unfollowed := true, recurses := true, apart := false, narrowed := true }
def FnExactSetFuseUptoSaid : Prop := fnExactSetFuseUptoRow.holds Try.pinned (OpenSpec.upto fnExactSetFuseSpec)

/-- 'laws.FnExactDecodeSuper', WHERE WHAT IT READS IS OF BULK AT MOST 1048576: true; the input reads as it did. -/
def fnExactDecodeSuperUptoRow : OpenClaim := { program := "ytejjlklecmdpiaa", sum := "5e5d7e40ab57373097cc26bee8302ddae1c910155d8ecb723bbcf58281e1c891", func := "loop.example/g00904/laws.FnExactDecodeSuper", spec := "fnExactDecodeSuper", inPlace := ["internal/abi.NoEscape", "internal/bytealg.MakeNoZero"], apart := false, narrowed := true }
def FnExactDecodeSuperUptoSaid : Prop := fnExactDecodeSuperUptoRow.holds Try.pinned (OpenSpec.upto fnExactDecodeSuperSpec)

/-- 'laws.FnHeap', WHERE WHAT IT READS IS OF BULK AT MOST 1048576: true; the input reads as it did. -/
def fnHeapUptoRow : OpenClaim := { program := "ytejjlklecmdpiaa", sum := "5e5d7e40ab57373097cc26bee8302ddae1c910155d8ecb723bbcf58281e1c891", func := "loop.example/g00904/laws.FnHeap", spec := "fnHeap", unfollowed := true, recurses := true, apart := false, narrowed := true }
def FnHeapUptoSaid : Prop := fnHeapUptoRow.holds Try.pinned (OpenSpec.upto fnHeapSpec)

/-- 'laws.FnSuperText', WHERE WHAT IT READS IS OF BULK AT MOST 1048576: true; the input reads as it did. -/
def fnSuperTextUptoRow : OpenClaim := { program := "ytejjlklecmdpiaa", sum := "5e5d7e40ab57373097cc26bee8302ddae1c910155d8ecb723bbcf58281e1c891", func := "loop.example/g00904/laws.FnSuperText", spec := "fnSuperText", inPlace := ["internal/abi.NoEscape", "internal/bytealg.MakeNoZero"], apart := false, narrowed := true }
def FnSuperTextUptoSaid : Prop := fnSuperTextUptoRow.holds Try.pinned (OpenSpec.upto fnSuperTextSpec)

/-- 'laws.FnExactBarrier', WHERE WHAT IT READS IS OF BULK AT MOST 1048576: true; the input reads as it did. -/
def fnExactBarrierUptoRow : OpenClaim := { program := "ytejjlklecmdpiaa", sum := "5e5d7e40ab57373097cc26bee8302ddae1c910155d8ecb723bbcf58281e1c891", func := "loop.example/g00904/laws.FnExactBarrier", spec := "fnExactBarrier", unfollowed := true, recurses := true, apart := false, narrowed := true }
def FnExactBarrierUptoSaid : Prop := fnExactBarrierUptoRow.holds Try.pinned (OpenSpec.upto fnExactBarrierSpec)

end Rows
end Go.Proofs.Ytejjlklecmdpiaa
