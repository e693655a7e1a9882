/-
  No cell of these rows narrows 'for every input' (looked for: loops, veiled, ifaces, maps, wideKeys, modest, calm, conditions, laid).
  DERIVED. THE GIVEN ROWS OF THIS SEAT. 5 by the template 'for every input the law returns true; each argument reads behind the call as it read before'; 0 by the template 'total and deterministic' (their statements: YtlcbbiiohhplfabTotals.lean).
  GIVEN WITH THE SEED: the statements are not yours to turn. If you find one false, say at which input.
  Laid BY PROGRAM, IN A SANDBOX (cutbox-rows.mjs): the forced cells as the released guide's own fill.sh prints them over the translation ee9f909457935a4e… (all of the seat's roots in one cut). By AI agents, Wed Nov 11 2026. No macro, syntax, notation, axiom, sorry.
-/
import Derived.Test.YtlcbbiiohhplfabChecked
import GoSem.Claim
import GoSem.ClaimJoined
import GoSem.ClaimMapViews
import Derived.JoinedTies
import Derived.KernelRfl
namespace Go.Proofs.Ytlcbbiiohhplfab
/- THE CELL 'sum', in the pinned program and in every row, IS THE sha256 OF THE DUMP (.gsa) THAT YtlcbbiiohhplfabProg.lean LOADS. Nothing in Lean hashes anything: it is a label: what it is worth is what the hold of that sum in a sandbox is worth. -/
noncomputable def Try.pinned : Pinned := { name := "ytlcbbiiohhplfab", sum := "ee9f909457935a4ee4ab1d110ccb7ee2069b20741d32b313ef0b3944e657b7ab", checked := Try.checked }
namespace Rows
def none {H : Type} : Left H := { results := [], args := [] }

/-- 'laws.FnExactDecodePipeline': WHATEVER THE INPUT: true; the input reads as it did. -/
def fnExactDecodePipelineSpec : ChangeSpec := { name := "fnExactDecodePipeline", fn := fun _ => fun
  | [d] => { results := [.lit (.bool true)], args := [d] }
  | _ => none }
def fnExactDecodePipelineRow : OpenClaim := { program := "ytlcbbiiohhplfab", sum := "ee9f909457935a4ee4ab1d110ccb7ee2069b20741d32b313ef0b3944e657b7ab", func := "loop.example/g00904/laws.FnExactDecodePipeline", spec := "fnExactDecodePipeline", unfollowed := true, recurses := true, apart := false }
def FnExactDecodePipelineSaid : Prop := fnExactDecodePipelineRow.holds Try.pinned (OpenSpec.ofChange fnExactDecodePipelineSpec)

/-- ITS FALSE NEIGHBOUR: 'it returns false'. Refute it at one input. -/
def fnExactDecodePipelineWrong : ChangeSpec := { name := "fnExactDecodePipeline", fn := fun _ => fun
  | [d] => { results := [.lit (.bool false)], args := [d] }
  | _ => none }
def FnExactDecodePipelineWrongFalsely : Prop := fnExactDecodePipelineRow.holds Try.pinned (OpenSpec.ofChange fnExactDecodePipelineWrong)

/-- 'laws.FnLzShort': WHATEVER THE INPUT: true; the input reads as it did. -/
def fnLzShortSpec : ChangeSpec := { name := "fnLzShort", fn := fun _ => fun
  | [d1, d2] => { results := [.lit (.bool true)], args := [d1, d2] }
  | _ => none }
def fnLzShortRow : OpenClaim := { program := "ytlcbbiiohhplfab", sum := "ee9f909457935a4ee4ab1d110ccb7ee2069b20741d32b313ef0b3944e657b7ab", func := "loop.example/g00904/laws.FnLzShort", spec := "fnLzShort", inPlace := ["internal/abi.NoEscape"], apart := false }
def FnLzShortSaid : Prop := fnLzShortRow.holds Try.pinned (OpenSpec.ofChange fnLzShortSpec)

/-- ITS FALSE NEIGHBOUR: 'it returns false'. Refute it at one input. -/
def fnLzShortWrong : ChangeSpec := { name := "fnLzShort", fn := fun _ => fun
  | [d1, d2] => { results := [.lit (.bool false)], args := [d1, d2] }
  | _ => none }
def FnLzShortWrongFalsely : Prop := fnLzShortRow.holds Try.pinned (OpenSpec.ofChange fnLzShortWrong)

/-- 'laws.FnExactDecodeSpace': WHATEVER THE INPUT: true; the input reads as it did. -/
def fnExactDecodeSpaceSpec : ChangeSpec := { name := "fnExactDecodeSpace", fn := fun _ => fun
  | [d] => { results := [.lit (.bool true)], args := [d] }
  | _ => none }
def fnExactDecodeSpaceRow : OpenClaim := { program := "ytlcbbiiohhplfab", sum := "ee9f909457935a4ee4ab1d110ccb7ee2069b20741d32b313ef0b3944e657b7ab", func := "loop.example/g00904/laws.FnExactDecodeSpace", spec := "fnExactDecodeSpace", unfollowed := true, recurses := true, apart := false }
def FnExactDecodeSpaceSaid : Prop := fnExactDecodeSpaceRow.holds Try.pinned (OpenSpec.ofChange fnExactDecodeSpaceSpec)

/-- ITS FALSE NEIGHBOUR: 'it returns false'. Refute it at one input. -/
def fnExactDecodeSpaceWrong : ChangeSpec := { name := "fnExactDecodeSpace", fn := fun _ => fun
  | [d] => { results := [.lit (.bool false)], args := [d] }
  | _ => none }
def FnExactDecodeSpaceWrongFalsely : Prop := fnExactDecodeSpaceRow.holds Try.pinned (OpenSpec.ofChange fnExactDecodeSpaceWrong)

/-- 'laws.FnExactReadBlock': WHATEVER THE INPUT: true; the input reads as it did. -/
def fnExactReadBlockSpec : ChangeSpec := { name := "fnExactReadBlock", fn := fun _ => fun
  | [d1, d2] => { results := [.lit (.bool true)], args := [d1, d2] }
  | _ => none }
def fnExactReadBlockRow : OpenClaim := { program := "ytlcbbiiohhplfab", sum := "ee9f909457935a4ee4ab1d110ccb7ee2069b20741d32b313ef0b3944e657b7ab", func := "loop.example/g00904/laws.FnExactReadBlock", spec := "fnExactReadBlock", unfollowed := true, recurses := true, apart := false }
def FnExactReadBlockSaid : Prop := fnExactReadBlockRow.holds Try.pinned (OpenSpec.ofChange fnExactReadBlockSpec)

/-- ITS FALSE NEIGHBOUR: 'it returns false'. Refute it at one input. -/
def fnExactReadBlockWrong : ChangeSpec := { name := "fnExactReadBlock", fn := fun _ => fun
  | [d1, d2] => { results := [.lit (.bool false)], args := [d1, d2] }
  | _ => none }
def FnExactReadBlockWrongFalsely : Prop := fnExactReadBlockRow.holds Try.pinned (OpenSpec.ofChange fnExactReadBlockWrong)

/-- 'laws.FnHeaderText': WHATEVER THE INPUT: true; the input reads as it did. -/
def fnHeaderTextSpec : ChangeSpec := { name := "fnHeaderText", fn := fun _ => fun
  | [d1, d2] => { results := [.lit (.bool true)], args := [d1, d2] }
  | _ => none }
def fnHeaderTextRow : OpenClaim := { program := "ytlcbbiiohhplfab", sum := "ee9f909457935a4ee4ab1d110ccb7ee2069b20741d32b313ef0b3944e657b7ab", func := "loop.example/g00904/laws.FnHeaderText", spec := "fnHeaderText", inPlace := ["internal/abi.NoEscape"], unfollowed := true, recurses := true, apart := false }
def FnHeaderTextSaid : Prop := fnHeaderTextRow.holds Try.pinned (OpenSpec.ofChange fnHeaderTextSpec)

/-- ITS FALSE NEIGHBOUR: 'it returns false'. Refute it at one input. -/
def fnHeaderTextWrong : ChangeSpec := { name := "fnHeaderText", fn := fun _ => fun
  | [d1, d2] => { results := [.lit (.bool false)], args := [d1, d2] }
  | _ => none }
def FnHeaderTextWrongFalsely : Prop := fnHeaderTextRow.holds Try.pinned (OpenSpec.ofChange fnHeaderTextWrong)

/- THE SECOND FORM. 'bulk': how many values and letters a reading holds, each counted each time it is reached (what is shared counts as often as it is met; a slice's spare places count too). A statement '..UptoSaid' is the law's where the arguments, and the package variables that the reading takes, are together of bulk at most 1048576: NARROWER than '..Said'. Prove '..Said' where nothing that the law and all that it calls make is longer than what came in: it says more and counts as full. Else prove '..UptoSaid'. A law counts once. -/
mutual
def uptoBulk {H : Type} : DataW H → Nat
  | .lit (.string bytes) => bytes.length + 1
  | .lit _ => 1
  | .nil => 1
  | .ptr d => uptoBulk d + 1
  | .slice elems spare => uptoBulkAll elems + uptoBulkAll spare + 1
  | .agg parts => uptoBulkAll parts + 1
  | .iface _ d => uptoBulk d + 1
  | .map entries => uptoBulkEntries entries + 1
  | .held _ => 1
def uptoBulkAll {H : Type} : List (DataW H) → Nat
  | [] => 0
  | d :: r => uptoBulk d + uptoBulkAll r
def uptoBulkEntries {H : Type} : List (Lit × DataW H) → Nat
  | [] => 0
  | x :: r => uptoBulkEntry x + uptoBulkEntries r
def uptoBulkEntry {H : Type} : Lit × DataW H → Nat
  | (.string bytes, d) => bytes.length + uptoBulk d + 1
  | (_, d) => uptoBulk d + 1
 end
def uptoSmall : (H : Type) → List (DataW H) → Bool := fun _ ds => decide (uptoBulkAll ds ≤ 1048576)
def OpenSpec.upto (s : _root_.Go.ChangeSpec) : _root_.Go.OpenSpec := { _root_.Go.OpenSpec.ofChange s with cond := some uptoSmall }

/-- 'laws.FnExactDecodePipeline', WHERE WHAT IT READS IS OF BULK AT MOST 1048576: true; the input reads as it did. -/
def fnExactDecodePipelineUptoRow : OpenClaim := { program := "ytlcbbiiohhplfab", sum := "ee9f909457935a4ee4ab1d110ccb7ee2069b20741d32b313ef0b3944e657b7ab", func := "loop.example/g00904/laws.FnExactDecodePipeline", spec := "fnExactDecodePipeline", unfollowed := true, recurses := true, apart := false, narrowed := true }
def FnExactDecodePipelineUptoSaid : Prop := fnExactDecodePipelineUptoRow.holds Try.pinned (OpenSpec.upto fnExactDecodePipelineSpec)

/-- 'laws.FnLzShort', WHERE WHAT IT READS IS OF BULK AT MOST 1048576: true; the input reads as it did. -/
def fnLzShortUptoRow : OpenClaim := { program := "ytlcbbiiohhplfab", sum := "ee9f909457935a4ee4ab1d110ccb7ee2069b20741d32b313ef0b3944e657b7ab", func := "loop.example/g00904/laws.FnLzShort", spec := "fnLzShort", inPlace := ["internal/abi.NoEscape"], apart := false, narrowed := true }
def FnLzShortUptoSaid : Prop := fnLzShortUptoRow.holds Try.pinned (OpenSpec.upto fnLzShortSpec)

/-- 'laws.FnExactDecodeSpace', WHERE WHAT IT READS IS OF BULK AT MOST 1048576: true; the input reads as it did. -/
def fnExactDecodeSpaceUptoRow : OpenClaim := { program := "ytlcbbiiohhplfab", sum := "ee9f909457935a4ee4ab1d110ccb7ee2069b20741d32b313ef0b3944e657b7ab", func := "loop.example/g00904/laws.FnExactDecodeSpace", spec := "fnExactDecodeSpace", unfollowed := true, recurses := true, apart := false, narrowed := true }
def FnExactDecodeSpaceUptoSaid : Prop := fnExactDecodeSpaceUptoRow.holds Try.pinned (OpenSpec.upto fnExactDecodeSpaceSpec)

/-- 'laws.FnExactReadBlock', WHERE WHAT IT READS IS OF BULK AT MOST 1048576: true; the input reads as it did. -/
def fnExactReadBlockUptoRow : OpenClaim := { program := "ytlcbbiiohhplfab", sum := "ee9f909457935a4ee4ab1d110ccb7ee2069b20741d32b313ef0b3944e657b7ab", func := "loop.example/g00904/laws.FnExactReadBlock", spec := "fnExactReadBlock", unfollowed := true, recurses := true, apart := false, narrowed := true }
def FnExactReadBlockUptoSaid : Prop := fnExactReadBlockUptoRow.holds Try.pinned (OpenSpec.upto fnExactReadBlockSpec)

/-- 'laws.FnHeaderText', WHERE WHAT IT READS IS OF BULK AT MOST 1048576: true; the input reads as it did. -/
def fnHeaderTextUptoRow : OpenClaim := { program := "ytlcbbiiohhplfab", sum := "ee9f909457935a4ee4ab1d110ccb7ee2069b20741d32b313ef0b3944e657b7ab", func := "loop.example/g00904/laws.FnHeaderText", spec := "fnHeaderText", inPlace := ["internal/abi.NoEscape"], unfollowed := true, recurses := true, apart := false, narrowed := true }
def FnHeaderTextUptoSaid : Prop := fnHeaderTextUptoRow.holds Try.pinned (OpenSpec.upto fnHeaderTextSpec)

end Rows
end Go.Proofs.Ytlcbbiiohhplfab
