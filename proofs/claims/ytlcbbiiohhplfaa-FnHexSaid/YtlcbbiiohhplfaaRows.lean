/-
  No cell of these rows narrows 'for every input' (looked for: loops, veiled, ifaces, maps, wideKeys, modest, calm, conditions, laid).
  DERIVED. THE GIVEN ROWS OF THIS SEAT. 6 by the template 'for every input the law returns true; each argument reads behind the call as it read before'; 0 by the template 'total and deterministic' (their statements: YtlcbbiiohhplfaaTotals.lean).
  GIVEN WITH THE SEED: the statements are not yours to turn. If you find one false, say at which input.
  Laid BY PROGRAM, IN A SANDBOX (cutbox-rows.mjs): the forced cells as the released guide's own fill.sh prints them over the translation 7f209dc5ba96720f… (all of the seat's roots in one cut). By AI agents, Wed Nov 11 2026. No macro, syntax, notation, axiom, sorry.
-/
import Derived.Test.YtlcbbiiohhplfaaChecked
import GoSem.Claim
import GoSem.ClaimJoined
import GoSem.ClaimMapViews
import Derived.JoinedTies
import Derived.KernelRfl
namespace Go.Proofs.Ytlcbbiiohhplfaa
/- THE CELL 'sum', in the pinned program and in every row, IS THE sha256 OF THE DUMP (.gsa) THAT YtlcbbiiohhplfaaProg.lean LOADS. Nothing in Lean hashes anything: it is a label: what it is worth is what the hold of that sum in a sandbox is worth. -/
noncomputable def Try.pinned : Pinned := { name := "ytlcbbiiohhplfaa", sum := "7f209dc5ba96720f8e3ae6163d1d39d0767a80bfe9e744b63a95a3e67a2a2d48", checked := Try.checked }
namespace Rows
def none {H : Type} : Left H := { results := [], args := [] }

/-- 'laws.FnExactStandardCuts': WHATEVER THE INPUT: true; the input reads as it did. -/
def fnExactStandardCutsSpec : ChangeSpec := { name := "fnExactStandardCuts", fn := fun _ => fun
  | [d] => { results := [.lit (.bool true)], args := [d] }
  | _ => none }
def fnExactStandardCutsRow : OpenClaim := { program := "ytlcbbiiohhplfaa", sum := "7f209dc5ba96720f8e3ae6163d1d39d0767a80bfe9e744b63a95a3e67a2a2d48", func := "loop.example/g00904/laws.FnExactStandardCuts", spec := "fnExactStandardCuts", apart := false }
def FnExactStandardCutsSaid : Prop := fnExactStandardCutsRow.holds Try.pinned (OpenSpec.ofChange fnExactStandardCutsSpec)

/-- ITS FALSE NEIGHBOUR: 'it returns false'. Refute it at one input. -/
def fnExactStandardCutsWrong : ChangeSpec := { name := "fnExactStandardCuts", fn := fun _ => fun
  | [d] => { results := [.lit (.bool false)], args := [d] }
  | _ => none }
def FnExactStandardCutsWrongFalsely : Prop := fnExactStandardCutsRow.holds Try.pinned (OpenSpec.ofChange fnExactStandardCutsWrong)

/-- 'laws.FnHex': WHATEVER THE INPUT: true; the input reads as it did. -/
def fnHexSpec : ChangeSpec := { name := "fnHex", fn := fun _ => fun
  | [d] => { results := [.lit (.bool true)], args := [d] }
  | _ => none }
def fnHexRow : OpenClaim := { program := "ytlcbbiiohhplfaa", sum := "7f209dc5ba96720f8e3ae6163d1d39d0767a80bfe9e744b63a95a3e67a2a2d48", func := "loop.example/g00904/laws.FnHex", spec := "fnHex", inPlace := ["internal/bytealg.IndexByteString"], apart := false }
def FnHexSaid : Prop := fnHexRow.holds Try.pinned (OpenSpec.ofChange fnHexSpec)

/-- ITS FALSE NEIGHBOUR: 'it returns false'. Refute it at one input. -/
def fnHexWrong : ChangeSpec := { name := "fnHex", fn := fun _ => fun
  | [d] => { results := [.lit (.bool false)], args := [d] }
  | _ => none }
def FnHexWrongFalsely : Prop := fnHexRow.holds Try.pinned (OpenSpec.ofChange fnHexWrong)

/-- 'laws.FnIntegers': WHATEVER THE INPUT: true; the input reads as it did. -/
def fnIntegersSpec : ChangeSpec := { name := "fnIntegers", fn := fun _ => fun
  | [d1, d2] => { results := [.lit (.bool true)], args := [d1, d2] }
  | _ => none }
def fnIntegersRow : OpenClaim := { program := "ytlcbbiiohhplfaa", sum := "7f209dc5ba96720f8e3ae6163d1d39d0767a80bfe9e744b63a95a3e67a2a2d48", func := "loop.example/g00904/laws.FnIntegers", spec := "fnIntegers", apart := false }
def FnIntegersSaid : Prop := fnIntegersRow.holds Try.pinned (OpenSpec.ofChange fnIntegersSpec)

/-- ITS FALSE NEIGHBOUR: 'it returns false'. Refute it at one input. -/
def fnIntegersWrong : ChangeSpec := { name := "fnIntegers", fn := fun _ => fun
  | [d1, d2] => { results := [.lit (.bool false)], args := [d1, d2] }
  | _ => none }
def FnIntegersWrongFalsely : Prop := fnIntegersRow.holds Try.pinned (OpenSpec.ofChange fnIntegersWrong)

/-- 'laws.FnExactDecodeHeap': WHATEVER THE INPUT: true; the input reads as it did. -/
def fnExactDecodeHeapSpec : ChangeSpec := { name := "fnExactDecodeHeap", fn := fun _ => fun
  | [d] => { results := [.lit (.bool true)], args := [d] }
  | _ => none }
def fnExactDecodeHeapRow : OpenClaim := { program := "ytlcbbiiohhplfaa", sum := "7f209dc5ba96720f8e3ae6163d1d39d0767a80bfe9e744b63a95a3e67a2a2d48", func := "loop.example/g00904/laws.FnExactDecodeHeap", spec := "fnExactDecodeHeap", unfollowed := true, recurses := true, apart := false }
def FnExactDecodeHeapSaid : Prop := fnExactDecodeHeapRow.holds Try.pinned (OpenSpec.ofChange fnExactDecodeHeapSpec)

/-- ITS FALSE NEIGHBOUR: 'it returns false'. Refute it at one input. -/
def fnExactDecodeHeapWrong : ChangeSpec := { name := "fnExactDecodeHeap", fn := fun _ => fun
  | [d] => { results := [.lit (.bool false)], args := [d] }
  | _ => none }
def FnExactDecodeHeapWrongFalsely : Prop := fnExactDecodeHeapRow.holds Try.pinned (OpenSpec.ofChange fnExactDecodeHeapWrong)

/-- 'laws.FnExactDecodeHeader': WHATEVER THE INPUT: true; the input reads as it did. -/
def fnExactDecodeHeaderSpec : ChangeSpec := { name := "fnExactDecodeHeader", fn := fun _ => fun
  | [d] => { results := [.lit (.bool true)], args := [d] }
  | _ => none }
def fnExactDecodeHeaderRow : OpenClaim := { program := "ytlcbbiiohhplfaa", sum := "7f209dc5ba96720f8e3ae6163d1d39d0767a80bfe9e744b63a95a3e67a2a2d48", func := "loop.example/g00904/laws.FnExactDecodeHeader", spec := "fnExactDecodeHeader", unfollowed := true, recurses := true, apart := false }
def FnExactDecodeHeaderSaid : Prop := fnExactDecodeHeaderRow.holds Try.pinned (OpenSpec.ofChange fnExactDecodeHeaderSpec)

/-- ITS FALSE NEIGHBOUR: 'it returns false'. Refute it at one input. -/
def fnExactDecodeHeaderWrong : ChangeSpec := { name := "fnExactDecodeHeader", fn := fun _ => fun
  | [d] => { results := [.lit (.bool false)], args := [d] }
  | _ => none }
def FnExactDecodeHeaderWrongFalsely : Prop := fnExactDecodeHeaderRow.holds Try.pinned (OpenSpec.ofChange fnExactDecodeHeaderWrong)

/-- 'laws.FnExactDropName': WHATEVER THE INPUT: true; the input reads as it did. -/
def fnExactDropNameSpec : ChangeSpec := { name := "fnExactDropName", fn := fun _ => fun
  | [d1, d2] => { results := [.lit (.bool true)], args := [d1, d2] }
  | _ => none }
def fnExactDropNameRow : OpenClaim := { program := "ytlcbbiiohhplfaa", sum := "7f209dc5ba96720f8e3ae6163d1d39d0767a80bfe9e744b63a95a3e67a2a2d48", func := "loop.example/g00904/laws.FnExactDropName", spec := "fnExactDropName", unfollowed := true, recurses := true, apart := false }
def FnExactDropNameSaid : Prop := fnExactDropNameRow.holds Try.pinned (OpenSpec.ofChange fnExactDropNameSpec)

/-- ITS FALSE NEIGHBOUR: 'it returns false'. Refute it at one input. -/
def fnExactDropNameWrong : ChangeSpec := { name := "fnExactDropName", fn := fun _ => fun
  | [d1, d2] => { results := [.lit (.bool false)], args := [d1, d2] }
  | _ => none }
def FnExactDropNameWrongFalsely : Prop := fnExactDropNameRow.holds Try.pinned (OpenSpec.ofChange fnExactDropNameWrong)

/- THE SECOND FORM. 'bulk': how many values and letters a reading holds, each counted each time it is reached (what is shared counts as often as it is met; a slice's spare places count too). A statement '..UptoSaid' is the law's where the arguments, and the package variables that the reading takes, are together of bulk at most 1048576: NARROWER than '..Said'. Prove '..Said' where nothing that the law and all that it calls make is longer than what came in: it says more and counts as full. Else prove '..UptoSaid'. A law counts once. -/
mutual
def uptoBulk {H : Type} : DataW H → Nat
  | .lit (.string bytes) => bytes.length + 1
  | .lit _ => 1
  | .nil => 1
  | .ptr d => uptoBulk d + 1
  | .slice elems spare => uptoBulkAll elems + uptoBulkAll spare + 1
  | .agg parts => uptoBulkAll parts + 1
  | .iface _ d => uptoBulk d + 1
  | .map entries => uptoBulkEntries entries + 1
  | .held _ => 1
def uptoBulkAll {H : Type} : List (DataW H) → Nat
  | [] => 0
  | d :: r => uptoBulk d + uptoBulkAll r
def uptoBulkEntries {H : Type} : List (Lit × DataW H) → Nat
  | [] => 0
  | x :: r => uptoBulkEntry x + uptoBulkEntries r
def uptoBulkEntry {H : Type} : Lit × DataW H → Nat
  | (.string bytes, d) => bytes.length + uptoBulk d + 1
  | (_, d) => uptoBulk d + 1
 end
def uptoSmall : (H : Type) → List (DataW H) → Bool := fun _ ds => decide (uptoBulkAll ds ≤ 1048576)
def OpenSpec.upto (s : _root_.Go.ChangeSpec) : _root_.Go.OpenSpec := { _root_.Go.OpenSpec.ofChange s with cond := some uptoSmall }

/-- 'laws.FnExactStandardCuts', WHERE WHAT IT READS IS OF BULK AT MOST 1048576: true; the input reads as it did. -/
def fnExactStandardCutsUptoRow : OpenClaim := { program := "ytlcbbiiohhplfaa", sum := "7f209dc5ba96720f8e3ae6163d1d39d0767a80bfe9e744b63a95a3e67a2a2d48", func := "loop.example/g00904/laws.FnExactStandardCuts", spec := "fnExactStandardCuts", apart := false, narrowed := true }
def FnExactStandardCutsUptoSaid : Prop := fnExactStandardCutsUptoRow.holds Try.pinned (OpenSpec.upto fnExactStandardCutsSpec)

/-- 'laws.FnHex', WHERE WHAT IT READS IS OF BULK AT MOST 1048576: true; the input reads as it did. -/
def fnHexUptoRow : OpenClaim := { program := "ytlcbbiiohhplfaa", sum := "7f209dc5ba96720f8e3ae6163d1d39d0767a80bfe9e744b63a95a3e67a2a2d48", func := "loop.example/g00904/laws.FnHex", spec := "fnHex", inPlace := ["internal/bytealg.IndexByteString"], apart := false, narrowed := true }
def FnHexUptoSaid : Prop := fnHexUptoRow.holds Try.pinned (OpenSpec.upto fnHexSpec)

/-- 'laws.FnIntegers', WHERE WHAT IT READS IS OF BULK AT MOST 1048576: true; the input reads as it did. -/
def fnIntegersUptoRow : OpenClaim := { program := "ytlcbbiiohhplfaa", sum := "7f209dc5ba96720f8e3ae6163d1d39d0767a80bfe9e744b63a95a3e67a2a2d48", func := "loop.example/g00904/laws.FnIntegers", spec := "fnIntegers", apart := false, narrowed := true }
def FnIntegersUptoSaid : Prop := fnIntegersUptoRow.holds Try.pinned (OpenSpec.upto fnIntegersSpec)

/-- 'laws.FnExactDecodeHeap', WHERE WHAT IT READS IS OF BULK AT MOST 1048576: true; the input reads as it did. -/
def fnExactDecodeHeapUptoRow : OpenClaim := { program := "ytlcbbiiohhplfaa", sum := "7f209dc5ba96720f8e3ae6163d1d39d0767a80bfe9e744b63a95a3e67a2a2d48", func := "loop.example/g00904/laws.FnExactDecodeHeap", spec := "fnExactDecodeHeap", unfollowed := true, recurses := true, apart := false, narrowed := true }
def FnExactDecodeHeapUptoSaid : Prop := fnExactDecodeHeapUptoRow.holds Try.pinned (OpenSpec.upto fnExactDecodeHeapSpec)

/-- 'laws.FnExactDecodeHeader', WHERE WHAT IT READS IS OF BULK AT MOST 1048576: true; the input reads as it did. -/
def fnExactDecodeHeaderUptoRow : OpenClaim := { program := "ytlcbbiiohhplfaa", sum := "7f209dc5ba96720f8e3ae6163d1d39d0767a80bfe9e744b63a95a3e67a2a2d48", func := "loop.example/g00904/laws.FnExactDecodeHeader", spec := "fnExactDecodeHeader", unfollowed := true, recurses := true, apart := false, narrowed := true }
def FnExactDecodeHeaderUptoSaid : Prop := fnExactDecodeHeaderUptoRow.holds Try.pinned (OpenSpec.upto fnExactDecodeHeaderSpec)

/-- 'laws.FnExactDropName', WHERE WHAT IT READS IS OF BULK AT MOST 1048576: true; the input reads as it did. -/
def fnExactDropNameUptoRow : OpenClaim := { program := "ytlcbbiiohhplfaa", sum := "7f209dc5ba96720f8e3ae6163d1d39d0767a80bfe9e744b63a95a3e67a2a2d48", func := "loop.example/g00904/laws.FnExactDropName", spec := "fnExactDropName", unfollowed := true, recurses := true, apart := false, narrowed := true }
def FnExactDropNameUptoSaid : Prop := fnExactDropNameUptoRow.holds Try.pinned (OpenSpec.upto fnExactDropNameSpec)

end Rows
end Go.Proofs.Ytlcbbiiohhplfaa
