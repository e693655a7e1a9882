/-
  No cell of these rows narrows 'for every input' (looked for: loops, veiled, ifaces, maps, wideKeys, modest, calm, conditions, laid).
  DERIVED. THE GIVEN ROWS OF THIS SEAT. 6 by the template 'for every input the law returns true; each argument reads behind the call as it read before'; 0 by the template 'total and deterministic' (their statements: YtpachmimhampfaaTotals.lean).
  GIVEN WITH THE SEED: the statements are not yours to turn. If you find one false, say at which input.
  Laid BY PROGRAM, IN A SANDBOX (cutbox-rows.mjs): the forced cells as the released guide's own fill.sh prints them over the translation 4fba929ed8a6909f… (all of the seat's roots in one cut). By AI agents, Wed Nov 11 2026. No macro, syntax, notation, axiom, sorry.
-/
import Derived.Test.YtpachmimhampfaaChecked
import GoSem.Claim
import GoSem.ClaimJoined
import GoSem.ClaimMapViews
import Derived.JoinedTies
import Derived.KernelRfl
namespace Go.Proofs.Ytpachmimhampfaa
/- THE CELL 'sum', in the pinned program and in every row, IS THE sha256 OF THE DUMP (.gsa) THAT YtpachmimhampfaaProg.lean LOADS. Nothing in Lean hashes anything: it is a label: what it is worth is what the hold of that sum in a sandbox is worth. -/
noncomputable def Try.pinned : Pinned := { name := "ytpachmimhampfaa", sum := "4fba929ed8a6909fad984b57255bf391b74d200727288d17330803dba9bd0630", checked := Try.checked }
namespace Rows
def none {H : Type} : Left H := { results := [], args := [] }

/-- 'laws.FnExactValidCut': WHATEVER THE INPUT: true; the input reads as it did. -/
def fnExactValidCutSpec : ChangeSpec := { name := "fnExactValidCut", fn := fun _ => fun
  | [d] => { results := [.lit (.bool true)], args := [d] }
  | _ => none }
def fnExactValidCutRow : OpenClaim := { program := "ytpachmimhampfaa", sum := "4fba929ed8a6909fad984b57255bf391b74d200727288d17330803dba9bd0630", func := "loop.example/g00904/laws.FnExactValidCut", spec := "fnExactValidCut", apart := false }
def FnExactValidCutSaid : Prop := fnExactValidCutRow.holds Try.pinned (OpenSpec.ofChange fnExactValidCutSpec)

/-- ITS FALSE NEIGHBOUR: 'it returns false'. Refute it at one input. -/
def fnExactValidCutWrong : ChangeSpec := { name := "fnExactValidCut", fn := fun _ => fun
  | [d] => { results := [.lit (.bool false)], args := [d] }
  | _ => none }
def FnExactValidCutWrongFalsely : Prop := fnExactValidCutRow.holds Try.pinned (OpenSpec.ofChange fnExactValidCutWrong)

/-- 'laws.FnExactGetUint': WHATEVER THE INPUT: true; the input reads as it did. -/
def fnExactGetUintSpec : ChangeSpec := { name := "fnExactGetUint", fn := fun _ => fun
  | [d1, d2, d3] => { results := [.lit (.bool true)], args := [d1, d2, d3] }
  | _ => none }
def fnExactGetUintRow : OpenClaim := { program := "ytpachmimhampfaa", sum := "4fba929ed8a6909fad984b57255bf391b74d200727288d17330803dba9bd0630", func := "loop.example/g00904/laws.FnExactGetUint", spec := "fnExactGetUint", apart := false }
def FnExactGetUintSaid : Prop := fnExactGetUintRow.holds Try.pinned (OpenSpec.ofChange fnExactGetUintSpec)

/-- ITS FALSE NEIGHBOUR: 'it returns false'. Refute it at one input. -/
def fnExactGetUintWrong : ChangeSpec := { name := "fnExactGetUint", fn := fun _ => fun
  | [d1, d2, d3] => { results := [.lit (.bool false)], args := [d1, d2, d3] }
  | _ => none }
def FnExactGetUintWrongFalsely : Prop := fnExactGetUintRow.holds Try.pinned (OpenSpec.ofChange fnExactGetUintWrong)

/-- 'laws.FnExactGetInt': WHATEVER THE INPUT: true; the input reads as it did. -/
def fnExactGetIntSpec : ChangeSpec := { name := "fnExactGetInt", fn := fun _ => fun
  | [d1, d2, d3] => { results := [.lit (.bool true)], args := [d1, d2, d3] }
  | _ => none }
def fnExactGetIntRow : OpenClaim := { program := "ytpachmimhampfaa", sum := "4fba929ed8a6909fad984b57255bf391b74d200727288d17330803dba9bd0630", func := "loop.example/g00904/laws.FnExactGetInt", spec := "fnExactGetInt", apart := false }
def FnExactGetIntSaid : Prop := fnExactGetIntRow.holds Try.pinned (OpenSpec.ofChange fnExactGetIntSpec)

/-- ITS FALSE NEIGHBOUR: 'it returns false'. Refute it at one input. -/
def fnExactGetIntWrong : ChangeSpec := { name := "fnExactGetInt", fn := fun _ => fun
  | [d1, d2, d3] => { results := [.lit (.bool false)], args := [d1, d2, d3] }
  | _ => none }
def FnExactGetIntWrongFalsely : Prop := fnExactGetIntRow.holds Try.pinned (OpenSpec.ofChange fnExactGetIntWrong)

/-- 'laws.FnExactKeptBy': WHATEVER THE INPUT: true; the input reads as it did. -/
def fnExactKeptBySpec : ChangeSpec := { name := "fnExactKeptBy", fn := fun _ => fun
  | [d1, d2] => { results := [.lit (.bool true)], args := [d1, d2] }
  | _ => none }
def fnExactKeptByRow : OpenClaim := { program := "ytpachmimhampfaa", sum := "4fba929ed8a6909fad984b57255bf391b74d200727288d17330803dba9bd0630", func := "loop.example/g00904/laws.FnExactKeptBy", spec := "fnExactKeptBy", apart := false }
def FnExactKeptBySaid : Prop := fnExactKeptByRow.holds Try.pinned (OpenSpec.ofChange fnExactKeptBySpec)

/-- ITS FALSE NEIGHBOUR: 'it returns false'. Refute it at one input. -/
def fnExactKeptByWrong : ChangeSpec := { name := "fnExactKeptBy", fn := fun _ => fun
  | [d1, d2] => { results := [.lit (.bool false)], args := [d1, d2] }
  | _ => none }
def FnExactKeptByWrongFalsely : Prop := fnExactKeptByRow.holds Try.pinned (OpenSpec.ofChange fnExactKeptByWrong)

/-- 'laws.FnExactLzDecode': WHATEVER THE INPUT: true; the input reads as it did. -/
def fnExactLzDecodeSpec : ChangeSpec := { name := "fnExactLzDecode", fn := fun _ => fun
  | [d] => { results := [.lit (.bool true)], args := [d] }
  | _ => none }
def fnExactLzDecodeRow : OpenClaim := { program := "ytpachmimhampfaa", sum := "4fba929ed8a6909fad984b57255bf391b74d200727288d17330803dba9bd0630", func := "loop.example/g00904/laws.FnExactLzDecode", spec := "fnExactLzDecode", apart := false }
def FnExactLzDecodeSaid : Prop := fnExactLzDecodeRow.holds Try.pinned (OpenSpec.ofChange fnExactLzDecodeSpec)

/-- ITS FALSE NEIGHBOUR: 'it returns false'. Refute it at one input. -/
def fnExactLzDecodeWrong : ChangeSpec := { name := "fnExactLzDecode", fn := fun _ => fun
  | [d] => { results := [.lit (.bool false)], args := [d] }
  | _ => none }
def FnExactLzDecodeWrongFalsely : Prop := fnExactLzDecodeRow.holds Try.pinned (OpenSpec.ofChange fnExactLzDecodeWrong)

/-- 'laws.FnKept': WHATEVER THE INPUT: true; the input reads as it did. -/
def fnKeptSpec : ChangeSpec := { name := "fnKept", fn := fun _ => fun
  | [d] => { results := [.lit (.bool true)], args := [d] }
  | _ => none }
def fnKeptRow : OpenClaim := { program := "ytpachmimhampfaa", sum := "4fba929ed8a6909fad984b57255bf391b74d200727288d17330803dba9bd0630", func := "loop.example/g00904/laws.FnKept", spec := "fnKept", apart := false }
def FnKeptSaid : Prop := fnKeptRow.holds Try.pinned (OpenSpec.ofChange fnKeptSpec)

/-- ITS FALSE NEIGHBOUR: 'it returns false'. Refute it at one input. -/
def fnKeptWrong : ChangeSpec := { name := "fnKept", fn := fun _ => fun
  | [d] => { results := [.lit (.bool false)], args := [d] }
  | _ => none }
def FnKeptWrongFalsely : Prop := fnKeptRow.holds Try.pinned (OpenSpec.ofChange fnKeptWrong)

/- THE SECOND FORM. 'bulk': how many values and letters a reading holds, each counted each time it is reached (what is shared counts as often as it is met; a slice's spare places count too). A statement '..UptoSaid' is the law's where the arguments, and the package variables that the reading takes, are together of bulk at most 1048576: NARROWER than '..Said'. Prove '..Said' where nothing that the law and all that it calls make is longer than what came in: it says more and counts as full. Else prove '..UptoSaid'. A law counts once. -/
mutual
def uptoBulk {H : Type} : DataW H → Nat
  | .lit (.string bytes) => bytes.length + 1
  | .lit _ => 1
  | .nil => 1
  | .ptr d => uptoBulk d + 1
  | .slice elems spare => uptoBulkAll elems + uptoBulkAll spare + 1
  | .agg parts => uptoBulkAll parts + 1
  | .iface _ d => uptoBulk d + 1
  | .map entries => uptoBulkEntries entries + 1
  | .held _ => 1
def uptoBulkAll {H : Type} : List (DataW H) → Nat
  | [] => 0
  | d :: r => uptoBulk d + uptoBulkAll r
def uptoBulkEntries {H : Type} : List (Lit × DataW H) → Nat
  | [] => 0
  | x :: r => uptoBulkEntry x + uptoBulkEntries r
def uptoBulkEntry {H : Type} : Lit × DataW H → Nat
  | (.string bytes, d) => bytes.length + uptoBulk d + 1
  | (_, d) => uptoBulk d + 1
 end
def uptoSmall : (H : Type) → List (DataW H) → Bool := fun _ ds => decide (uptoBulkAll ds ≤ 1048576)
def OpenSpec.upto (s : _root_.Go.ChangeSpec) : _root_.Go.OpenSpec := { _root_.Go.OpenSpec.ofChange s with cond := some uptoSmall }

/-- 'laws.FnExactValidCut', WHERE WHAT IT READS IS OF BULK AT MOST 1048576: true; the input reads as it did. -/
def fnExactValidCutUptoRow : OpenClaim := { program := "ytpachmimhampfaa", sum := "4fba929ed8a6909fad984b57255bf391b74d200727288d17330803dba9bd0630", func := "loop.example/g00904/laws.FnExactValidCut", spec := "fnExactValidCut", apart := false, narrowed := true }
def FnExactValidCutUptoSaid : Prop := fnExactValidCutUptoRow.holds Try.pinned (OpenSpec.upto fnExactValidCutSpec)

/-- 'laws.FnExactGetUint', WHERE WHAT IT READS IS OF BULK AT MOST 1048576: true; the input reads as it did. -/
def fnExactGetUintUptoRow : OpenClaim := { program := "ytpachmimhampfaa", sum := "4fba929ed8a6909fad984b57255bf391b74d200727288d17330803dba9bd0630", func := "loop.example/g00904/laws.FnExactGetUint", spec := "fnExactGetUint", apart := false, narrowed := true }
def FnExactGetUintUptoSaid : Prop := fnExactGetUintUptoRow.holds Try.pinned (OpenSpec.upto fnExactGetUintSpec)

/-- 'laws.FnExactGetInt', WHERE WHAT IT READS IS OF BULK AT MOST 1048576: true; the input reads as it did. -/
def fnExactGetIntUptoRow : OpenClaim := { program := "ytpachmimhampfaa", sum := "4fba929ed8a6909fad984b57255bf391b74d200727288d17330803dba9bd0630", func := "loop.example/g00904/laws.FnExactGetInt", spec := "fnExactGetInt", apart := false, narrowed := true }
def FnExactGetIntUptoSaid : Prop := fnExactGetIntUptoRow.holds Try.pinned (OpenSpec.upto fnExactGetIntSpec)

/-- 'laws.FnExactKeptBy', WHERE WHAT IT READS IS OF BULK AT MOST 1048576: true; the input reads as it did. -/
def fnExactKeptByUptoRow : OpenClaim := { program := "ytpachmimhampfaa", sum := "4fba929ed8a6909fad984b57255bf391b74d200727288d17330803dba9bd0630", func := "loop.example/g00904/laws.FnExactKeptBy", spec := "fnExactKeptBy", apart := false, narrowed := true }
def FnExactKeptByUptoSaid : Prop := fnExactKeptByUptoRow.holds Try.pinned (OpenSpec.upto fnExactKeptBySpec)

/-- 'laws.FnExactLzDecode', WHERE WHAT IT READS IS OF BULK AT MOST 1048576: true; the input reads as it did. -/
def fnExactLzDecodeUptoRow : OpenClaim := { program := "ytpachmimhampfaa", sum := "4fba929ed8a6909fad984b57255bf391b74d200727288d17330803dba9bd0630", func := "loop.example/g00904/laws.FnExactLzDecode", spec := "fnExactLzDecode", apart := false, narrowed := true }
def FnExactLzDecodeUptoSaid : Prop := fnExactLzDecodeUptoRow.holds Try.pinned (OpenSpec.upto fnExactLzDecodeSpec)

/-- 'laws.FnKept', WHERE WHAT IT READS IS OF BULK AT MOST 1048576: true; the input reads as it did. -/
def fnKeptUptoRow : OpenClaim := { program := "ytpachmimhampfaa", sum := "4fba929ed8a6909fad984b57255bf391b74d200727288d17330803dba9bd0630", func := "loop.example/g00904/laws.FnKept", spec := "fnKept", apart := false, narrowed := true }
def FnKeptUptoSaid : Prop := fnKeptUptoRow.holds Try.pinned (OpenSpec.upto fnKeptSpec)

end Rows
end Go.Proofs.Ytpachmimhampfaa
