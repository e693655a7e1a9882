/-
  NARROWER THAN 'FOR EVERY INPUT', by the rows' own cells (each row's printed sentence says how): FnExactValidArray: loops, laid · FnExactCompareElements: loops, laid · FnExactElementAt: loops, laid · FnExactValidAttribute: loops, laid · FnExactEncodeAttribute: loops, laid · FnExactValidDataset: loops, laid.
  DERIVED. THE GIVEN ROWS OF THIS SEAT. 6 by the template 'for every input the law returns true; each argument reads behind the call as it read before'; 0 by the template 'total and deterministic' (their statements: YtjhcincgkbcheaaGreatDoorTotals.lean).
  GIVEN WITH THE SEED: the statements are not yours to turn. If you find one false, say at which input.
  Laid BY PROGRAM, IN A SANDBOX (cutbox-rows.mjs): the forced cells as the released guide's own fill.sh prints them over the translation 5a885bbead3bea05… (all of the seat's roots in one cut). By AI agents, Wed Nov 11 2026. No macro, syntax, notation, axiom, sorry.
-/
import Derived.Test.YtjhcincgkbcheaaGreatDoorChecked
import GoSem.PinnedTables
import GoSem.Claim
import GoSem.ClaimJoined
import GoSem.ClaimMapViews
import Derived.JoinedTies
import Derived.KernelRfl
namespace Go.Proofs.YtjhcincgkbcheaaGreatDoor
/- THE CELL 'sum', in the pinned program and in every row, IS THE sha256 OF THE DUMP (.gsa) THAT YtjhcincgkbcheaaGreatDoorProg.lean LOADS. Nothing in Lean hashes anything: it is a label: what it is worth is what the hold of that sum in a sandbox is worth. -/
noncomputable def Tryz.pinned : Pinned := { name := "ytjhcincgkbcheaagreatdoor", sum := "5a885bbead3bea053539f2c708baa01b7474af918d35f8ed62ed6ed1bbfa014a", checked := Tryz.checked }
namespace Rows
def none {H : Type} : Left H := { results := [], args := [] }

/- WHAT THE LISTED PACKAGE-LEVEL VARIABLES READ AS WHEN THE CALL BEGINS. Each datum BY PROGRAM (the guide's laid-datum.mjs) off the statement by which the dump's own 'gosem.cut.vars' lays the variable. In a bare row this is a premise. The card (YtjhcincgkbcheaaGreatDoorCards.lean) ties it to the program's text. -/
def laid_unicode_utf8_acceptRanges {H : Type} : DataW H := .agg [.agg [.lit (.int .u8 128), .lit (.int .u8 191)], .agg [.lit (.int .u8 160), .lit (.int .u8 191)], .agg [.lit (.int .u8 128), .lit (.int .u8 159)], .agg [.lit (.int .u8 144), .lit (.int .u8 191)], .agg [.lit (.int .u8 128), .lit (.int .u8 143)], .agg [.lit (.int .u8 0), .lit (.int .u8 0)], .agg [.lit (.int .u8 0), .lit (.int .u8 0)], .agg [.lit (.int .u8 0), .lit (.int .u8 0)], .agg [.lit (.int .u8 0), .lit (.int .u8 0)], .agg [.lit (.int .u8 0), .lit (.int .u8 0)], .agg [.lit (.int .u8 0), .lit (.int .u8 0)], .agg [.lit (.int .u8 0), .lit (.int .u8 0)], .agg [.lit (.int .u8 0), .lit (.int .u8 0)], .agg [.lit (.int .u8 0), .lit (.int .u8 0)], .agg [.lit (.int .u8 0), .lit (.int .u8 0)], .agg [.lit (.int .u8 0), .lit (.int .u8 0)]]
/-- One of Go's own tables, pinned by name: the form's constant. -/
def laid_unicode_utf8_first : DataW Unit := Go.Pinned.utf8First

/-- 'laws.FnExactValidArray': WHATEVER THE INPUT: true; the input reads as it did. -/
def fnExactValidArraySpec : ChangeSpec := { name := "fnExactValidArray", fn := fun _ => fun
  | [d] => { results := [.lit (.bool true)], args := [d] }
  | _ => none }
def fnExactValidArrayRow : OpenClaim := { program := "ytjhcincgkbcheaagreatdoor", sum := "5a885bbead3bea053539f2c708baa01b7474af918d35f8ed62ed6ed1bbfa014a", func := "loop.example/g00904/laws.FnExactValidArray", spec := "fnExactValidArray", inPlace := ["internal/bytealg.IndexByteString", "internal/bytealg.IndexString"], unfollowed := true, recurses := true, named := ["unicode/utf8.first", "unicode/utf8.acceptRanges", "internal/bytealg.MaxLen"], loops := true, apart := false, laid := [("unicode/utf8.acceptRanges", laid_unicode_utf8_acceptRanges), ("unicode/utf8.first", laid_unicode_utf8_first)] }
def FnExactValidArraySaid : Prop := fnExactValidArrayRow.holds Tryz.pinned (OpenSpec.ofChange fnExactValidArraySpec)

/-- ITS FALSE NEIGHBOUR: 'it returns false'. Refute it at one input. -/
def fnExactValidArrayWrong : ChangeSpec := { name := "fnExactValidArray", fn := fun _ => fun
  | [d] => { results := [.lit (.bool false)], args := [d] }
  | _ => none }
def FnExactValidArrayWrongFalsely : Prop := fnExactValidArrayRow.holds Tryz.pinned (OpenSpec.ofChange fnExactValidArrayWrong)

/-- 'laws.FnExactCompareElements': WHATEVER THE INPUT: true; the input reads as it did. -/
def fnExactCompareElementsSpec : ChangeSpec := { name := "fnExactCompareElements", fn := fun _ => fun
  | [d1, d2, d3] => { results := [.lit (.bool true)], args := [d1, d2, d3] }
  | _ => none }
def fnExactCompareElementsRow : OpenClaim := { program := "ytjhcincgkbcheaagreatdoor", sum := "5a885bbead3bea053539f2c708baa01b7474af918d35f8ed62ed6ed1bbfa014a", func := "loop.example/g00904/laws.FnExactCompareElements", spec := "fnExactCompareElements", inPlace := ["internal/bytealg.IndexByteString", "internal/bytealg.IndexString", "internal/bytealg.abigen_runtime_cmpstring"], unfollowed := true, recurses := true, named := ["unicode/utf8.first", "unicode/utf8.acceptRanges", "internal/bytealg.MaxLen"], loops := true, apart := false, laid := [("unicode/utf8.acceptRanges", laid_unicode_utf8_acceptRanges), ("unicode/utf8.first", laid_unicode_utf8_first)] }
def FnExactCompareElementsSaid : Prop := fnExactCompareElementsRow.holds Tryz.pinned (OpenSpec.ofChange fnExactCompareElementsSpec)

/-- ITS FALSE NEIGHBOUR: 'it returns false'. Refute it at one input. -/
def fnExactCompareElementsWrong : ChangeSpec := { name := "fnExactCompareElements", fn := fun _ => fun
  | [d1, d2, d3] => { results := [.lit (.bool false)], args := [d1, d2, d3] }
  | _ => none }
def FnExactCompareElementsWrongFalsely : Prop := fnExactCompareElementsRow.holds Tryz.pinned (OpenSpec.ofChange fnExactCompareElementsWrong)

/-- 'laws.FnExactElementAt': WHATEVER THE INPUT: true; the input reads as it did. -/
def fnExactElementAtSpec : ChangeSpec := { name := "fnExactElementAt", fn := fun _ => fun
  | [d1, d2] => { results := [.lit (.bool true)], args := [d1, d2] }
  | _ => none }
def fnExactElementAtRow : OpenClaim := { program := "ytjhcincgkbcheaagreatdoor", sum := "5a885bbead3bea053539f2c708baa01b7474af918d35f8ed62ed6ed1bbfa014a", func := "loop.example/g00904/laws.FnExactElementAt", spec := "fnExactElementAt", inPlace := ["internal/bytealg.IndexByteString", "internal/bytealg.IndexString"], unfollowed := true, recurses := true, named := ["unicode/utf8.first", "unicode/utf8.acceptRanges", "internal/bytealg.MaxLen"], loops := true, apart := false, laid := [("unicode/utf8.acceptRanges", laid_unicode_utf8_acceptRanges), ("unicode/utf8.first", laid_unicode_utf8_first)] }
def FnExactElementAtSaid : Prop := fnExactElementAtRow.holds Tryz.pinned (OpenSpec.ofChange fnExactElementAtSpec)

/-- ITS FALSE NEIGHBOUR: 'it returns false'. Refute it at one input. -/
def fnExactElementAtWrong : ChangeSpec := { name := "fnExactElementAt", fn := fun _ => fun
  | [d1, d2] => { results := [.lit (.bool false)], args := [d1, d2] }
  | _ => none }
def FnExactElementAtWrongFalsely : Prop := fnExactElementAtRow.holds Tryz.pinned (OpenSpec.ofChange fnExactElementAtWrong)

/-- 'laws.FnExactValidAttribute': WHATEVER THE INPUT: true; the input reads as it did. -/
def fnExactValidAttributeSpec : ChangeSpec := { name := "fnExactValidAttribute", fn := fun _ => fun
  | [d] => { results := [.lit (.bool true)], args := [d] }
  | _ => none }
def fnExactValidAttributeRow : OpenClaim := { program := "ytjhcincgkbcheaagreatdoor", sum := "5a885bbead3bea053539f2c708baa01b7474af918d35f8ed62ed6ed1bbfa014a", func := "loop.example/g00904/laws.FnExactValidAttribute", spec := "fnExactValidAttribute", inPlace := ["internal/bytealg.IndexByteString", "internal/bytealg.IndexString"], unfollowed := true, recurses := true, named := ["unicode/utf8.first", "unicode/utf8.acceptRanges", "internal/bytealg.MaxLen"], loops := true, apart := false, laid := [("unicode/utf8.acceptRanges", laid_unicode_utf8_acceptRanges), ("unicode/utf8.first", laid_unicode_utf8_first)] }
def FnExactValidAttributeSaid : Prop := fnExactValidAttributeRow.holds Tryz.pinned (OpenSpec.ofChange fnExactValidAttributeSpec)

/-- ITS FALSE NEIGHBOUR: 'it returns false'. Refute it at one input. -/
def fnExactValidAttributeWrong : ChangeSpec := { name := "fnExactValidAttribute", fn := fun _ => fun
  | [d] => { results := [.lit (.bool false)], args := [d] }
  | _ => none }
def FnExactValidAttributeWrongFalsely : Prop := fnExactValidAttributeRow.holds Tryz.pinned (OpenSpec.ofChange fnExactValidAttributeWrong)

/-- 'laws.FnExactEncodeAttribute': WHATEVER THE INPUT: true; the input reads as it did. -/
def fnExactEncodeAttributeSpec : ChangeSpec := { name := "fnExactEncodeAttribute", fn := fun _ => fun
  | [d] => { results := [.lit (.bool true)], args := [d] }
  | _ => none }
def fnExactEncodeAttributeRow : OpenClaim := { program := "ytjhcincgkbcheaagreatdoor", sum := "5a885bbead3bea053539f2c708baa01b7474af918d35f8ed62ed6ed1bbfa014a", func := "loop.example/g00904/laws.FnExactEncodeAttribute", spec := "fnExactEncodeAttribute", inPlace := ["internal/bytealg.IndexByteString", "internal/bytealg.IndexString"], unfollowed := true, recurses := true, named := ["unicode/utf8.first", "unicode/utf8.acceptRanges", "internal/bytealg.MaxLen"], loops := true, apart := false, laid := [("unicode/utf8.acceptRanges", laid_unicode_utf8_acceptRanges), ("unicode/utf8.first", laid_unicode_utf8_first)] }
def FnExactEncodeAttributeSaid : Prop := fnExactEncodeAttributeRow.holds Tryz.pinned (OpenSpec.ofChange fnExactEncodeAttributeSpec)

/-- ITS FALSE NEIGHBOUR: 'it returns false'. Refute it at one input. -/
def fnExactEncodeAttributeWrong : ChangeSpec := { name := "fnExactEncodeAttribute", fn := fun _ => fun
  | [d] => { results := [.lit (.bool false)], args := [d] }
  | _ => none }
def FnExactEncodeAttributeWrongFalsely : Prop := fnExactEncodeAttributeRow.holds Tryz.pinned (OpenSpec.ofChange fnExactEncodeAttributeWrong)

/-- 'laws.FnExactValidDataset': WHATEVER THE INPUT: true; the input reads as it did. -/
def fnExactValidDatasetSpec : ChangeSpec := { name := "fnExactValidDataset", fn := fun _ => fun
  | [d] => { results := [.lit (.bool true)], args := [d] }
  | _ => none }
def fnExactValidDatasetRow : OpenClaim := { program := "ytjhcincgkbcheaagreatdoor", sum := "5a885bbead3bea053539f2c708baa01b7474af918d35f8ed62ed6ed1bbfa014a", func := "loop.example/g00904/laws.FnExactValidDataset", spec := "fnExactValidDataset", inPlace := ["internal/bytealg.IndexByteString", "internal/bytealg.IndexString"], unfollowed := true, recurses := true, named := ["unicode/utf8.first", "unicode/utf8.acceptRanges", "internal/bytealg.MaxLen"], loops := true, apart := false, laid := [("unicode/utf8.acceptRanges", laid_unicode_utf8_acceptRanges), ("unicode/utf8.first", laid_unicode_utf8_first)] }
def FnExactValidDatasetSaid : Prop := fnExactValidDatasetRow.holds Tryz.pinned (OpenSpec.ofChange fnExactValidDatasetSpec)

/-- ITS FALSE NEIGHBOUR: 'it returns false'. Refute it at one input. -/
def fnExactValidDatasetWrong : ChangeSpec := { name := "fnExactValidDataset", fn := fun _ => fun
  | [d] => { results := [.lit (.bool false)], args := [d] }
  | _ => none }
def FnExactValidDatasetWrongFalsely : Prop := fnExactValidDatasetRow.holds Tryz.pinned (OpenSpec.ofChange fnExactValidDatasetWrong)

/- THE SECOND FORM. 'bulk': how many values and letters a reading holds, each counted each time it is reached (what is shared counts as often as it is met; a slice's spare places count too). A statement '..UptoSaid' is the law's where the arguments, and the package variables that the reading takes, are together of bulk at most 1048576: NARROWER than '..Said'. Prove '..Said' where nothing that the law and all that it calls make is longer than what came in: it says more and counts as full. Else prove '..UptoSaid'. A law counts once. -/
mutual
def uptoBulk {H : Type} : DataW H → Nat
  | .lit (.string bytes) => bytes.length + 1
  | .lit _ => 1
  | .nil => 1
  | .ptr d => uptoBulk d + 1
  | .slice elems spare => uptoBulkAll elems + uptoBulkAll spare + 1
  | .agg parts => uptoBulkAll parts + 1
  | .iface _ d => uptoBulk d + 1
  | .map entries => uptoBulkEntries entries + 1
  | .held _ => 1
def uptoBulkAll {H : Type} : List (DataW H) → Nat
  | [] => 0
  | d :: r => uptoBulk d + uptoBulkAll r
def uptoBulkEntries {H : Type} : List (Lit × DataW H) → Nat
  | [] => 0
  | x :: r => uptoBulkEntry x + uptoBulkEntries r
def uptoBulkEntry {H : Type} : Lit × DataW H → Nat
  | (.string bytes, d) => bytes.length + uptoBulk d + 1
  | (_, d) => uptoBulk d + 1
 end
def uptoSmall : (H : Type) → List (DataW H) → Bool := fun _ ds => decide (uptoBulkAll ds ≤ 1048576)
def OpenSpec.upto (s : _root_.Go.ChangeSpec) : _root_.Go.OpenSpec := { _root_.Go.OpenSpec.ofChange s with cond := some uptoSmall }

/-- 'laws.FnExactValidArray', WHERE WHAT IT READS IS OF BULK AT MOST 1048576: true; the input reads as it did. -/
def fnExactValidArrayUptoRow : OpenClaim := { program := "ytjhcincgkbcheaagreatdoor", sum := "5a885bbead3bea053539f2c708baa01b7474af918d35f8ed62ed6ed1bbfa014a", func := "loop.example/g00904/laws.FnExactValidArray", spec := "fnExactValidArray", inPlace := ["internal/bytealg.IndexByteString", "internal/bytealg.IndexString"], unfollowed := true, recurses := true, named := ["unicode/utf8.first", "unicode/utf8.acceptRanges", "internal/bytealg.MaxLen"], loops := true, apart := false, laid := [("unicode/utf8.acceptRanges", laid_unicode_utf8_acceptRanges), ("unicode/utf8.first", laid_unicode_utf8_first)], narrowed := true }
def FnExactValidArrayUptoSaid : Prop := fnExactValidArrayUptoRow.holds Tryz.pinned (OpenSpec.upto fnExactValidArraySpec)

/-- 'laws.FnExactCompareElements', WHERE WHAT IT READS IS OF BULK AT MOST 1048576: true; the input reads as it did. -/
def fnExactCompareElementsUptoRow : OpenClaim := { program := "ytjhcincgkbcheaagreatdoor", sum := "5a885bbead3bea053539f2c708baa01b7474af918d35f8ed62ed6ed1bbfa014a", func := "loop.example/g00904/laws.FnExactCompareElements", spec := "fnExactCompareElements", inPlace := ["internal/bytealg.IndexByteString", "internal/bytealg.IndexString", "internal/bytealg.abigen_runtime_cmpstring"], unfollowed := true, recurses := true, named := ["unicode/utf8.first", "unicode/utf8.acceptRanges", "internal/bytealg.MaxLen"], loops := true, apart := false, laid := [("unicode/utf8.acceptRanges", laid_unicode_utf8_acceptRanges), ("unicode/utf8.first", laid_unicode_utf8_first)], narrowed := true }
def FnExactCompareElementsUptoSaid : Prop := fnExactCompareElementsUptoRow.holds Tryz.pinned (OpenSpec.upto fnExactCompareElementsSpec)

/-- 'laws.FnExactElementAt', WHERE WHAT IT READS IS OF BULK AT MOST 1048576: true; the input reads as it did. -/
def fnExactElementAtUptoRow : OpenClaim := { program := "ytjhcincgkbcheaagreatdoor", sum := "5a885bbead3bea053539f2c708baa01b7474af918d35f8ed62ed6ed1bbfa014a", func := "loop.example/g00904/laws.FnExactElementAt", spec := "fnExactElementAt", inPlace := ["internal/bytealg.IndexByteString", "internal/bytealg.IndexString"], unfollowed := true, recurses := true, named := ["unicode/utf8.first", "unicode/utf8.acceptRanges", "internal/bytealg.MaxLen"], loops := true, apart := false, laid := [("unicode/utf8.acceptRanges", laid_unicode_utf8_acceptRanges), ("unicode/utf8.first", laid_unicode_utf8_first)], narrowed := true }
def FnExactElementAtUptoSaid : Prop := fnExactElementAtUptoRow.holds Tryz.pinned (OpenSpec.upto fnExactElementAtSpec)

/-- 'laws.FnExactValidAttribute', WHERE WHAT IT READS IS OF BULK AT MOST 1048576: true; the input reads as it did. -/
def fnExactValidAttributeUptoRow : OpenClaim := { program := "ytjhcincgkbcheaagreatdoor", sum := "5a885bbead3bea053539f2c708baa01b7474af918d35f8ed62ed6ed1bbfa014a", func := "loop.example/g00904/laws.FnExactValidAttribute", spec := "fnExactValidAttribute", inPlace := ["internal/bytealg.IndexByteString", "internal/bytealg.IndexString"], unfollowed := true, recurses := true, named := ["unicode/utf8.first", "unicode/utf8.acceptRanges", "internal/bytealg.MaxLen"], loops := true, apart := false, laid := [("unicode/utf8.acceptRanges", laid_unicode_utf8_acceptRanges), ("unicode/utf8.first", laid_unicode_utf8_first)], narrowed := true }
def FnExactValidAttributeUptoSaid : Prop := fnExactValidAttributeUptoRow.holds Tryz.pinned (OpenSpec.upto fnExactValidAttributeSpec)

/-- 'laws.FnExactEncodeAttribute', WHERE WHAT IT READS IS OF BULK AT MOST 1048576: true; the input reads as it did. -/
def fnExactEncodeAttributeUptoRow : OpenClaim := { program := "ytjhcincgkbcheaagreatdoor", sum := "5a885bbead3bea053539f2c708baa01b7474af918d35f8ed62ed6ed1bbfa014a", func := "loop.example/g00904/laws.FnExactEncodeAttribute", spec := "fnExactEncodeAttribute", inPlace := ["internal/bytealg.IndexByteString", "internal/bytealg.IndexString"], unfollowed := true, recurses := true, named := ["unicode/utf8.first", "unicode/utf8.acceptRanges", "internal/bytealg.MaxLen"], loops := true, apart := false, laid := [("unicode/utf8.acceptRanges", laid_unicode_utf8_acceptRanges), ("unicode/utf8.first", laid_unicode_utf8_first)], narrowed := true }
def FnExactEncodeAttributeUptoSaid : Prop := fnExactEncodeAttributeUptoRow.holds Tryz.pinned (OpenSpec.upto fnExactEncodeAttributeSpec)

/-- 'laws.FnExactValidDataset', WHERE WHAT IT READS IS OF BULK AT MOST 1048576: true; the input reads as it did. -/
def fnExactValidDatasetUptoRow : OpenClaim := { program := "ytjhcincgkbcheaagreatdoor", sum := "5a885bbead3bea053539f2c708baa01b7474af918d35f8ed62ed6ed1bbfa014a", func := "loop.example/g00904/laws.FnExactValidDataset", spec := "fnExactValidDataset", inPlace := ["internal/bytealg.IndexByteString", "internal/bytealg.IndexString"], unfollowed := true, recurses := true, named := ["unicode/utf8.first", "unicode/utf8.acceptRanges", "internal/bytealg.MaxLen"], loops := true, apart := false, laid := [("unicode/utf8.acceptRanges", laid_unicode_utf8_acceptRanges), ("unicode/utf8.first", laid_unicode_utf8_first)], narrowed := true }
def FnExactValidDatasetUptoSaid : Prop := fnExactValidDatasetUptoRow.holds Tryz.pinned (OpenSpec.upto fnExactValidDatasetSpec)

end Rows
end Go.Proofs.YtjhcincgkbcheaaGreatDoor
