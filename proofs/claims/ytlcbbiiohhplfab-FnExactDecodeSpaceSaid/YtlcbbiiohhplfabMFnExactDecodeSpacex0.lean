/- Laid by a program of this session (mend.py) out of the text that print.sh wrote for this claim: renamed, and mended where it fell in Lean. -/
import Derived.Test.YtlcbbiiohhplfabProg
import Derived.Below
import Derived.Deep.Draws
import Derived.Deep.AppendLies
import Derived.Maps.AppendAt
import Derived.OwnWalk
import Derived.Laws.BytesArg
import Derived.Laws.MakeOwn
import Derived.Laws.OwnMore
import Derived.Deep.OwnRows
import Derived.Tactics
import Derived.Lib.ConvBytes
import Derived.Laws.Slices
import Derived.WalkKit
import Derived.KernelRfl
import Derived.RowKit3
import Derived.Deep.LoopGhost
import Derived.Deep.QuietTactic
import Derived.BigQuiet
import Derived.WideLaws
import Derived.Deep.DeepCutAuto
import Derived.Deep.CutBlock
import Derived.Deep.RegionHeld3
import Derived.Laws.Rows
import Derived.Lib.AppendStr
import Derived.ArgAppend
import Derived.Laws.IdiomCopy
import Derived.OrdersHeld
import Derived.Laws.BitsLemmas
import Derived.RowKit
import Derived.Test.YtlcbbiiohhplfabWWords
import Derived.Test.YtlcbbiiohhplfabFake
import Derived.Test.YtlcbbiiohhplfabWLast
import Derived.Test.YtlcbbiiohhplfabWTab
import Derived.Test.YtlcbbiiohhplfabWFour
import Derived.Test.YtlcbbiiohhplfabWQPut
import Derived.Test.YtlcbbiiohhplfabWApart
import Derived.Test.YtlcbbiiohhplfabWArr
import Derived.Test.YtlcbbiiohhplfabWZeros
import Derived.Test.YtlcbbiiohhplfabWFoot
import Derived.Test.YtlcbbiiohhplfabWKept
import Derived.Test.YtlcbbiiohhplfabWShare
import Derived.Test.YtlcbbiiohhplfabWN
import Derived.Test.YtlcbbiiohhplfabWFootNe
import Derived.Test.YtlcbbiiohhplfabWAt
import Derived.Test.YtlcbbiiohhplfabWEqStruct
import Derived.Test.YtlcbbiiohhplfabWRepsOne
import Derived.Test.YtlcbbiiohhplfabWInv
import Derived.Test.YtlcbbiiohhplfabWInvWords
import Derived.Test.YtlcbbiiohhplfabWGuard
import Derived.Test.YtlcbbiiohhplfabWNEv
import Derived.Test.YtlcbbiiohhplfabWMore
namespace Go.Proofs.Ytlcbbiiohhplfab.PFnExactDecodeSpace
open Go.RowKit Go.Proofs.YtlcbbiiohhplfabW.PrintWords Go.Proofs.YtlcbbiiohhplfabW.PrintLast Go.Proofs.YtlcbbiiohhplfabW.PrintMore
attribute [local go_sem] max2_int min2_int max_two min_two max_three min_three max_four min_four   -- for this text's walks alone
set_option linter.unusedVariables false
set_option linter.unusedSimpArgs false



def errW : Option Int → Value
  | none => .nilIface
  | some c => .iface 0 (.int .i64 c)
theorem errW_none : errW none = .nilIface := rfl
theorem errW_some (c : Int) : errW (some c) = .iface 0 (.int .i64 c) := rfl

theorem info2 : (Try.prog.info? 2).map (fun i => (i.zero, i.size, i.bytes)) = some (some (.int .i64 0), 1, 8) := by kernel_rfl
theorem info5 : (Try.prog.info? 5).map (fun i => (i.zero, i.size, i.bytes)) = some (some (.int .u8 0), 1, 1) := by kernel_rfl
-- the values' own types

end Go.Proofs.Ytlcbbiiohhplfab.PFnExactDecodeSpace
