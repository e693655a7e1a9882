/- Laid by a program of this session (mend.py) out of the text that print.sh wrote for this claim: renamed, and mended where it fell in Lean. -/
import Derived.Test.YtejjlklecmdpiaaProg
import Derived.Below
import Derived.Deep.Draws
import Derived.Deep.AppendLies
import Derived.Maps.AppendAt
import Derived.OwnWalk
import Derived.Laws.BytesArg
import Derived.Laws.MakeOwn
import Derived.Laws.OwnMore
import Derived.Deep.OwnRows
import Derived.Tactics
import Derived.Lib.ConvBytes
import Derived.Laws.Slices
import Derived.WalkKit
import Derived.KernelRfl
import Derived.RowKit3
import Derived.Deep.LoopGhost
import Derived.Deep.QuietTactic
import Derived.BigQuiet
import Derived.WideLaws
import Derived.Deep.DeepCutAuto
import Derived.Deep.CutBlock
import Derived.Deep.RegionHeld3
import Derived.Laws.Rows
import Derived.Lib.AppendStr
import Derived.ArgAppend
import Derived.Laws.IdiomCopy
import Derived.OrdersHeld
import Derived.Laws.BitsLemmas
import Derived.RowKit
import Derived.Test.YtejjlklecmdpiaaZFnHeapWords
import Derived.Test.YtejjlklecmdpiaaFake
import Derived.Test.YtejjlklecmdpiaaZFnHeapLast
import Derived.Test.YtejjlklecmdpiaaZFnHeapTab
import Derived.Test.YtejjlklecmdpiaaZFnHeapFour
import Derived.Test.YtejjlklecmdpiaaZFnHeapQPut
import Derived.Test.YtejjlklecmdpiaaZFnHeapApart
import Derived.Test.YtejjlklecmdpiaaZFnHeapArr
import Derived.Test.YtejjlklecmdpiaaZFnHeapZeros
import Derived.Test.YtejjlklecmdpiaaZFnHeapFoot
import Derived.Test.YtejjlklecmdpiaaZFnHeapKept
import Derived.Test.YtejjlklecmdpiaaZFnHeapShare
import Derived.Test.YtejjlklecmdpiaaZFnHeapN
import Derived.Test.YtejjlklecmdpiaaZFnHeapFootNe
import Derived.Test.YtejjlklecmdpiaaZFnHeapAt
import Derived.Test.YtejjlklecmdpiaaZFnHeapEqStruct
import Derived.Test.YtejjlklecmdpiaaZFnHeapRepsOne
import Derived.Test.YtejjlklecmdpiaaZFnHeapInv
import Derived.Test.YtejjlklecmdpiaaZFnHeapInvWords
import Derived.Test.YtejjlklecmdpiaaZFnHeapGuard
import Derived.Test.YtejjlklecmdpiaaZFnHeapNEv
import Derived.Test.YtejjlklecmdpiaaZFnHeapMore
namespace Go.Proofs.Ytejjlklecmdpiaa.PFnHeap
open Go.RowKit Go.Proofs.YtejjlklecmdpiaaW.PrintWords Go.Proofs.YtejjlklecmdpiaaW.PrintLast Go.Proofs.YtejjlklecmdpiaaW.PrintMore
attribute [local go_sem] max2_int min2_int max_two min_two max_three min_three max_four min_four   -- for this text's walks alone
set_option linter.unusedVariables false
set_option linter.unusedSimpArgs false



def errW : Option Int → Value
  | none => .nilIface
  | some c => .iface 0 (.int .i64 c)
theorem errW_none : errW none = .nilIface := rfl
theorem errW_some (c : Int) : errW (some c) = .iface 0 (.int .i64 c) := rfl

theorem info5 : (Try.prog.info? 5).map (fun i => (i.zero, i.size, i.bytes)) = some (some (.int .u8 0), 1, 1) := by kernel_rfl
theorem info9 : (Try.prog.info? 9).map (fun i => (i.zero, i.size, i.bytes)) = some (some (.string ⟨#[]⟩), 1, 16) := by kernel_rfl
-- the values' own types

end Go.Proofs.Ytejjlklecmdpiaa.PFnHeap
