-- PRINTED BY print.sh 35421559b90ae4d0a3588c463048766b98c2df88dd9212a6774a882060cdf62d: not written by this session
import Derived.Test.YtpachmimhampfaaProg
import Derived.Below
import Derived.Deep.Draws
import Derived.Deep.AppendLies
import Derived.Maps.AppendAt
import Derived.OwnWalk
import Derived.Laws.BytesArg
import Derived.Laws.MakeOwn
import Derived.Laws.OwnMore
import Derived.Deep.OwnRows
import Derived.Tactics
import Derived.Lib.ConvBytes
import Derived.Laws.Slices
import Derived.WalkKit
import Derived.KernelRfl
import Derived.RowKit3
import Derived.Deep.LoopGhost
import Derived.Deep.QuietTactic
import Derived.BigQuiet
import Derived.WideLaws
import Derived.Deep.DeepCutAuto
import Derived.Deep.CutBlock
import Derived.Deep.RegionHeld3
import Derived.Laws.Rows
import Derived.Lib.AppendStr
import Derived.ArgAppend
import Derived.Laws.IdiomCopy
import Derived.OrdersHeld
import Derived.Laws.BitsLemmas
import Derived.RowKit
import Derived.Test.YtpachmimhampfaaWWords
import Derived.Test.YtpachmimhampfaaWLast
import Derived.Test.YtpachmimhampfaaWTab
import Derived.Test.YtpachmimhampfaaWFour
import Derived.Test.YtpachmimhampfaaWQPut
import Derived.Test.YtpachmimhampfaaWApart
import Derived.Test.YtpachmimhampfaaWArr
import Derived.Test.YtpachmimhampfaaWZeros
import Derived.Test.YtpachmimhampfaaWFoot
import Derived.Test.YtpachmimhampfaaWKept
import Derived.Test.YtpachmimhampfaaWShare
import Derived.Test.YtpachmimhampfaaWN
import Derived.Test.YtpachmimhampfaaWFootNe
import Derived.Test.YtpachmimhampfaaWAt
import Derived.Test.YtpachmimhampfaaWEqStruct
import Derived.Test.YtpachmimhampfaaWRepsOne
import Derived.Test.YtpachmimhampfaaWInv
import Derived.Test.YtpachmimhampfaaWInvWords
import Derived.Test.YtpachmimhampfaaWGuard
import Derived.Test.YtpachmimhampfaaWNEv
import Derived.Test.YtpachmimhampfaaWMore
namespace Go.Proofs.Ytpachmimhampfaa.PFnExactKeptBy
open Go.RowKit Go.Proofs.YtpachmimhampfaaW.PrintWords Go.Proofs.YtpachmimhampfaaW.PrintLast Go.Proofs.YtpachmimhampfaaW.PrintMore
attribute [local go_sem] max2_int min2_int max_two min_two max_three min_three max_four min_four   -- for this text's walks alone
set_option linter.unusedVariables false
set_option linter.unusedSimpArgs false



def errW : Option Int → Value
  | none => .nilIface
  | some c => .iface 0 (.int .i64 c)
theorem errW_none : errW none = .nilIface := rfl
theorem errW_some (c : Int) : errW (some c) = .iface 0 (.int .i64 c) := rfl

theorem info4 : (Try.prog.info? 4).map (fun i => (i.zero, i.size, i.bytes)) = some (some (.bool false), 1, 1) := by kernel_rfl
-- the values' own types

end Go.Proofs.Ytpachmimhampfaa.PFnExactKeptBy
