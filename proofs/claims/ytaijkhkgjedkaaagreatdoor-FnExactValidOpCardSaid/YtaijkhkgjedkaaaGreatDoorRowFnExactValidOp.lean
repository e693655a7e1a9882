/- The row of 'FnExactValidOp': what comes in is opened by its type's shape, the evaluator's answer is the call's, what came in reads as before. No condition. -/
import Derived.Test.YtaijkhkgjedkaaaGreatDoorRows
import Derived.WalkKit
import Derived.ProofKit
import Derived.OpenShut
import Derived.ShutString
import Derived.ChangeOld
import Derived.Below
import Derived.SizedLaws
import Derived.LaidMore
import Derived.Lay
import Derived.SevenTiedAt
import Derived.Stop.Joined
import Derived.Test.YtaijkhkgjedkaaaGreatDoorTie
import Derived.Test.YtaijkhkgjedkaaaGreatDoorCards
import Derived.Test.YtaijkhkgjedkaaaGreatDoorRobFnExactValidOp
namespace Go.Proofs.YtaijkhkgjedkaaaGreatDoor.rowFnExactValidOp
open Go.ChangeShapes Go.WideShapes Go.ChangeAt Go.RowKit Go.Ve Go.Ve.X
open Go.ChangeMaps (open_string shut_string)
set_option linter.unusedVariables false
theorem proved : Rows.FnExactValidOpCardSaid := 
  Claim7.holds_tied_plain_at .later [] [.data, .pinned] true (true, "6dd4bb12b71498a1734e97556b771094c2e43f52464da07c91d53feaac490c23") false
    over (fun _ h => by cases h) (by as_aux_lemma => kernel_rfl) (fun _ h => by cases h) fnExactValidOp_row_tie rfl ⟨rfl, rfl⟩ (by as_aux_lemma => kernel_rfl) rfl
    (fun f fn hf hfn => by
      obtain rfl : f = 5 := Option.some.inj ((show Tryz.prog.funcNamed "loop.example/g00904/laws.FnExactValidOp" = some 5 by as_aux_lemma => kernel_rfl).symm.trans hf) |>.symm
      obtain rfl : fn = Tryz.f5 := (Option.some.inj (Tryz.func5.symm.trans hfn)).symm
      exact ⟨by as_aux_lemma => kernel_rfl, fun j t ht => by
        rw [Tryz.params5] at ht
        have hm : t ∈ [63] := by simpa using Array.mem_of_getElem? ht
        have hall : ([63].all fun u => !Tryz.prog.wantsStandIn u) = true := by as_aux_lemma => kernel_rfl
        exact (show Tryz.prog.wantsStandIn t = false by simpa using List.all_eq_true.1 hall t hm)⟩)
    (by as_aux_lemma => kernel_rfl)
#print axioms proved
end Go.Proofs.YtaijkhkgjedkaaaGreatDoor.rowFnExactValidOp
namespace Go.Proofs.YtaijkhkgjedkaaaGreatDoor
theorem fnExactValidOp_holds : Rows.FnExactValidOpCardSaid := rowFnExactValidOp.proved
end Go.Proofs.YtaijkhkgjedkaaaGreatDoor
