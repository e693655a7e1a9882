/- The row of 'FnExactGather': what comes in is opened by its type's shape, the evaluator's answer is the call's, what came in reads as before. No condition. -/
import Derived.Test.YtaijkhkgjedkaaaGreatDoorRows
import Derived.WalkKit
import Derived.ProofKit
import Derived.OpenShut
import Derived.ShutString
import Derived.ChangeOld
import Derived.Below
import Derived.SizedLaws
import Derived.LaidMore
import Derived.Lay
import Derived.SevenTiedAt
import Derived.Stop.Joined
import Derived.Test.YtaijkhkgjedkaaaGreatDoorTie
import Derived.Test.YtaijkhkgjedkaaaGreatDoorCards
import Derived.Test.YtaijkhkgjedkaaaGreatDoorRobFnExactGather
namespace Go.Proofs.YtaijkhkgjedkaaaGreatDoor.rowFnExactGather
open Go.ChangeShapes Go.WideShapes Go.ChangeAt Go.RowKit Go.Ve Go.Ve.X
open Go.ChangeMaps (open_string shut_string)
set_option linter.unusedVariables false
theorem proved : Rows.FnExactGatherCardSaid := 
  Claim7.holds_tied_plain_at .later [] [.data, .pinned] true (true, "6dd4bb12b71498a1734e97556b771094c2e43f52464da07c91d53feaac490c23") false
    over (fun _ h => by cases h) (by as_aux_lemma => kernel_rfl) (fun _ h => by cases h) fnExactGather_row_tie rfl ⟨rfl, rfl⟩ (by as_aux_lemma => kernel_rfl) rfl
    (fun f fn hf hfn => by
      obtain rfl : f = 7 := Option.some.inj ((show Tryz.prog.funcNamed "loop.example/g00904/laws.FnExactGather" = some 7 by as_aux_lemma => kernel_rfl).symm.trans hf) |>.symm
      obtain rfl : fn = Tryz.f7 := (Option.some.inj (Tryz.func7.symm.trans hfn)).symm
      exact ⟨by as_aux_lemma => kernel_rfl, fun j t ht => by
        rw [Tryz.params7] at ht
        have hm : t ∈ [59, 57] := by simpa using Array.mem_of_getElem? ht
        have hall : ([59, 57].all fun u => !Tryz.prog.wantsStandIn u) = true := by as_aux_lemma => kernel_rfl
        exact (show Tryz.prog.wantsStandIn t = false by simpa using List.all_eq_true.1 hall t hm)⟩)
    (by as_aux_lemma => kernel_rfl)
#print axioms proved
end Go.Proofs.YtaijkhkgjedkaaaGreatDoor.rowFnExactGather
namespace Go.Proofs.YtaijkhkgjedkaaaGreatDoor
theorem fnExactGather_holds : Rows.FnExactGatherCardSaid := rowFnExactGather.proved
end Go.Proofs.YtaijkhkgjedkaaaGreatDoor
