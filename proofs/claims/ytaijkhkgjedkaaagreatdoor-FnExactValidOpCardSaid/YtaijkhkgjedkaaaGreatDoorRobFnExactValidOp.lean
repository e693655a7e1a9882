/- The row of 'FnExactValidOp': what comes in is opened by its type's shape, the evaluator's answer is the call's, what came in reads as before. No condition. -/
import Derived.Test.YtaijkhkgjedkaaaGreatDoorRows
import Derived.WalkKit
import Derived.ProofKit
import Derived.OpenShut
import Derived.ShutString
import Derived.ChangeOld
import Derived.Below
import Derived.SizedLaws
import Derived.LaidMore
import Derived.Lay
import Derived.SevenTiedAt
import Derived.Stop.Joined
import Derived.Test.YtaijkhkgjedkaaaGreatDoorTie
import Derived.Test.YtaijkhkgjedkaaaGreatDoorCards
import Derived.Test.YtaijkhkgjedkaaaGreatDoorRoaFnExactValidOp
namespace Go.Proofs.YtaijkhkgjedkaaaGreatDoor.rowFnExactValidOp
open Go.ChangeShapes Go.WideShapes Go.ChangeAt Go.RowKit Go.Ve Go.Ve.X
open Go.ChangeMaps (open_string shut_string)
set_option linter.unusedVariables false
theorem and2 {a b : Bool} (h : a = true) (h2 : b = true) : (a && b) = true := by rw [h, h2]; rfl
theorem fact1 : (Rows.fnExactValidOpRow.inPlace == Tryz.pinned.checked.prog.inPlace 5) = true := by kernel_rfl
theorem fact2 : (Rows.fnExactValidOpRow.unfollowed == Tryz.pinned.checked.prog.unfollowed 5) = true := by kernel_rfl
theorem fact3 : (Rows.fnExactValidOpRow.recurses == Tryz.pinned.checked.prog.recurses 5) = true := by kernel_rfl
theorem fact4 : (Rows.fnExactValidOpRow.named == Tryz.pinned.checked.prog.varsNamed 5) = true := by kernel_rfl
theorem fact5 : mapsRowed Tryz.pinned.checked.prog = true := by kernel_rfl
theorem fact6 : Tryz.pinned.checked.prog.stopsHeard = true := by kernel_rfl
theorem fact7 : (Rows.fnExactValidOpRow.lifted == Tryz.pinned.checked.prog.liftsFinal) = true := by kernel_rfl
theorem fact8 : (Rows.fnExactValidOpRow.plainKeys == Tryz.pinned.checked.prog.plainKeys) = true := by kernel_rfl
theorem fact9 : (Tryz.pinned.checked.prog.stops == []) = true := by kernel_rfl
theorem fact10 : (Tryz.pinned.checked.prog.stopKnobs == []) = true := by kernel_rfl
theorem fact11 : Tryz.pinned.checked.prog.mayEnter = true := by kernel_rfl
theorem fact12 : laidOutB Tryz.pinned.checked.prog = true := by kernel_rfl
theorem fact13 : (Tryz.pinned.checked.prog.make == some Rows.fnExactValidOpRow.make) = true := by kernel_rfl
theorem facts : joinedFacts Tryz.pinned.checked.prog 5 Tryz.f5 Rows.fnExactValidOpSpec Rows.fnExactValidOpRow = true := by
  unfold joinedFacts
  repeat' with_reducible apply and2
  all_goals first | with_reducible exact fact1 | with_reducible exact fact2 | with_reducible exact fact3 | with_reducible exact fact4 | with_reducible exact fact5 | with_reducible exact fact6 | with_reducible exact fact7 | with_reducible exact fact8 | with_reducible exact fact9 | with_reducible exact fact10 | with_reducible exact fact11 | with_reducible exact fact12 | with_reducible exact fact13 | kernel_rfl
theorem over : Rows.fnExactValidOpRow.holds Tryz.pinned (OpenSpec.ofChange Rows.fnExactValidOpSpec) :=
  OpenClaim.holds_of_wide 5 Tryz.f5 rfl rfl rfl rfl rfl rfl rfl ⟨rfl, rfl, rfl, rfl, rfl⟩ rfl rfl rfl rfl rfl (by kernel_rfl) Tryz.func5 facts
    (of_decide_eq_true (by kernel_rfl)) (by unfold Func.isWrapper; first | (rw [if_pos (by decide +kernel)]; kernel_rfl) | (rw [if_neg (by decide +kernel)]; exact ⟨rfl, rfl⟩))
    (fun os started H enc _ => lifted os started H enc)
end Go.Proofs.YtaijkhkgjedkaaaGreatDoor.rowFnExactValidOp
