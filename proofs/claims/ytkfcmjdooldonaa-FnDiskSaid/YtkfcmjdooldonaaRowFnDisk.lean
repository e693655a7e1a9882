/- The row of 'FnDisk': what comes in is opened by its type's shape, the evaluator's answer is the call's, what came in reads as before. No condition. -/
import Derived.Test.YtkfcmjdooldonaaRows
import Derived.Test.YtkfcmjdooldonaaPureFnDisk
import Derived.WalkKit
import Derived.ProofKit
import Derived.OpenShut
import Derived.ShutString
import Derived.ChangeOld
import Derived.Below
import Derived.SizedLaws
namespace Go.Proofs.Ytkfcmjdooldonaa.rowFnDisk
open Go.ChangeShapes Go.WideShapes Go.ChangeAt Go.RowKit Go.Ve Go.Ve.X
open Go.ChangeMaps (open_string shut_string)
set_option linter.unusedVariables false
theorem own : ownKnob Try.prog.godebug = none := by kernel_rfl
theorem laidOut : laidOutB Try.prog = true := by kernel_rfl

theorem opv5 (n : Nat) : Opv Try.prog S n 5 [.int .u8] (fun a => (Lit.int .u8 a).wf = true) := opv_int Try.underlying5
theorem opv22 (n : Nat) : Opv Try.prog S n 22 [.arr 5] (fun (xs : List (Int)) => xs.length ≤ maxLen ∧ xs.length * 1 ≤ 140737488351232 ∧ ∀ e_ ∈ xs, (Lit.int .u8 e_).wf = true) := opv_imp (opv_slice (S := S) (e := 5) 1 Try.underlying22 (by kernel_rfl) (of_decide_eq_true (by kernel_rfl)) (by kernel_rfl) (opv5 n)) (fun xs h => h)
set_option maxRecDepth 100000 in
theorem lifted (os : Os) (started : os.Started) (H : Type) (enc : TypeId × Value → H) :
    ReturnsInHanded {} Try.checked os 5 .any (Rows.fnDiskSpec.pre6 enc Try.prog Try.f5 Rows.fnDiskRow.domain false) (Rows.fnDiskSpec.post enc Try.prog Try.f5 false true false false) := by
  refine returnsInHanded_of_change_sized (C := Try.checked) own started (by kernel_rfl) Try.func5
    (ChangeSpec.witness6 (enc := enc) (C := Try.checked) false ⟨#[], #[.slice none 0 0], []⟩ 5 (by kernel_rfl) (by kernel_rfl) (by kernel_rfl) (by kernel_rfl)) ?_
  intro W base args ds gs before hval0 hW hcnd hsz0 _
  have hsz : (DataW.weightsEach Try.prog (Try.f5.params.toList ++ Rows.fnDiskSpec.plain.varTypes Try.prog) (ds ++ gs)).all (· ≤ reachBytes) = true := hsz0
  have hval : ∀ (j : Nat) t v, Try.f5.params[j]? = some t → args[j]? = some v → Value.okWide Try.prog W .any base t v := hval0
  have hW' := hW
  obtain ⟨p, q, hA0, hV, rfl, hfz, hnd⟩ := hW
  have hA : DataW.TrodAll enc Try.prog W 0 (fun _ => true) true Try.f5.params.toList args.toList ds p := hA0
  rw [Try.params5] at hA hval hsz
  obtain ⟨v0, vs0, d0, ds0, p0, q0, hargs, rfl, rfl, h0, r0⟩ := trodAll_cons hA
  obtain ⟨rfl, rfl, rfl⟩ := trodAll_nil r0
  obtain rfl : args = #[v0] := by cases args; simp_all
  obtain ⟨rfl, rfl⟩ := trodVars_none hV
  have lt0 := trod_old h0
  obtain ⟨b0, len0, cap0, rfl⟩ := okWide_slice Try.underlying22 (hval 0 22 v0 rfl rfl)
  obtain ⟨a0, K0, O0⟩ := opv_use opv22 h0 hsz (j := 0) rfl rfl
  have hk : laws_FnDisk a0 = some true := pure_FnDisk a0 O0
  have hC := oks.call 5 0 a0 true hk
  obtain ⟨A, hAnn⟩ : ∃ A, E.ann 5 0 = some A := ⟨_, rfl⟩
  have hin : A.inL = ⟨[(0, .c (.d (.arr 5)))], []⟩ ∧ A.outL = ⟨[(0, .c (.d .bool))], []⟩ := by have := Option.some.inj (hAnn.symm.trans (show E.ann 5 0 = some _ from rfl)); subst this; exact ⟨rfl, rfl⟩
  refine (call_pure rfl hC hAnn (xs := [(0, .c (.arr 5 a0))]) (by rw [hin.1]; rfl) (vs := #[.slice b0 len0 cap0]) (w := W) ?_).mono ?_
  · intro t x hx
    simp only [List.mem_cons, List.not_mem_nil, or_false, Prod.mk.injEq] at hx
    obtain ⟨rfl, rfl⟩ := hx
    · exact crep_data1 (D := fun _ => False) (φ := fun _ => ⟨none, 0, 0, 0⟩) K0
  rintro e W' ⟨v, res, blks, φ, Fz, rfl, bel0, hres, hv⟩
  rw [hin.2] at hres
  obtain ⟨rfl, rfl⟩ : res = [(0, .c (.bool true))] ∧ blks = [] := by have := Option.some.inj (show some _ = some _ from hres); exact ⟨(congrArg Prod.fst this).symm, (congrArg Prod.snd this).symm⟩
  obtain rfl : v = .bool true := by
    have h : TRep S Fz W' (.bool true) v := hv
    generalize v = u at h
    cases h
    rfl
  have bel : Below W.heap.size W W' := bel0
  exact ⟨_, rfl, _, _, _, [], _, [], hW', trodAll_mk1 (shut_bool Try.underlying4 _), (trodAll_cons_mk (Below.trod laidOut (by kernel_rfl) (of_decide_eq_true (by kernel_rfl)) h0 bel lt0) trodAll_mk0), rfl, bel.frame _, fun h => by cases h⟩
theorem over : Rows.fnDiskRow.holds Try.pinned (OpenSpec.ofChange Rows.fnDiskSpec) :=
  OpenClaim.holds_of_wide 5 Try.f5 rfl rfl rfl rfl rfl rfl rfl ⟨rfl, rfl, rfl, rfl, rfl⟩ rfl rfl rfl rfl rfl (by kernel_rfl) Try.func5 (by kernel_rfl)
    (of_decide_eq_true (by kernel_rfl)) (by unfold Func.isWrapper; first | (rw [if_pos (by decide +kernel)]; kernel_rfl) | (rw [if_neg (by decide +kernel)]; exact ⟨rfl, rfl⟩))
    (fun os started H enc _ => lifted os started H enc)
theorem proved : Rows.FnDiskSaid := over
#print axioms proved
end Go.Proofs.Ytkfcmjdooldonaa.rowFnDisk
namespace Go.Proofs.Ytkfcmjdooldonaa
theorem fnDisk_holds : Rows.FnDiskSaid := rowFnDisk.proved
end Go.Proofs.Ytkfcmjdooldonaa
