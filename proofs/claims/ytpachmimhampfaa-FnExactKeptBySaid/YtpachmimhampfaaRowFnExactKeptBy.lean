/- The row of 'FnExactKeptBy', laid by a program of this session (row.py): what comes in is opened by its type's shape; the contract; what came in reads as before. No condition. -/
import Derived.Test.YtpachmimhampfaaRows
import Derived.Test.YtpachmimhampfaaOpen
import Derived.Test.YtpachmimhampfaaPureFnExactKeptBy
import Derived.WalkKit
import Derived.ProofKit
import Derived.OpenShut
import Derived.ShutString
import Derived.ChangeOld
import Derived.Below
import Derived.SizedLaws
namespace Go.Proofs.Ytpachmimhampfaa.rowFnExactKeptBy
open Go.ChangeShapes Go.WideShapes Go.ChangeAt Go.RowKit Go.Proofs.Ytpachmimhampfaa.Open Go.Proofs.Ytpachmimhampfaa.PFnExactKeptBy Go.Proofs.YtpachmimhampfaaW.PrintWords
open Go.ChangeMaps (open_string shut_string)
set_option linter.unusedVariables false
theorem own : ownKnob Try.prog.godebug = none := by kernel_rfl
theorem laidOut : laidOutB Try.prog = true := by kernel_rfl
theorem opn2 (n : Nat) : Opn Try.prog n 2 (Kd.int .i64) (fun a => (Lit.int .i64 a).wf = true) := opn_int Try.underlying2
theorem opn23 (n : Nat) : Opn Try.prog n 23 (Kd.pair (Kd.int .i64) (Kd.pair (Kd.int .i64) (Kd.int .i64))) (fun x => ((Lit.int .i64 x.1).wf = true) ∧ ((Lit.int .i64 x.2.1).wf = true) ∧ ((Lit.int .i64 x.2.2).wf = true)) := by
  refine opn_mono (n := n + 1) (opn_struct (L := 3) Try.underlying23 (by kernel_rfl) ?_) (by omega)
  refine opnF_cons (off' := 1) (ok := fun (x : Int) => (Lit.int .i64 x).wf = true) (ok' := fun (x : Int × Int) => ((Lit.int .i64 x.1).wf = true) ∧ ((Lit.int .i64 x.2).wf = true)) ?_ ?_ ?_ ?_
  · rfl
  · kernel_rfl
  · exact opn2 n
  refine opnF_cons (off' := 2) (ok := fun (x : Int) => (Lit.int .i64 x).wf = true) (ok' := fun (x : Int) => ((Lit.int .i64 x).wf = true)) ?_ ?_ ?_ ?_
  · rfl
  · kernel_rfl
  · exact opn2 n
  refine opnF_one ?_ ?_ ?_
  · rfl
  · kernel_rfl
  · exact opn2 n
set_option maxRecDepth 100000 in
theorem lifted (os : Os) (started : os.Started) (H : Type) (enc : TypeId × Value → H) :
    ReturnsInHanded {} Try.checked os 6 .any (Rows.fnExactKeptBySpec.pre6 enc Try.prog Try.f6 Rows.fnExactKeptByRow.domain false) (Rows.fnExactKeptBySpec.post enc Try.prog Try.f6 false true false false) := by
  refine returnsInHanded_of_change_sized (C := Try.checked) own started (by kernel_rfl) Try.func6
    (ChangeSpec.witness6 (enc := enc) (C := Try.checked) false ⟨#[], #[.agg #[.int .i64 0, .int .i64 0, .int .i64 0], .int .i64 0], []⟩ 8 (by kernel_rfl) (by kernel_rfl) (by kernel_rfl) (by kernel_rfl)) ?_
  intro W base args ds gs before hval0 hW hcnd hsz0 _
  have hsz : (DataW.weightsEach Try.prog (Try.f6.params.toList ++ Rows.fnExactKeptBySpec.plain.varTypes Try.prog) (ds ++ gs)).all (· ≤ reachBytes) = true := hsz0
  have hval : ∀ (j : Nat) t v, Try.f6.params[j]? = some t → args[j]? = some v → Value.okWide Try.prog W .any base t v := hval0
  have hW' := hW
  obtain ⟨p, q, hA0, hV, rfl, hfz, hnd⟩ := hW
  have hA : DataW.TrodAll enc Try.prog W 0 (fun _ => true) true Try.f6.params.toList args.toList ds p := hA0
  rw [Try.params6] at hA hval hsz
  obtain ⟨v0, vs0, d0, ds0, p0, q0, hargs, rfl, rfl, h0, r0⟩ := trodAll_cons hA
  obtain ⟨v1, vs1, d1, ds1, p1, q1, rfl, rfl, rfl, h1, r1⟩ := trodAll_cons r0
  obtain ⟨rfl, rfl, rfl⟩ := trodAll_nil r1
  obtain rfl : args = #[v0, v1] := by cases args; simp_all
  obtain ⟨rfl, rfl⟩ := trodVars_none hV
  have lt0 := trod_blocks h0
  obtain ⟨cs0, rfl, _⟩ := okWide_struct Try.underlying23 (hval 0 23 v0 rfl rfl)
  obtain ⟨x0, K0, O0⟩ := opn_use opn23 h0 hsz (j := 0) rfl rfl
  obtain ⟨_, _, e0, rfl, ⟨_, _, rfl, rfl, rfl⟩⟩ := K0
  obtain rfl : cs0 = #[.int .i64 x0.1, .int .i64 x0.2.1, .int .i64 x0.2.2] := by cases cs0; simpa [Value.cells] using e0
  have lt1 := trod_blocks h1
  obtain ⟨a1, rfl, _, _, w1⟩ := open_int Try.underlying2 (hval 1 2 v1 rfl rfl) h1
  obtain ⟨k, hk⟩ := Pure.FnExactKeptBy x0.1 x0.2.1 x0.2.2 a1 O0.1 O0.2.1 O0.2.2 w1
  refine (laws_FnExactKeptBy.calls k x0.1 x0.2.1 x0.2.2 a1 true W hk).mono ?_
  rintro e W' ⟨rfl, bel0⟩
  have bel : Below W.heap.size W W' := bel0
  exact ⟨_, rfl, _, _, _, [], _, [], hW', trodAll_mk1 (shut_bool Try.underlying4 _), (trodAll_cons_mk (Below.trod laidOut (by kernel_rfl) (of_decide_eq_true (by kernel_rfl)) h0 bel lt0) (trodAll_cons_mk (Below.trod laidOut (by kernel_rfl) (of_decide_eq_true (by kernel_rfl)) h1 bel lt1) trodAll_mk0)), rfl, bel.frame _, fun h => by cases h⟩
theorem over : Rows.fnExactKeptByRow.holds Try.pinned (OpenSpec.ofChange Rows.fnExactKeptBySpec) :=
  OpenClaim.holds_of_wide 6 Try.f6 rfl rfl rfl rfl rfl rfl rfl ⟨rfl, rfl, rfl, rfl, rfl⟩ rfl rfl rfl rfl rfl (by kernel_rfl) Try.func6 (by kernel_rfl)
    (of_decide_eq_true (by kernel_rfl)) (by unfold Func.isWrapper; first | (rw [if_pos (by decide +kernel)]; kernel_rfl) | (rw [if_neg (by decide +kernel)]; exact ⟨rfl, rfl⟩))
    (fun os started H enc _ => lifted os started H enc)
theorem proved : Rows.FnExactKeptBySaid := over
#print axioms proved
end Go.Proofs.Ytpachmimhampfaa.rowFnExactKeptBy
namespace Go.Proofs.Ytpachmimhampfaa
theorem fnExactKeptBy_holds : Rows.FnExactKeptBySaid := rowFnExactKeptBy.proved
end Go.Proofs.Ytpachmimhampfaa
