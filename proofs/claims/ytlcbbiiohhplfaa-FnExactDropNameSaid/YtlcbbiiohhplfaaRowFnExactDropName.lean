/- The row of 'FnExactDropName', laid by a program of this session (row.py): what comes in is opened by its type's shape; the contract; what came in reads as before. No condition. -/
import Derived.Test.YtlcbbiiohhplfaaRows
import Derived.Test.YtlcbbiiohhplfaaOpen
import Derived.Test.YtlcbbiiohhplfaaPureFnExactDropName
import Derived.WalkKit
import Derived.ProofKit
import Derived.OpenShut
import Derived.ShutString
import Derived.ChangeOld
import Derived.Below
import Derived.SizedLaws
namespace Go.Proofs.Ytlcbbiiohhplfaa.rowFnExactDropName
open Go.ChangeShapes Go.WideShapes Go.ChangeAt Go.RowKit Go.Proofs.Ytlcbbiiohhplfaa.Open Go.Proofs.Ytlcbbiiohhplfaa.PFnExactDropName Go.Proofs.YtlcbbiiohhplfaaW.PrintWords
open Go.ChangeMaps (open_string shut_string)
set_option linter.unusedVariables false
theorem own : ownKnob Try.prog.godebug = none := by kernel_rfl
theorem laidOut : laidOutB Try.prog = true := by kernel_rfl
theorem opn9 (n : Nat) : Opn Try.prog n 9 Kd.string (fun s => s.size ≤ 140737488351232) := opn_str Try.underlying9
theorem opn41 (n : Nat) : Opn Try.prog n 41 (Kd.slice 9 Kd.string) (fun xs => xs.length ≤ maxLen ∧ xs.length * 16 ≤ 140737488351232 ∧ ∀ e_ ∈ xs, e_.size ≤ 140737488351232) := opn_slice 16 Try.underlying41 (by kernel_rfl) (by kernel_rfl) (opn9 n)
theorem opn56 (n : Nat) : Opn Try.prog n 56 (Kd.slice 9 Kd.string) (fun x => (x.length ≤ maxLen ∧ x.length * 16 ≤ 140737488351232 ∧ ∀ e_ ∈ x, e_.size ≤ 140737488351232)) := by
  refine opn_mono (n := n + 1) (opn_struct (L := 1) Try.underlying56 (by kernel_rfl) ?_) (by omega)
  refine opnF_one ?_ ?_ ?_
  · rfl
  · kernel_rfl
  · exact opn41 n
theorem opn2 (n : Nat) : Opn Try.prog n 2 (Kd.int .i64) (fun a => (Lit.int .i64 a).wf = true) := opn_int Try.underlying2
set_option maxRecDepth 100000 in
theorem lifted (os : Os) (started : os.Started) (H : Type) (enc : TypeId × Value → H) :
    ReturnsInHanded {} Try.checked os 8 .any (Rows.fnExactDropNameSpec.pre6 enc Try.prog Try.f8 Rows.fnExactDropNameRow.domain false) (Rows.fnExactDropNameSpec.post enc Try.prog Try.f8 false true false false) := by
  refine returnsInHanded_of_change_sized (C := Try.checked) own started (by kernel_rfl) Try.func8
    (ChangeSpec.witness6 (enc := enc) (C := Try.checked) false ⟨#[], #[.agg #[.slice none 0 0], .int .i64 0], []⟩ 8 (by kernel_rfl) (by kernel_rfl) (by kernel_rfl) (by kernel_rfl)) ?_
  intro W base args ds gs before hval0 hW hcnd hsz0 _
  have hsz : (DataW.weightsEach Try.prog (Try.f8.params.toList ++ Rows.fnExactDropNameSpec.plain.varTypes Try.prog) (ds ++ gs)).all (· ≤ reachBytes) = true := hsz0
  have hval : ∀ (j : Nat) t v, Try.f8.params[j]? = some t → args[j]? = some v → Value.okWide Try.prog W .any base t v := hval0
  have hW' := hW
  obtain ⟨p, q, hA0, hV, rfl, hfz, hnd⟩ := hW
  have hA : DataW.TrodAll enc Try.prog W 0 (fun _ => true) true Try.f8.params.toList args.toList ds p := hA0
  rw [Try.params8] at hA hval hsz
  obtain ⟨v0, vs0, d0, ds0, p0, q0, hargs, rfl, rfl, h0, r0⟩ := trodAll_cons hA
  obtain ⟨v1, vs1, d1, ds1, p1, q1, rfl, rfl, rfl, h1, r1⟩ := trodAll_cons r0
  obtain ⟨rfl, rfl, rfl⟩ := trodAll_nil r1
  obtain rfl : args = #[v0, v1] := by cases args; simp_all
  obtain ⟨rfl, rfl⟩ := trodVars_none hV
  have lt0 := trod_blocks h0
  obtain ⟨cs0, rfl, _⟩ := okWide_struct Try.underlying56 (hval 0 56 v0 rfl rfl)
  obtain ⟨x0, K0, O0⟩ := opn_use opn56 h0 hsz (j := 0) rfl rfl
  obtain ⟨A0_0, c0_0, e0, hl0_0, hc0_0⟩ := K0
  obtain rfl : cs0 = #[.slice A0_0 x0.length c0_0] := by cases cs0; simpa [Value.cells] using e0
  have lt1 := trod_blocks h1
  obtain ⟨a1, rfl, _, _, w1⟩ := open_int Try.underlying2 (hval 1 2 v1 rfl rfl) h1
  obtain ⟨k, hk⟩ := Pure.FnExactDropName x0 a1 O0 w1
  refine (laws_FnExactDropName.calls k A0_0 c0_0 x0 a1 true W hc0_0 hl0_0 hk).mono ?_
  rintro e W' ⟨rfl, bel0⟩
  have bel : Below W.heap.size W W' := bel0
  exact ⟨_, rfl, _, _, _, [], _, [], hW', trodAll_mk1 (shut_bool Try.underlying4 _), (trodAll_cons_mk (Below.trod laidOut (by kernel_rfl) (of_decide_eq_true (by kernel_rfl)) h0 bel lt0) (trodAll_cons_mk (Below.trod laidOut (by kernel_rfl) (of_decide_eq_true (by kernel_rfl)) h1 bel lt1) trodAll_mk0)), rfl, bel.frame _, fun h => by cases h⟩
theorem over : Rows.fnExactDropNameRow.holds Try.pinned (OpenSpec.ofChange Rows.fnExactDropNameSpec) :=
  OpenClaim.holds_of_wide 8 Try.f8 rfl rfl rfl rfl rfl rfl rfl ⟨rfl, rfl, rfl, rfl, rfl⟩ rfl rfl rfl rfl rfl (by kernel_rfl) Try.func8 (by kernel_rfl)
    (of_decide_eq_true (by kernel_rfl)) (by unfold Func.isWrapper; first | (rw [if_pos (by decide +kernel)]; kernel_rfl) | (rw [if_neg (by decide +kernel)]; exact ⟨rfl, rfl⟩))
    (fun os started H enc _ => lifted os started H enc)
theorem proved : Rows.FnExactDropNameSaid := over
#print axioms proved
end Go.Proofs.Ytlcbbiiohhplfaa.rowFnExactDropName
namespace Go.Proofs.Ytlcbbiiohhplfaa
theorem fnExactDropName_holds : Rows.FnExactDropNameSaid := rowFnExactDropName.proved
end Go.Proofs.Ytlcbbiiohhplfaa
