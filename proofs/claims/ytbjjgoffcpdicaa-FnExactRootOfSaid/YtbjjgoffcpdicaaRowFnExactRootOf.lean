/- The row of 'FnExactRootOf': what comes in is opened by its type's shape, the evaluator's answer is the call's, what came in reads as before. No condition. -/
import Derived.Test.YtbjjgoffcpdicaaRows
import Derived.Test.YtbjjgoffcpdicaaPureFnExactRootOf
import Derived.WalkKit
import Derived.ProofKit
import Derived.OpenShut
import Derived.ShutString
import Derived.ChangeOld
import Derived.Below
import Derived.SizedLaws
namespace Go.Proofs.Ytbjjgoffcpdicaa.rowFnExactRootOf
open Go.ChangeShapes Go.WideShapes Go.ChangeAt Go.RowKit Go.Ve Go.Ve.X
open Go.ChangeMaps (open_string shut_string)
set_option linter.unusedVariables false
theorem own : ownKnob Try.prog.godebug = none := by kernel_rfl
theorem laidOut : laidOutB Try.prog = true := by kernel_rfl

theorem opv9 (n : Nat) : Opv Try.prog S n 9 [.str] (fun s => s.size ≤ 140737488351232) := opv_str Try.underlying9
theorem opv22 (n : Nat) : Opv Try.prog S n 22 [.arr 9] (fun (xs : List (ByteArray)) => xs.length ≤ maxLen ∧ xs.length * 16 ≤ 140737488351232 ∧ ∀ e_ ∈ xs, e_.size ≤ 140737488351232) := opv_imp (opv_slice (S := S) (e := 9) 16 Try.underlying22 (by kernel_rfl) (of_decide_eq_true (by kernel_rfl)) (by kernel_rfl) (opv9 n)) (fun xs h => h)
theorem opv2 (n : Nat) : Opv Try.prog S n 2 [.int .i64] (fun a => (Lit.int .i64 a).wf = true) := opv_int Try.underlying2
theorem opv100 (n : Nat) : Opv Try.prog S n 100 [.int .i64, .str] (fun (p : Int × ByteArray) => ((Lit.int .i64 p.1).wf = true) ∧ (p.2.size ≤ 140737488351232)) := by
  refine opv_imp (opv_mono (n := n + 1) (opv_struct (L := 2) Try.underlying100 (by kernel_rfl) (opvF_cons (off' := 1) (ss := [.int .i64]) (ss' := [.str]) rfl (by kernel_rfl) (opv2 n) (opvF_one rfl (by kernel_rfl) (opv9 n)))) (by omega)) ?_
  rintro p ⟨a0, b0, rfl, h0, h1⟩
  exact ⟨h0, h1⟩
theorem opv23 (n : Nat) : Opv Try.prog S n 23 [.arr 100] (fun (xs : List (Int × ByteArray)) => xs.length ≤ maxLen ∧ xs.length * 24 ≤ 140737488351232 ∧ ∀ e_ ∈ xs, ((Lit.int .i64 e_.1).wf = true) ∧ (e_.2.size ≤ 140737488351232)) := opv_imp (opv_slice (S := S) (e := 100) 24 Try.underlying23 (by kernel_rfl) (of_decide_eq_true (by kernel_rfl)) (by kernel_rfl) (opv100 n)) (fun xs h => h)
theorem opv4 (n : Nat) : Opv Try.prog S n 4 [.bool] (fun _ => True) := opv_bool Try.underlying4
theorem opv25 (n : Nat) : Opv Try.prog S n 25 [.arr 9, .arr 100, .int .i64, .bool] (fun (p : List ByteArray × List (Int × ByteArray) × Int × Bool) => (p.1.length ≤ maxLen ∧ p.1.length * 16 ≤ 140737488351232 ∧ ∀ e_ ∈ p.1, e_.size ≤ 140737488351232) ∧ (p.2.1.length ≤ maxLen ∧ p.2.1.length * 24 ≤ 140737488351232 ∧ ∀ e_ ∈ p.2.1, ((Lit.int .i64 e_.1).wf = true) ∧ (e_.2.size ≤ 140737488351232)) ∧ ((Lit.int .i64 p.2.2.1).wf = true) ∧ (True)) := by
  refine opv_imp (opv_mono (n := n + 1) (opv_struct (L := 4) Try.underlying25 (by kernel_rfl) (opvF_cons (off' := 1) (ss := [.arr 9]) (ss' := [.arr 100, .int .i64, .bool]) rfl (by kernel_rfl) (opv22 n) (opvF_cons (off' := 2) (ss := [.arr 100]) (ss' := [.int .i64, .bool]) rfl (by kernel_rfl) (opv23 n) (opvF_cons (off' := 3) (ss := [.int .i64]) (ss' := [.bool]) rfl (by kernel_rfl) (opv2 n) (opvF_one rfl (by kernel_rfl) (opv4 n)))))) (by omega)) ?_
  rintro p ⟨a0, b0, rfl, h0, ⟨a1, b1, rfl, h1, ⟨a2, b2, rfl, h2, h3⟩⟩⟩
  exact ⟨h0, h1, h2, h3⟩
theorem opv27 (n : Nat) : Opv Try.prog S n 27 [.int .i64, .int .i64, .int .i64, .int .i64] (fun (p : Int × Int × Int × Int) => ((Lit.int .i64 p.1).wf = true) ∧ ((Lit.int .i64 p.2.1).wf = true) ∧ ((Lit.int .i64 p.2.2.1).wf = true) ∧ ((Lit.int .i64 p.2.2.2).wf = true)) := by
  refine opv_imp (opv_mono (n := n + 1) (opv_struct (L := 4) Try.underlying27 (by kernel_rfl) (opvF_cons (off' := 1) (ss := [.int .i64]) (ss' := [.int .i64, .int .i64, .int .i64]) rfl (by kernel_rfl) (opv2 n) (opvF_cons (off' := 2) (ss := [.int .i64]) (ss' := [.int .i64, .int .i64]) rfl (by kernel_rfl) (opv2 n) (opvF_cons (off' := 3) (ss := [.int .i64]) (ss' := [.int .i64]) rfl (by kernel_rfl) (opv2 n) (opvF_one rfl (by kernel_rfl) (opv2 n)))))) (by omega)) ?_
  rintro p ⟨a0, b0, rfl, h0, ⟨a1, b1, rfl, h1, ⟨a2, b2, rfl, h2, h3⟩⟩⟩
  exact ⟨h0, h1, h2, h3⟩
theorem opv72 (n : Nat) : Opv Try.prog S n 72 [.int .i64, .str] (fun (p : Int × ByteArray) => ((Lit.int .i64 p.1).wf = true) ∧ (p.2.size ≤ 140737488351232)) := by
  refine opv_imp (opv_mono (n := n + 1) (opv_struct (L := 2) Try.underlying72 (by kernel_rfl) (opvF_cons (off' := 1) (ss := [.int .i64]) (ss' := [.str]) rfl (by kernel_rfl) (opv2 n) (opvF_one rfl (by kernel_rfl) (opv9 n)))) (by omega)) ?_
  rintro p ⟨a0, b0, rfl, h0, h1⟩
  exact ⟨h0, h1⟩
theorem opv28 (n : Nat) : Opv Try.prog S n 28 [.arr 72] (fun (xs : List (Int × ByteArray)) => xs.length ≤ maxLen ∧ xs.length * 24 ≤ 140737488351232 ∧ ∀ e_ ∈ xs, ((Lit.int .i64 e_.1).wf = true) ∧ (e_.2.size ≤ 140737488351232)) := opv_imp (opv_slice (S := S) (e := 72) 24 Try.underlying28 (by kernel_rfl) (of_decide_eq_true (by kernel_rfl)) (by kernel_rfl) (opv72 n)) (fun xs h => h)
theorem opv30 (n : Nat) : Opv Try.prog S n 30 [.arr 9, .arr 100, .int .i64, .bool, .int .i64, .int .i64, .int .i64, .int .i64, .int .i64, .int .i64, .arr 72, .arr 72] (fun (p : List ByteArray × List (Int × ByteArray) × Int × Bool × Int × Int × Int × Int × Int × Int × List (Int × ByteArray) × List (Int × ByteArray)) => (p.1.length ≤ maxLen ∧ p.1.length * 16 ≤ 140737488351232 ∧ ∀ e_ ∈ p.1, e_.size ≤ 140737488351232) ∧ (p.2.1.length ≤ maxLen ∧ p.2.1.length * 24 ≤ 140737488351232 ∧ ∀ e_ ∈ p.2.1, ((Lit.int .i64 e_.1).wf = true) ∧ (e_.2.size ≤ 140737488351232)) ∧ ((Lit.int .i64 p.2.2.1).wf = true) ∧ (True) ∧ ((Lit.int .i64 p.2.2.2.2.1).wf = true) ∧ ((Lit.int .i64 p.2.2.2.2.2.1).wf = true) ∧ ((Lit.int .i64 p.2.2.2.2.2.2.1).wf = true) ∧ ((Lit.int .i64 p.2.2.2.2.2.2.2.1).wf = true) ∧ ((Lit.int .i64 p.2.2.2.2.2.2.2.2.1).wf = true) ∧ ((Lit.int .i64 p.2.2.2.2.2.2.2.2.2.1).wf = true) ∧ (p.2.2.2.2.2.2.2.2.2.2.1.length ≤ maxLen ∧ p.2.2.2.2.2.2.2.2.2.2.1.length * 24 ≤ 140737488351232 ∧ ∀ e_ ∈ p.2.2.2.2.2.2.2.2.2.2.1, ((Lit.int .i64 e_.1).wf = true) ∧ (e_.2.size ≤ 140737488351232)) ∧ (p.2.2.2.2.2.2.2.2.2.2.2.length ≤ maxLen ∧ p.2.2.2.2.2.2.2.2.2.2.2.length * 24 ≤ 140737488351232 ∧ ∀ e_ ∈ p.2.2.2.2.2.2.2.2.2.2.2, ((Lit.int .i64 e_.1).wf = true) ∧ (e_.2.size ≤ 140737488351232))) := by
  refine opv_imp (opv_mono (n := n + 1) (opv_struct (L := 12) Try.underlying30 (by kernel_rfl) (opvF_cons (off' := 4) (ss := [.arr 9, .arr 100, .int .i64, .bool]) (ss' := [.int .i64, .int .i64, .int .i64, .int .i64, .int .i64, .int .i64, .arr 72, .arr 72]) rfl (by kernel_rfl) (opv25 n) (opvF_cons (off' := 8) (ss := [.int .i64, .int .i64, .int .i64, .int .i64]) (ss' := [.int .i64, .int .i64, .arr 72, .arr 72]) rfl (by kernel_rfl) (opv27 n) (opvF_cons (off' := 9) (ss := [.int .i64]) (ss' := [.int .i64, .arr 72, .arr 72]) rfl (by kernel_rfl) (opv2 n) (opvF_cons (off' := 10) (ss := [.int .i64]) (ss' := [.arr 72, .arr 72]) rfl (by kernel_rfl) (opv2 n) (opvF_cons (off' := 11) (ss := [.arr 72]) (ss' := [.arr 72]) rfl (by kernel_rfl) (opv28 n) (opvF_one rfl (by kernel_rfl) (opv28 n)))))))) (by omega)) ?_
  rintro p ⟨a0, b0, rfl, h0, ⟨a1, b1, rfl, h1, ⟨a2, b2, rfl, h2, ⟨a3, b3, rfl, h3, ⟨a4, b4, rfl, h4, h5⟩⟩⟩⟩⟩
  exact ⟨h0.1, h0.2.1, h0.2.2.1, h0.2.2.2, h1.1, h1.2.1, h1.2.2.1, h1.2.2.2, h2, h3, h4, h5⟩
set_option maxRecDepth 100000 in
theorem lifted (os : Os) (started : os.Started) (H : Type) (enc : TypeId × Value → H) :
    ReturnsInHanded {} Try.checked os 5 .any (Rows.fnExactRootOfSpec.pre6 enc Try.prog Try.f5 Rows.fnExactRootOfRow.domain false) (Rows.fnExactRootOfSpec.post enc Try.prog Try.f5 false true false false) := by
  refine returnsInHanded_of_change_sized (C := Try.checked) own started (by kernel_rfl) Try.func5
    (ChangeSpec.witness6 (enc := enc) (C := Try.checked) false ⟨#[], #[.agg #[.slice none 0 0, .slice none 0 0, .int .i64 0, .bool false, .int .i64 0, .int .i64 0, .int .i64 0, .int .i64 0, .int .i64 0, .int .i64 0, .slice none 0 0, .slice none 0 0]], []⟩ 64 (by kernel_rfl) (by kernel_rfl) (by kernel_rfl) (by kernel_rfl)) ?_
  intro W base args ds gs before hval0 hW hcnd hsz0 _
  have hsz : (DataW.weightsEach Try.prog (Try.f5.params.toList ++ Rows.fnExactRootOfSpec.plain.varTypes Try.prog) (ds ++ gs)).all (· ≤ reachBytes) = true := hsz0
  have hval : ∀ (j : Nat) t v, Try.f5.params[j]? = some t → args[j]? = some v → Value.okWide Try.prog W .any base t v := hval0
  have hW' := hW
  obtain ⟨p, q, hA0, hV, rfl, hfz, hnd⟩ := hW
  have hA : DataW.TrodAll enc Try.prog W 0 (fun _ => true) true Try.f5.params.toList args.toList ds p := hA0
  rw [Try.params5] at hA hval hsz
  obtain ⟨v0, vs0, d0, ds0, p0, q0, hargs, rfl, rfl, h0, r0⟩ := trodAll_cons hA
  obtain ⟨rfl, rfl, rfl⟩ := trodAll_nil r0
  obtain rfl : args = #[v0] := by cases args; simp_all
  obtain ⟨rfl, rfl⟩ := trodVars_none hV
  have lt0 := trod_old h0
  obtain ⟨cs0, rfl, _⟩ := okWide_struct Try.underlying30 (hval 0 30 v0 rfl rfl)
  obtain ⟨a0, K0, O0⟩ := opv_use opv30 h0 hsz (j := 0) rfl rfl
  have hk : laws_FnExactRootOf a0.1 a0.2.1 a0.2.2.1 a0.2.2.2.1 a0.2.2.2.2.1 a0.2.2.2.2.2.1 a0.2.2.2.2.2.2.1 a0.2.2.2.2.2.2.2.1 a0.2.2.2.2.2.2.2.2.1 a0.2.2.2.2.2.2.2.2.2.1 a0.2.2.2.2.2.2.2.2.2.2.1 a0.2.2.2.2.2.2.2.2.2.2.2 = some true := pure_FnExactRootOf a0.1 a0.2.1 a0.2.2.1 a0.2.2.2.1 a0.2.2.2.2.1 a0.2.2.2.2.2.1 a0.2.2.2.2.2.2.1 a0.2.2.2.2.2.2.2.1 a0.2.2.2.2.2.2.2.2.1 a0.2.2.2.2.2.2.2.2.2.1 a0.2.2.2.2.2.2.2.2.2.2.1 a0.2.2.2.2.2.2.2.2.2.2.2 O0
  have hC := oks.call 5 0 (a0.1, a0.2.1, a0.2.2.1, a0.2.2.2.1, a0.2.2.2.2.1, a0.2.2.2.2.2.1, a0.2.2.2.2.2.2.1, a0.2.2.2.2.2.2.2.1, a0.2.2.2.2.2.2.2.2.1, a0.2.2.2.2.2.2.2.2.2.1, a0.2.2.2.2.2.2.2.2.2.2.1, a0.2.2.2.2.2.2.2.2.2.2.2) true hk
  obtain ⟨A, hAnn⟩ : ∃ A, E.ann 5 0 = some A := ⟨_, rfl⟩
  have hin : A.inL = ⟨[(0, .a [.d (.arr 9), .d (.arr 100), .d (.int .i64), .d (.bool), .d (.int .i64), .d (.int .i64), .d (.int .i64), .d (.int .i64), .d (.int .i64), .d (.int .i64), .d (.arr 72), .d (.arr 72)])], []⟩ ∧ A.outL = ⟨[(0, .c (.d .bool))], []⟩ := by have := Option.some.inj (hAnn.symm.trans (show E.ann 5 0 = some _ from rfl)); subst this; exact ⟨rfl, rfl⟩
  refine (call_pure rfl hC hAnn (xs := [(0, .a [.arr 9 a0.1, .arr 100 a0.2.1, .int .i64 a0.2.2.1, .bool a0.2.2.2.1, .int .i64 a0.2.2.2.2.1, .int .i64 a0.2.2.2.2.2.1, .int .i64 a0.2.2.2.2.2.2.1, .int .i64 a0.2.2.2.2.2.2.2.1, .int .i64 a0.2.2.2.2.2.2.2.2.1, .int .i64 a0.2.2.2.2.2.2.2.2.2.1, .arr 72 a0.2.2.2.2.2.2.2.2.2.2.1, .arr 72 a0.2.2.2.2.2.2.2.2.2.2.2])]) (by rw [hin.1]; rfl) (vs := #[.agg cs0]) (w := W) ?_).mono ?_
  · intro t x hx
    simp only [List.mem_cons, List.not_mem_nil, or_false, Prod.mk.injEq] at hx
    obtain ⟨rfl, rfl⟩ := hx
    · exact ⟨cs0.toList, by simp, creps_data (D := fun _ => False) (φ := fun _ => ⟨none, 0, 0, 0⟩) K0⟩
  rintro e W' ⟨v, res, blks, φ, Fz, rfl, bel0, hres, hv⟩
  rw [hin.2] at hres
  obtain ⟨rfl, rfl⟩ : res = [(0, .c (.bool true))] ∧ blks = [] := by have := Option.some.inj (show some _ = some _ from hres); exact ⟨(congrArg Prod.fst this).symm, (congrArg Prod.snd this).symm⟩
  obtain rfl : v = .bool true := by
    have h : TRep S Fz W' (.bool true) v := hv
    generalize v = u at h
    cases h
    rfl
  have bel : Below W.heap.size W W' := bel0
  exact ⟨_, rfl, _, _, _, [], _, [], hW', trodAll_mk1 (shut_bool Try.underlying4 _), (trodAll_cons_mk (Below.trod laidOut (by kernel_rfl) (of_decide_eq_true (by kernel_rfl)) h0 bel lt0) trodAll_mk0), rfl, bel.frame _, fun h => by cases h⟩
theorem over : Rows.fnExactRootOfRow.holds Try.pinned (OpenSpec.ofChange Rows.fnExactRootOfSpec) :=
  OpenClaim.holds_of_wide 5 Try.f5 rfl rfl rfl rfl rfl rfl rfl ⟨rfl, rfl, rfl, rfl, rfl⟩ rfl rfl rfl rfl rfl (by kernel_rfl) Try.func5 (by kernel_rfl)
    (of_decide_eq_true (by kernel_rfl)) (by unfold Func.isWrapper; first | (rw [if_pos (by decide +kernel)]; kernel_rfl) | (rw [if_neg (by decide +kernel)]; exact ⟨rfl, rfl⟩))
    (fun os started H enc _ => lifted os started H enc)
theorem proved : Rows.FnExactRootOfSaid := over
#print axioms proved
end Go.Proofs.Ytbjjgoffcpdicaa.rowFnExactRootOf
namespace Go.Proofs.Ytbjjgoffcpdicaa
theorem fnExactRootOf_holds : Rows.FnExactRootOfSaid := rowFnExactRootOf.proved
end Go.Proofs.Ytbjjgoffcpdicaa
