/- The row of 'FnExactPipelineText': what comes in is opened by its type's shape, the evaluator's answer is the call's, what came in reads as before. No condition. -/
import Derived.Test.YtgklhpocmnjpfaaDoorRows
import Derived.Test.YtgklhpocmnjpfaaDoorPureFnExactPipelineText
import Derived.WalkKit
import Derived.ProofKit
import Derived.OpenShut
import Derived.ShutString
import Derived.ChangeOld
import Derived.Below
import Derived.SizedLaws
import Derived.LaidMore
import Derived.Lay
import Derived.SevenTiedAt
import Derived.Stop.Joined
import Derived.Test.YtgklhpocmnjpfaaDoorTie
import Derived.Test.YtgklhpocmnjpfaaDoorCards
namespace Go.Proofs.YtgklhpocmnjpfaaDoor.rowFnExactPipelineText
open Go.ChangeShapes Go.WideShapes Go.ChangeAt Go.RowKit Go.Ve Go.Ve.X
open Go.ChangeMaps (open_string shut_string)
set_option linter.unusedVariables false
theorem own : ownKnob Tryd.prog.godebug = none := by kernel_rfl
theorem laidOut : laidOutB Tryd.prog = true := by kernel_rfl

theorem opv2 (n : Nat) : Opv Tryd.prog S n 2 [.int .i64] (fun a => (Lit.int .i64 a).wf = true) := opv_int Tryd.underlying2
theorem opv4 (n : Nat) : Opv Tryd.prog S n 4 [.bool] (fun _ => True) := opv_bool Tryd.underlying4
theorem opv77 (n : Nat) : Opv Tryd.prog S n 77 [.int .i64, .int .i64, .bool] (fun (p : Int × Int × Bool) => ((Lit.int .i64 p.1).wf = true) ∧ ((Lit.int .i64 p.2.1).wf = true) ∧ (True)) := by
  refine opv_imp (opv_mono (n := n + 1) (opv_struct (L := 3) Tryd.underlying77 (by kernel_rfl) (opvF_cons (off' := 1) (ss := [.int .i64]) (ss' := [.int .i64, .bool]) rfl (by kernel_rfl) (opv2 n) (opvF_cons (off' := 2) (ss := [.int .i64]) (ss' := [.bool]) rfl (by kernel_rfl) (opv2 n) (opvF_one rfl (by kernel_rfl) (opv4 n))))) (by omega)) ?_
  rintro p ⟨a0, b0, rfl, h0, ⟨a1, b1, rfl, h1, h2⟩⟩
  exact ⟨h0, h1, h2⟩
theorem opv28 (n : Nat) : Opv Tryd.prog S n 28 [.arr 77] (fun (xs : List (Int × Int × Bool)) => xs.length ≤ maxLen ∧ xs.length * 24 ≤ 140737488351232 ∧ ∀ e_ ∈ xs, ((Lit.int .i64 e_.1).wf = true) ∧ ((Lit.int .i64 e_.2.1).wf = true) ∧ (True)) := opv_imp (opv_slice (S := S) (e := 77) 24 Tryd.underlying28 (by kernel_rfl) (of_decide_eq_true (by kernel_rfl)) (by kernel_rfl) (opv77 n)) (fun xs h => h)
set_option maxRecDepth 100000 in
theorem lifted (os : Os) (started : os.Started) (H : Type) (enc : TypeId × Value → H) :
    ReturnsInHanded {} Tryd.checked os 4 .any (fun w args => (Rows.fnExactPipelineTextSpec.pre enc Tryd.prog Tryd.f4 Rows.fnExactPipelineTextRow.domain false w args ∧ laidMetH Tryd.prog Rows.fnExactPipelineTextRow.laid w) ∧ sizedMet enc Tryd.prog Tryd.f4 (OpenSpec.ofChange Rows.fnExactPipelineTextSpec) false w args) (Rows.fnExactPipelineTextSpec.post enc Tryd.prog Tryd.f4 false true false false) := by
  refine returnsInHanded_of_change_and (C := Tryd.checked) (X := fun w _ => laidMetH Tryd.prog Rows.fnExactPipelineTextRow.laid w) (fun _ _ _ hh h => h.of_heap hh) own started (by kernel_rfl) Tryd.func4
    (ChangeSpec.witness_shaped (enc := enc) (C := Tryd.checked) (os := os) (X := fun w _ => laidMetH Tryd.prog Rows.fnExactPipelineTextRow.laid w) false (World.laidAll Tryd.prog os Rows.fnExactPipelineTextRow.laid) #[.slice none 0 0] 64 (World.laidAll_os _ _ _)
      (World.shaped_of_ZipB (by kernel_rfl) (by kernel_rfl)) (by kernel_rfl) (by kernel_rfl) (by kernel_rfl) (by rw [MakeChecks.laidMetH_plain _ _ _ (by kernel_rfl)]; exact laidMet_laidAll _ (by kernel_rfl) (by kernel_rfl))) ?_
  intro W base args ds gs before hval0 hW hcnd hsz0 hlaid _
  have hsz : (DataW.weightsEach Tryd.prog (Tryd.f4.params.toList ++ Rows.fnExactPipelineTextSpec.plain.varTypes Tryd.prog) (ds ++ gs)).all (· ≤ reachBytes) = true := hsz0
  have hval : ∀ (j : Nat) t v, Tryd.f4.params[j]? = some t → args[j]? = some v → Value.okWide Tryd.prog W .any base t v := hval0
  have hW' := hW
  obtain ⟨p, q, hA0, hV, rfl, hfz, hnd⟩ := hW
  have hA : DataW.TrodAll enc Tryd.prog W 0 (fun _ => true) true Tryd.f4.params.toList args.toList ds p := hA0
  rw [Tryd.params4] at hA hval hsz
  obtain ⟨v0, vs0, d0, ds0, p0, q0, hargs, rfl, rfl, h0, r0⟩ := trodAll_cons hA
  obtain ⟨rfl, rfl, rfl⟩ := trodAll_nil r0
  obtain rfl : args = #[v0] := by cases args; simp_all
  obtain ⟨rfl, rfl⟩ := trodVars_none hV
  have lt0 := trod_old h0
  obtain ⟨b0, len0, cap0, rfl⟩ := okWide_slice Tryd.underlying28 (hval 0 28 v0 rfl rfl)
  obtain ⟨a0, K0, O0⟩ := opv_use opv28 h0 hsz (j := 0) rfl rfl
  have hk : laws_FnExactPipelineText a0 = some true := pure_FnExactPipelineText a0 O0
  have hC := oks.call 4 0 a0 true hk
  obtain ⟨A, hAnn⟩ : ∃ A, E.ann 4 0 = some A := ⟨_, rfl⟩
  have hin : A.inL = ⟨[(0, .c (.d (.arr 77)))], []⟩ ∧ A.outL = ⟨[(0, .c (.d .bool))], []⟩ := by have := Option.some.inj (hAnn.symm.trans (show E.ann 4 0 = some _ from rfl)); subst this; exact ⟨rfl, rfl⟩
  refine (call_pure rfl hC hAnn (xs := [(0, .c (.arr 77 a0))]) (by rw [hin.1]; rfl) (vs := #[.slice b0 len0 cap0]) (w := W) ?_ (hfix := (fixed_of_tab 1 (by kernel_rfl) (by kernel_rfl) (tab_of_laid (d := Rows.laid_internal_strconv_uint64pow10) (by kernel_rfl) 1 170 148 20 (by kernel_rfl) (by kernel_rfl) (by kernel_rfl) (by kernel_rfl) (by kernel_rfl) (by kernel_rfl) (laidMet_tl (laidMet_tl (Eq.mp (MakeChecks.laidMetH_plain _ _ _ (by kernel_rfl)) hlaid))))))).mono ?_
  · intro t x hx
    simp only [List.mem_cons, List.not_mem_nil, or_false, Prod.mk.injEq] at hx
    obtain ⟨rfl, rfl⟩ := hx
    · exact crep_data1 (D := fun _ => False) (φ := fun _ => ⟨none, 0, 0, 0⟩) K0
  rintro e W' ⟨v, res, blks, φ, Fz, rfl, bel0, hres, hv⟩
  rw [hin.2] at hres
  obtain ⟨rfl, rfl⟩ : res = [(0, .c (.bool true))] ∧ blks = [] := by have := Option.some.inj (show some _ = some _ from hres); exact ⟨(congrArg Prod.fst this).symm, (congrArg Prod.snd this).symm⟩
  obtain rfl : v = .bool true := by
    have h : TRep S Fz W' (.bool true) v := hv
    generalize v = u at h
    cases h
    rfl
  have bel : Below W.heap.size W W' := bel0
  exact ⟨_, rfl, _, _, _, [], _, [], hW', trodAll_mk1 (shut_bool Tryd.underlying4 _), (trodAll_cons_mk (Below.trod laidOut (by kernel_rfl) (of_decide_eq_true (by kernel_rfl)) h0 bel lt0) trodAll_mk0), rfl, bel.frame _, fun h => by cases h⟩
theorem over : Rows.fnExactPipelineTextRow.holds Tryd.pinned (OpenSpec.ofChange Rows.fnExactPipelineTextSpec) :=
  OpenClaim.holds_of_wide 4 Tryd.f4 rfl rfl rfl rfl rfl rfl rfl ⟨rfl, rfl, rfl, rfl, rfl⟩ rfl rfl rfl rfl rfl (by kernel_rfl) Tryd.func4 (by kernel_rfl)
    (of_decide_eq_true (by kernel_rfl)) (by unfold Func.isWrapper; first | (rw [if_pos (by decide +kernel)]; kernel_rfl) | (rw [if_neg (by decide +kernel)]; exact ⟨rfl, rfl⟩))
    (fun os started H enc _ => lifted os started H enc)
theorem proved : Rows.FnExactPipelineTextCardSaid := 
  Claim7.holds_tied_plain_at .later [] [.data, .data, .data] true (true, "d8822d272275aa2cb022dd6169fa5c087d083b84a0574103176f38e16837131e") true
    over (fun _ h => by cases h) (by kernel_rfl) (fun _ h => by cases h) fnExactPipelineText_row_tie rfl ⟨rfl, rfl⟩ (by kernel_rfl) rfl
    (fun f fn hf hfn => by
      obtain rfl : f = 4 := Option.some.inj ((show Tryd.prog.funcNamed "loop.example/g00904/laws.FnExactPipelineText" = some 4 by kernel_rfl).symm.trans hf) |>.symm
      obtain rfl : fn = Tryd.f4 := (Option.some.inj (Tryd.func4.symm.trans hfn)).symm
      exact ⟨by kernel_rfl, fun j t ht => by
        rw [Tryd.params4] at ht
        have hm : t ∈ [28] := by simpa using Array.mem_of_getElem? ht
        have hall : ([28].all fun u => !Tryd.prog.wantsStandIn u) = true := by kernel_rfl
        exact (show Tryd.prog.wantsStandIn t = false by simpa using List.all_eq_true.1 hall t hm)⟩)
    (by kernel_rfl)
#print axioms proved
end Go.Proofs.YtgklhpocmnjpfaaDoor.rowFnExactPipelineText
namespace Go.Proofs.YtgklhpocmnjpfaaDoor
theorem fnExactPipelineText_holds : Rows.FnExactPipelineTextCardSaid := rowFnExactPipelineText.proved
end Go.Proofs.YtgklhpocmnjpfaaDoor
