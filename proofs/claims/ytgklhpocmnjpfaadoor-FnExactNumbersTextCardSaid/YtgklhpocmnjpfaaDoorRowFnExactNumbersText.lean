/- The row of 'FnExactNumbersText': what comes in is opened by its type's shape, the evaluator's answer is the call's, what came in reads as before. No condition. -/
import Derived.Test.YtgklhpocmnjpfaaDoorRows
import Derived.Test.YtgklhpocmnjpfaaDoorPureFnExactNumbersText
import Derived.WalkKit
import Derived.ProofKit
import Derived.OpenShut
import Derived.ShutString
import Derived.ChangeOld
import Derived.Below
import Derived.SizedLaws
import Derived.LaidMore
import Derived.Lay
import Derived.SevenTiedAt
import Derived.Stop.Joined
import Derived.Test.YtgklhpocmnjpfaaDoorTie
import Derived.Test.YtgklhpocmnjpfaaDoorCards
namespace Go.Proofs.YtgklhpocmnjpfaaDoor.rowFnExactNumbersText
open Go.ChangeShapes Go.WideShapes Go.ChangeAt Go.RowKit Go.Ve Go.Ve.X
open Go.ChangeMaps (open_string shut_string)
set_option linter.unusedVariables false
theorem own : ownKnob Tryd.prog.godebug = none := by kernel_rfl
theorem laidOut : laidOutB Tryd.prog = true := by kernel_rfl

theorem opv2 (n : Nat) : Opv Tryd.prog S n 2 [.int .i64] (fun a => (Lit.int .i64 a).wf = true) := opv_int Tryd.underlying2
theorem opv35 (n : Nat) : Opv Tryd.prog S n 35 [.arr 2] (fun (xs : List (Int)) => xs.length ≤ maxLen ∧ xs.length * 8 ≤ 140737488351232 ∧ ∀ e_ ∈ xs, (Lit.int .i64 e_).wf = true) := opv_imp (opv_slice (S := S) (e := 2) 8 Tryd.underlying35 (by kernel_rfl) (of_decide_eq_true (by kernel_rfl)) (by kernel_rfl) (opv2 n)) (fun xs h => h)
theorem opv45 (n : Nat) : Opv Tryd.prog S n 45 [.arr 2, .arr 2] (fun (p : List Int × List Int) => (p.1.length ≤ maxLen ∧ p.1.length * 8 ≤ 140737488351232 ∧ ∀ e_ ∈ p.1, (Lit.int .i64 e_).wf = true) ∧ (p.2.length ≤ maxLen ∧ p.2.length * 8 ≤ 140737488351232 ∧ ∀ e_ ∈ p.2, (Lit.int .i64 e_).wf = true)) := by
  refine opv_imp (opv_mono (n := n + 1) (opv_struct (L := 2) Tryd.underlying45 (by kernel_rfl) (opvF_cons (off' := 1) (ss := [.arr 2]) (ss' := [.arr 2]) rfl (by kernel_rfl) (opv35 n) (opvF_one rfl (by kernel_rfl) (opv35 n)))) (by omega)) ?_
  rintro p ⟨a0, b0, rfl, h0, h1⟩
  exact ⟨h0, h1⟩
set_option maxRecDepth 100000 in
theorem lifted (os : Os) (started : os.Started) (H : Type) (enc : TypeId × Value → H) :
    ReturnsInHanded {} Tryd.checked os 6 .any (fun w args => (Rows.fnExactNumbersTextSpec.pre enc Tryd.prog Tryd.f6 Rows.fnExactNumbersTextRow.domain false w args ∧ laidMetH Tryd.prog Rows.fnExactNumbersTextRow.laid w) ∧ sizedMet enc Tryd.prog Tryd.f6 (OpenSpec.ofChange Rows.fnExactNumbersTextSpec) false w args) (Rows.fnExactNumbersTextSpec.post enc Tryd.prog Tryd.f6 false true false false) := by
  refine returnsInHanded_of_change_and (C := Tryd.checked) (X := fun w _ => laidMetH Tryd.prog Rows.fnExactNumbersTextRow.laid w) (fun _ _ _ hh h => h.of_heap hh) own started (by kernel_rfl) Tryd.func6
    (ChangeSpec.witness_shaped (enc := enc) (C := Tryd.checked) (os := os) (X := fun w _ => laidMetH Tryd.prog Rows.fnExactNumbersTextRow.laid w) false (World.laidAll Tryd.prog os Rows.fnExactNumbersTextRow.laid) #[.agg #[.slice none 0 0, .slice none 0 0]] 64 (World.laidAll_os _ _ _)
      (World.shaped_of_ZipB (by kernel_rfl) (by kernel_rfl)) (by kernel_rfl) (by kernel_rfl) (by kernel_rfl) (by rw [MakeChecks.laidMetH_plain _ _ _ (by kernel_rfl)]; exact laidMet_laidAll _ (by kernel_rfl) (by kernel_rfl))) ?_
  intro W base args ds gs before hval0 hW hcnd hsz0 hlaid _
  have hsz : (DataW.weightsEach Tryd.prog (Tryd.f6.params.toList ++ Rows.fnExactNumbersTextSpec.plain.varTypes Tryd.prog) (ds ++ gs)).all (· ≤ reachBytes) = true := hsz0
  have hval : ∀ (j : Nat) t v, Tryd.f6.params[j]? = some t → args[j]? = some v → Value.okWide Tryd.prog W .any base t v := hval0
  have hW' := hW
  obtain ⟨p, q, hA0, hV, rfl, hfz, hnd⟩ := hW
  have hA : DataW.TrodAll enc Tryd.prog W 0 (fun _ => true) true Tryd.f6.params.toList args.toList ds p := hA0
  rw [Tryd.params6] at hA hval hsz
  obtain ⟨v0, vs0, d0, ds0, p0, q0, hargs, rfl, rfl, h0, r0⟩ := trodAll_cons hA
  obtain ⟨rfl, rfl, rfl⟩ := trodAll_nil r0
  obtain rfl : args = #[v0] := by cases args; simp_all
  obtain ⟨rfl, rfl⟩ := trodVars_none hV
  have lt0 := trod_old h0
  obtain ⟨cs0, rfl, _⟩ := okWide_struct Tryd.underlying45 (hval 0 45 v0 rfl rfl)
  obtain ⟨a0, K0, O0⟩ := opv_use opv45 h0 hsz (j := 0) rfl rfl
  have hk : laws_FnExactNumbersText a0.1 a0.2 = some true := pure_FnExactNumbersText a0.1 a0.2 O0
  have hC := oks.call 6 0 (a0.1, a0.2) true hk
  obtain ⟨A, hAnn⟩ : ∃ A, E.ann 6 0 = some A := ⟨_, rfl⟩
  have hin : A.inL = ⟨[(0, .a [.d (.arr 2), .d (.arr 2)])], []⟩ ∧ A.outL = ⟨[(0, .c (.d .bool))], []⟩ := by have := Option.some.inj (hAnn.symm.trans (show E.ann 6 0 = some _ from rfl)); subst this; exact ⟨rfl, rfl⟩
  refine (call_pure rfl hC hAnn (xs := [(0, .a [.arr 2 a0.1, .arr 2 a0.2])]) (by rw [hin.1]; rfl) (vs := #[.agg cs0]) (w := W) ?_ (hfix := (fixed_of_tab 1 (by kernel_rfl) (by kernel_rfl) (tab_of_laid (d := Rows.laid_internal_strconv_uint64pow10) (by kernel_rfl) 1 170 148 20 (by kernel_rfl) (by kernel_rfl) (by kernel_rfl) (by kernel_rfl) (by kernel_rfl) (by kernel_rfl) (laidMet_tl (laidMet_tl (Eq.mp (MakeChecks.laidMetH_plain _ _ _ (by kernel_rfl)) hlaid))))))).mono ?_
  · intro t x hx
    simp only [List.mem_cons, List.not_mem_nil, or_false, Prod.mk.injEq] at hx
    obtain ⟨rfl, rfl⟩ := hx
    · exact ⟨cs0.toList, by simp, creps_data (D := fun _ => False) (φ := fun _ => ⟨none, 0, 0, 0⟩) K0⟩
  rintro e W' ⟨v, res, blks, φ, Fz, rfl, bel0, hres, hv⟩
  rw [hin.2] at hres
  obtain ⟨rfl, rfl⟩ : res = [(0, .c (.bool true))] ∧ blks = [] := by have := Option.some.inj (show some _ = some _ from hres); exact ⟨(congrArg Prod.fst this).symm, (congrArg Prod.snd this).symm⟩
  obtain rfl : v = .bool true := by
    have h : TRep S Fz W' (.bool true) v := hv
    generalize v = u at h
    cases h
    rfl
  have bel : Below W.heap.size W W' := bel0
  exact ⟨_, rfl, _, _, _, [], _, [], hW', trodAll_mk1 (shut_bool Tryd.underlying4 _), (trodAll_cons_mk (Below.trod laidOut (by kernel_rfl) (of_decide_eq_true (by kernel_rfl)) h0 bel lt0) trodAll_mk0), rfl, bel.frame _, fun h => by cases h⟩
theorem over : Rows.fnExactNumbersTextRow.holds Tryd.pinned (OpenSpec.ofChange Rows.fnExactNumbersTextSpec) :=
  OpenClaim.holds_of_wide 6 Tryd.f6 rfl rfl rfl rfl rfl rfl rfl ⟨rfl, rfl, rfl, rfl, rfl⟩ rfl rfl rfl rfl rfl (by kernel_rfl) Tryd.func6 (by kernel_rfl)
    (of_decide_eq_true (by kernel_rfl)) (by unfold Func.isWrapper; first | (rw [if_pos (by decide +kernel)]; kernel_rfl) | (rw [if_neg (by decide +kernel)]; exact ⟨rfl, rfl⟩))
    (fun os started H enc _ => lifted os started H enc)
theorem proved : Rows.FnExactNumbersTextCardSaid := 
  Claim7.holds_tied_plain_at .later [] [.data, .data, .data] true (true, "d8822d272275aa2cb022dd6169fa5c087d083b84a0574103176f38e16837131e") true
    over (fun _ h => by cases h) (by kernel_rfl) (fun _ h => by cases h) fnExactNumbersText_row_tie rfl ⟨rfl, rfl⟩ (by kernel_rfl) rfl
    (fun f fn hf hfn => by
      obtain rfl : f = 6 := Option.some.inj ((show Tryd.prog.funcNamed "loop.example/g00904/laws.FnExactNumbersText" = some 6 by kernel_rfl).symm.trans hf) |>.symm
      obtain rfl : fn = Tryd.f6 := (Option.some.inj (Tryd.func6.symm.trans hfn)).symm
      exact ⟨by kernel_rfl, fun j t ht => by
        rw [Tryd.params6] at ht
        have hm : t ∈ [45] := by simpa using Array.mem_of_getElem? ht
        have hall : ([45].all fun u => !Tryd.prog.wantsStandIn u) = true := by kernel_rfl
        exact (show Tryd.prog.wantsStandIn t = false by simpa using List.all_eq_true.1 hall t hm)⟩)
    (by kernel_rfl)
#print axioms proved
end Go.Proofs.YtgklhpocmnjpfaaDoor.rowFnExactNumbersText
namespace Go.Proofs.YtgklhpocmnjpfaaDoor
theorem fnExactNumbersText_holds : Rows.FnExactNumbersTextCardSaid := rowFnExactNumbersText.proved
end Go.Proofs.YtgklhpocmnjpfaaDoor
