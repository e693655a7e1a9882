/- The row of 'FnExactDecodeLinks': what comes in is opened by its type's shape, the evaluator's answer is the call's, what came in reads as before. No condition. -/
import Derived.Test.YtgklhpocmnjpfaaDoorRows
import Derived.Test.YtgklhpocmnjpfaaDoorPureFnExactDecodeLinks
import Derived.WalkKit
import Derived.ProofKit
import Derived.OpenShut
import Derived.ShutString
import Derived.ChangeOld
import Derived.Below
import Derived.SizedLaws
import Derived.LaidMore
import Derived.Lay
import Derived.SevenTiedAt
import Derived.Stop.Joined
import Derived.Test.YtgklhpocmnjpfaaDoorTie
import Derived.Test.YtgklhpocmnjpfaaDoorCards
namespace Go.Proofs.YtgklhpocmnjpfaaDoor.rowFnExactDecodeLinks
open Go.ChangeShapes Go.WideShapes Go.ChangeAt Go.RowKit Go.Ve Go.Ve.X
open Go.ChangeMaps (open_string shut_string)
set_option linter.unusedVariables false
theorem own : ownKnob Tryd.prog.godebug = none := by kernel_rfl
theorem laidOut : laidOutB Tryd.prog = true := by kernel_rfl

theorem opv9 (n : Nat) : Opv Tryd.prog S n 9 [.str] (fun s => s.size ≤ 140737488351232) := opv_str Tryd.underlying9
theorem opv52 (n : Nat) : Opv Tryd.prog S n 52 [.arr 9] (fun (xs : List (ByteArray)) => xs.length ≤ maxLen ∧ xs.length * 16 ≤ 140737488351232 ∧ ∀ e_ ∈ xs, e_.size ≤ 140737488351232) := opv_imp (opv_slice (S := S) (e := 9) 16 Tryd.underlying52 (by kernel_rfl) (of_decide_eq_true (by kernel_rfl)) (by kernel_rfl) (opv9 n)) (fun xs h => h)
theorem opv54 (n : Nat) : Opv Tryd.prog S n 54 [.arr 9] (fun (p : List ByteArray) => p.length ≤ maxLen ∧ p.length * 16 ≤ 140737488351232 ∧ ∀ e_ ∈ p, e_.size ≤ 140737488351232) := by
  refine opv_imp (opv_mono (n := n + 1) (opv_struct (L := 1) Tryd.underlying54 (by kernel_rfl) (opvF_one rfl (by kernel_rfl) (opv52 n))) (by omega)) ?_
  exact fun p h => h
set_option maxRecDepth 100000 in
theorem lifted (os : Os) (started : os.Started) (H : Type) (enc : TypeId × Value → H) :
    ReturnsInHanded {} Tryd.checked os 7 .any (fun w args => (Rows.fnExactDecodeLinksSpec.pre enc Tryd.prog Tryd.f7 Rows.fnExactDecodeLinksRow.domain false w args ∧ laidMetH Tryd.prog Rows.fnExactDecodeLinksRow.laid w) ∧ sizedMet enc Tryd.prog Tryd.f7 (OpenSpec.ofChange Rows.fnExactDecodeLinksSpec) false w args) (Rows.fnExactDecodeLinksSpec.post enc Tryd.prog Tryd.f7 false true false false) := by
  refine handed_and_shaped (C := Tryd.checked) (X := fun w _ => laidMetH Tryd.prog Rows.fnExactDecodeLinksRow.laid w) (fun _ _ _ hh h => h.of_heap hh) own started (by kernel_rfl) Tryd.func7
    (ChangeSpec.witness_shaped (enc := enc) (C := Tryd.checked) (os := os) (X := fun w _ => laidMetH Tryd.prog Rows.fnExactDecodeLinksRow.laid w) false (World.laidAll Tryd.prog os Rows.fnExactDecodeLinksRow.laid) #[.string ⟨#[]⟩, .agg #[.slice none 0 0]] 64 (World.laidAll_os _ _ _)
      (World.shaped_of_ZipB (by kernel_rfl) (by kernel_rfl)) (by kernel_rfl) (by kernel_rfl) (by kernel_rfl) (by rw [MakeChecks.laidMetH_plain _ _ _ (by kernel_rfl)]; exact laidMet_laidAll _ (by kernel_rfl) (by kernel_rfl))) ?_
  intro W base args ds gs before hval0 hW hcnd hsz0 hlaid hsh _
  have hsz : (DataW.weightsEach Tryd.prog (Tryd.f7.params.toList ++ Rows.fnExactDecodeLinksSpec.plain.varTypes Tryd.prog) (ds ++ gs)).all (· ≤ reachBytes) = true := hsz0
  have hval : ∀ (j : Nat) t v, Tryd.f7.params[j]? = some t → args[j]? = some v → Value.okWide Tryd.prog W .any base t v := hval0
  have hW' := hW
  obtain ⟨p, q, hA0, hV, rfl, hfz, hnd⟩ := hW
  have hA : DataW.TrodAll enc Tryd.prog W 0 (fun _ => true) true Tryd.f7.params.toList args.toList ds p := hA0
  rw [Tryd.params7] at hA hval hsz
  obtain ⟨v0, vs0, d0, ds0, p0, q0, hargs, rfl, rfl, h0, r0⟩ := trodAll_cons hA
  obtain ⟨v1, vs1, d1, ds1, p1, q1, rfl, rfl, rfl, h1, r1⟩ := trodAll_cons r0
  obtain ⟨rfl, rfl, rfl⟩ := trodAll_nil r1
  obtain rfl : args = #[v0, v1] := by cases args; simp_all
  obtain ⟨rfl, rfl⟩ := trodVars_none hV
  have lt0 := trod_old h0
  obtain ⟨b0, rfl⟩ := okWide_string Tryd.underlying9 (hval 0 9 v0 rfl rfl)
  obtain ⟨a0, K0, O0⟩ := opv_use opv9 h0 hsz (j := 0) rfl rfl
  have lt1 := trod_old h1
  obtain ⟨cs1, rfl, _⟩ := okWide_struct Tryd.underlying54 (hval 1 54 v1 rfl rfl)
  obtain ⟨a1, K1, O1⟩ := opv_use opv54 h1 hsz (j := 1) rfl rfl
  have hk : laws_FnExactDecodeLinks a0 a1 = some true := pure_FnExactDecodeLinks a0 a1 O0 O1
  have hC := oks.call 7 0 (a0, a1) true hk
  obtain ⟨A, hAnn⟩ : ∃ A, E.ann 7 0 = some A := ⟨_, rfl⟩
  have hin : A.inL = ⟨[(0, .c (.d (.str))), (1, .a [.d (.arr 9)])], []⟩ ∧ A.outL = ⟨[(0, .c (.d .bool))], []⟩ := by have := Option.some.inj (hAnn.symm.trans (show E.ann 7 0 = some _ from rfl)); subst this; exact ⟨rfl, rfl⟩
  refine (call_pure rfl hC hAnn (xs := [(0, .c (.str a0)), (1, .a [.arr 9 a1])]) (by rw [hin.1]; rfl) (vs := #[.string b0, .agg cs1]) (w := W) ?_ (hfix := (fixed_num 0 (Tryd.laysM146.s1_3 W hsh) fixed_nil))).mono ?_
  · intro t x hx
    simp only [List.mem_cons, List.not_mem_nil, or_false, Prod.mk.injEq] at hx
    rcases hx with ⟨rfl, rfl⟩ | ⟨rfl, rfl⟩
    · exact crep_data1 (D := fun _ => False) (φ := fun _ => ⟨none, 0, 0, 0⟩) K0
    · exact ⟨cs1.toList, by simp, creps_data (D := fun _ => False) (φ := fun _ => ⟨none, 0, 0, 0⟩) K1⟩
  rintro e W' ⟨v, res, blks, φ, Fz, rfl, bel0, hres, hv⟩
  rw [hin.2] at hres
  obtain ⟨rfl, rfl⟩ : res = [(0, .c (.bool true))] ∧ blks = [] := by have := Option.some.inj (show some _ = some _ from hres); exact ⟨(congrArg Prod.fst this).symm, (congrArg Prod.snd this).symm⟩
  obtain rfl : v = .bool true := by
    have h : TRep S Fz W' (.bool true) v := hv
    generalize v = u at h
    cases h
    rfl
  have bel : Below W.heap.size W W' := bel0
  exact ⟨_, rfl, _, _, _, [], _, [], hW', trodAll_mk1 (shut_bool Tryd.underlying4 _), (trodAll_cons_mk (Below.trod laidOut (by kernel_rfl) (of_decide_eq_true (by kernel_rfl)) h0 bel lt0) (trodAll_cons_mk (Below.trod laidOut (by kernel_rfl) (of_decide_eq_true (by kernel_rfl)) h1 bel lt1) trodAll_mk0)), rfl, bel.frame _, fun h => by cases h⟩
theorem over : Rows.fnExactDecodeLinksRow.holds Tryd.pinned (OpenSpec.ofChange Rows.fnExactDecodeLinksSpec) :=
  OpenClaim.holds_of_wide 7 Tryd.f7 rfl rfl rfl rfl rfl rfl rfl ⟨rfl, rfl, rfl, rfl, rfl⟩ rfl rfl rfl rfl rfl (by kernel_rfl) Tryd.func7 (by kernel_rfl)
    (of_decide_eq_true (by kernel_rfl)) (by unfold Func.isWrapper; first | (rw [if_pos (by decide +kernel)]; kernel_rfl) | (rw [if_neg (by decide +kernel)]; exact ⟨rfl, rfl⟩))
    (fun os started H enc _ => lifted os started H enc)
theorem proved : Rows.FnExactDecodeLinksCardSaid := 
  Claim7.holds_tied_plain_at .later [] [.data, .pinned] true (true, "d8822d272275aa2cb022dd6169fa5c087d083b84a0574103176f38e16837131e") true
    over (fun _ h => by cases h) (by kernel_rfl) (fun _ h => by cases h) fnExactDecodeLinks_row_tie rfl ⟨rfl, rfl⟩ (by kernel_rfl) rfl
    (fun f fn hf hfn => by
      obtain rfl : f = 7 := Option.some.inj ((show Tryd.prog.funcNamed "loop.example/g00904/laws.FnExactDecodeLinks" = some 7 by kernel_rfl).symm.trans hf) |>.symm
      obtain rfl : fn = Tryd.f7 := (Option.some.inj (Tryd.func7.symm.trans hfn)).symm
      exact ⟨by kernel_rfl, fun j t ht => by
        rw [Tryd.params7] at ht
        have hm : t ∈ [9, 54] := by simpa using Array.mem_of_getElem? ht
        have hall : ([9, 54].all fun u => !Tryd.prog.wantsStandIn u) = true := by kernel_rfl
        exact (show Tryd.prog.wantsStandIn t = false by simpa using List.all_eq_true.1 hall t hm)⟩)
    (by kernel_rfl)
#print axioms proved
end Go.Proofs.YtgklhpocmnjpfaaDoor.rowFnExactDecodeLinks
namespace Go.Proofs.YtgklhpocmnjpfaaDoor
theorem fnExactDecodeLinks_holds : Rows.FnExactDecodeLinksCardSaid := rowFnExactDecodeLinks.proved
end Go.Proofs.YtgklhpocmnjpfaaDoor
