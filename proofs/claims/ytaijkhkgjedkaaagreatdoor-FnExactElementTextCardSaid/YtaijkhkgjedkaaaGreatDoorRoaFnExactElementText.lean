/- The row of 'FnExactElementText': what comes in is opened by its type's shape, the evaluator's answer is the call's, what came in reads as before. No condition. -/
import Derived.Test.YtaijkhkgjedkaaaGreatDoorRows
import Derived.Test.YtaijkhkgjedkaaaGreatDoorPureFnExactElementText
import Derived.WalkKit
import Derived.ProofKit
import Derived.OpenShut
import Derived.ShutString
import Derived.ChangeOld
import Derived.Below
import Derived.SizedLaws
import Derived.LaidMore
import Derived.Lay
import Derived.SevenTiedAt
import Derived.Stop.Joined
import Derived.Test.YtaijkhkgjedkaaaGreatDoorTie
import Derived.Test.YtaijkhkgjedkaaaGreatDoorCards
namespace Go.Proofs.YtaijkhkgjedkaaaGreatDoor.rowFnExactElementText
open Go.ChangeShapes Go.WideShapes Go.ChangeAt Go.RowKit Go.Ve Go.Ve.X
open Go.ChangeMaps (open_string shut_string)
set_option linter.unusedVariables false
theorem own : ownKnob Tryz.prog.godebug = none := by kernel_rfl
theorem laidOut : laidOutB Tryz.prog = true := by kernel_rfl

theorem opv2 (n : Nat) : Opv Tryz.prog S n 2 [.int .i64] (fun a => (Lit.int .i64 a).wf = true) := opv_int Tryz.underlying2
theorem opv4 (n : Nat) : Opv Tryz.prog S n 4 [.bool] (fun _ => True) := opv_bool Tryz.underlying4
theorem opv9 (n : Nat) : Opv Tryz.prog S n 9 [.str] (fun s => s.size ≤ 140737488351232) := opv_str Tryz.underlying9
theorem opv22 (n : Nat) : Opv Tryz.prog S n 22 [.arr 9] (fun (xs : List (ByteArray)) => xs.length ≤ maxLen ∧ xs.length * 16 ≤ 140737488351232 ∧ ∀ e_ ∈ xs, e_.size ≤ 140737488351232) := opv_imp (opv_slice (S := S) (e := 9) 16 Tryz.underlying22 (by kernel_rfl) (of_decide_eq_true (by kernel_rfl)) (by kernel_rfl) (opv9 n)) (fun xs h => h)
theorem opv23 (n : Nat) : Opv Tryz.prog S n 23 [.arr 2] (fun (xs : List (Int)) => xs.length ≤ maxLen ∧ xs.length * 8 ≤ 140737488351232 ∧ ∀ e_ ∈ xs, (Lit.int .i64 e_).wf = true) := opv_imp (opv_slice (S := S) (e := 2) 8 Tryz.underlying23 (by kernel_rfl) (of_decide_eq_true (by kernel_rfl)) (by kernel_rfl) (opv2 n)) (fun xs h => h)
theorem opv180_r27 (n : Nat) (ih : Opv Tryz.prog S n 27 [.int .i64, .int .i64, .bool, .bool, .arr 9, .arr 2, .arr 180, .arr 27, .int .i64] (fun (p : Int × Int × Bool × Bool × List ByteArray × List Int × List (ByteArray × Int × Ty_Type) × List Ty_Type × Int) => ((Lit.int .i64 p.1).wf = true) ∧ ((Lit.int .i64 p.2.1).wf = true) ∧ (True) ∧ (True) ∧ (p.2.2.2.2.1.length ≤ maxLen ∧ p.2.2.2.2.1.length * 16 ≤ 140737488351232 ∧ ∀ e_ ∈ p.2.2.2.2.1, e_.size ≤ 140737488351232) ∧ (p.2.2.2.2.2.1.length ≤ maxLen ∧ p.2.2.2.2.2.1.length * 8 ≤ 140737488351232 ∧ ∀ e_ ∈ p.2.2.2.2.2.1, (Lit.int .i64 e_).wf = true) ∧ (p.2.2.2.2.2.2.1.length ≤ maxLen ∧ p.2.2.2.2.2.2.1.length * 152 ≤ 140737488351232 ∧ ∀ e_ ∈ p.2.2.2.2.2.2.1, (e_.1.size ≤ 140737488351232) ∧ ((Lit.int .i64 e_.2.1).wf = true) ∧ (Ok_Ty_Type e_.2.2)) ∧ (p.2.2.2.2.2.2.2.1.length ≤ maxLen ∧ p.2.2.2.2.2.2.2.1.length * 128 ≤ 140737488351232 ∧ ∀ e_ ∈ p.2.2.2.2.2.2.2.1, Ok_Ty_Type e_) ∧ ((Lit.int .i64 p.2.2.2.2.2.2.2.2).wf = true))) : Opv Tryz.prog S n 180 [.str, .int .i64, .int .i64, .int .i64, .bool, .bool, .arr 9, .arr 2, .arr 180, .arr 27, .int .i64] (fun (p : ByteArray × Int × Int × Int × Bool × Bool × List ByteArray × List Int × List (ByteArray × Int × Ty_Type) × List Ty_Type × Int) => (p.1.size ≤ 140737488351232) ∧ ((Lit.int .i64 p.2.1).wf = true) ∧ ((Lit.int .i64 p.2.2.1).wf = true) ∧ ((Lit.int .i64 p.2.2.2.1).wf = true) ∧ (True) ∧ (True) ∧ (p.2.2.2.2.2.2.1.length ≤ maxLen ∧ p.2.2.2.2.2.2.1.length * 16 ≤ 140737488351232 ∧ ∀ e_ ∈ p.2.2.2.2.2.2.1, e_.size ≤ 140737488351232) ∧ (p.2.2.2.2.2.2.2.1.length ≤ maxLen ∧ p.2.2.2.2.2.2.2.1.length * 8 ≤ 140737488351232 ∧ ∀ e_ ∈ p.2.2.2.2.2.2.2.1, (Lit.int .i64 e_).wf = true) ∧ (p.2.2.2.2.2.2.2.2.1.length ≤ maxLen ∧ p.2.2.2.2.2.2.2.2.1.length * 152 ≤ 140737488351232 ∧ ∀ e_ ∈ p.2.2.2.2.2.2.2.2.1, (e_.1.size ≤ 140737488351232) ∧ ((Lit.int .i64 e_.2.1).wf = true) ∧ (Ok_Ty_Type e_.2.2)) ∧ (p.2.2.2.2.2.2.2.2.2.1.length ≤ maxLen ∧ p.2.2.2.2.2.2.2.2.2.1.length * 128 ≤ 140737488351232 ∧ ∀ e_ ∈ p.2.2.2.2.2.2.2.2.2.1, Ok_Ty_Type e_) ∧ ((Lit.int .i64 p.2.2.2.2.2.2.2.2.2.2).wf = true)) := by
  refine opv_imp (opv_mono (n := n + 1) (opv_struct (L := 11) Tryz.underlying180 (by kernel_rfl) (opvF_cons (off' := 1) (ss := [.str]) (ss' := [.int .i64, .int .i64, .int .i64, .bool, .bool, .arr 9, .arr 2, .arr 180, .arr 27, .int .i64]) rfl (by kernel_rfl) (opv9 n) (opvF_cons (off' := 2) (ss := [.int .i64]) (ss' := [.int .i64, .int .i64, .bool, .bool, .arr 9, .arr 2, .arr 180, .arr 27, .int .i64]) rfl (by kernel_rfl) (opv2 n) (opvF_one rfl (by kernel_rfl) ih)))) (by omega)) ?_
  rintro p ⟨a0, b0, rfl, h0, ⟨a1, b1, rfl, h1, h2⟩⟩
  exact ⟨h0, h1, h2.1, h2.2.1, h2.2.2.1, h2.2.2.2.1, h2.2.2.2.2.1, h2.2.2.2.2.2.1, h2.2.2.2.2.2.2.1, h2.2.2.2.2.2.2.2.1, h2.2.2.2.2.2.2.2.2⟩
theorem opv24_r27 (n : Nat) (ih : Opv Tryz.prog S n 27 [.int .i64, .int .i64, .bool, .bool, .arr 9, .arr 2, .arr 180, .arr 27, .int .i64] (fun (p : Int × Int × Bool × Bool × List ByteArray × List Int × List (ByteArray × Int × Ty_Type) × List Ty_Type × Int) => ((Lit.int .i64 p.1).wf = true) ∧ ((Lit.int .i64 p.2.1).wf = true) ∧ (True) ∧ (True) ∧ (p.2.2.2.2.1.length ≤ maxLen ∧ p.2.2.2.2.1.length * 16 ≤ 140737488351232 ∧ ∀ e_ ∈ p.2.2.2.2.1, e_.size ≤ 140737488351232) ∧ (p.2.2.2.2.2.1.length ≤ maxLen ∧ p.2.2.2.2.2.1.length * 8 ≤ 140737488351232 ∧ ∀ e_ ∈ p.2.2.2.2.2.1, (Lit.int .i64 e_).wf = true) ∧ (p.2.2.2.2.2.2.1.length ≤ maxLen ∧ p.2.2.2.2.2.2.1.length * 152 ≤ 140737488351232 ∧ ∀ e_ ∈ p.2.2.2.2.2.2.1, (e_.1.size ≤ 140737488351232) ∧ ((Lit.int .i64 e_.2.1).wf = true) ∧ (Ok_Ty_Type e_.2.2)) ∧ (p.2.2.2.2.2.2.2.1.length ≤ maxLen ∧ p.2.2.2.2.2.2.2.1.length * 128 ≤ 140737488351232 ∧ ∀ e_ ∈ p.2.2.2.2.2.2.2.1, Ok_Ty_Type e_) ∧ ((Lit.int .i64 p.2.2.2.2.2.2.2.2).wf = true))) : Opv Tryz.prog S n 24 [.arr 180] (fun (xs : List (ByteArray × Int × Ty_Type)) => xs.length ≤ maxLen ∧ xs.length * 152 ≤ 140737488351232 ∧ ∀ e_ ∈ xs, (e_.1.size ≤ 140737488351232) ∧ ((Lit.int .i64 e_.2.1).wf = true) ∧ (Ok_Ty_Type e_.2.2)) := opv_imp (opv_slice (S := S) (e := 180) 152 Tryz.underlying24 (by kernel_rfl) (of_decide_eq_true (by kernel_rfl)) (by kernel_rfl) (opv180_r27 n ih)) (fun xs h => ⟨h.1, h.2.1, fun x hx => ⟨(h.2.2 x hx).1, (h.2.2 x hx).2.1, .mk _ ⟨(h.2.2 x hx).2.2.1, (h.2.2 x hx).2.2.2.1, (h.2.2 x hx).2.2.2.2.1, (h.2.2 x hx).2.2.2.2.2.1, (h.2.2 x hx).2.2.2.2.2.2.1, (h.2.2 x hx).2.2.2.2.2.2.2.1, (h.2.2 x hx).2.2.2.2.2.2.2.2.1, (h.2.2 x hx).2.2.2.2.2.2.2.2.2.1, (h.2.2 x hx).2.2.2.2.2.2.2.2.2.2⟩⟩⟩)
theorem opv25_r27 (n : Nat) (ih : Opv Tryz.prog S n 27 [.int .i64, .int .i64, .bool, .bool, .arr 9, .arr 2, .arr 180, .arr 27, .int .i64] (fun (p : Int × Int × Bool × Bool × List ByteArray × List Int × List (ByteArray × Int × Ty_Type) × List Ty_Type × Int) => ((Lit.int .i64 p.1).wf = true) ∧ ((Lit.int .i64 p.2.1).wf = true) ∧ (True) ∧ (True) ∧ (p.2.2.2.2.1.length ≤ maxLen ∧ p.2.2.2.2.1.length * 16 ≤ 140737488351232 ∧ ∀ e_ ∈ p.2.2.2.2.1, e_.size ≤ 140737488351232) ∧ (p.2.2.2.2.2.1.length ≤ maxLen ∧ p.2.2.2.2.2.1.length * 8 ≤ 140737488351232 ∧ ∀ e_ ∈ p.2.2.2.2.2.1, (Lit.int .i64 e_).wf = true) ∧ (p.2.2.2.2.2.2.1.length ≤ maxLen ∧ p.2.2.2.2.2.2.1.length * 152 ≤ 140737488351232 ∧ ∀ e_ ∈ p.2.2.2.2.2.2.1, (e_.1.size ≤ 140737488351232) ∧ ((Lit.int .i64 e_.2.1).wf = true) ∧ (Ok_Ty_Type e_.2.2)) ∧ (p.2.2.2.2.2.2.2.1.length ≤ maxLen ∧ p.2.2.2.2.2.2.2.1.length * 128 ≤ 140737488351232 ∧ ∀ e_ ∈ p.2.2.2.2.2.2.2.1, Ok_Ty_Type e_) ∧ ((Lit.int .i64 p.2.2.2.2.2.2.2.2).wf = true))) : Opv Tryz.prog S n 25 [.arr 27] (fun (xs : List (Ty_Type)) => xs.length ≤ maxLen ∧ xs.length * 128 ≤ 140737488351232 ∧ ∀ e_ ∈ xs, Ok_Ty_Type e_) := opv_imp (opv_slice (S := S) (e := 27) 128 Tryz.underlying25 (by kernel_rfl) (of_decide_eq_true (by kernel_rfl)) (by kernel_rfl) ih) (fun xs h => ⟨h.1, h.2.1, fun x hx => .mk _ ⟨(h.2.2 x hx).1, (h.2.2 x hx).2.1, (h.2.2 x hx).2.2.1, (h.2.2 x hx).2.2.2.1, (h.2.2 x hx).2.2.2.2.1, (h.2.2 x hx).2.2.2.2.2.1, (h.2.2 x hx).2.2.2.2.2.2.1, (h.2.2 x hx).2.2.2.2.2.2.2.1, (h.2.2 x hx).2.2.2.2.2.2.2.2⟩⟩)
theorem opv27 (n : Nat) : Opv Tryz.prog S n 27 [.int .i64, .int .i64, .bool, .bool, .arr 9, .arr 2, .arr 180, .arr 27, .int .i64] (fun (p : Int × Int × Bool × Bool × List ByteArray × List Int × List (ByteArray × Int × Ty_Type) × List Ty_Type × Int) => ((Lit.int .i64 p.1).wf = true) ∧ ((Lit.int .i64 p.2.1).wf = true) ∧ (True) ∧ (True) ∧ (p.2.2.2.2.1.length ≤ maxLen ∧ p.2.2.2.2.1.length * 16 ≤ 140737488351232 ∧ ∀ e_ ∈ p.2.2.2.2.1, e_.size ≤ 140737488351232) ∧ (p.2.2.2.2.2.1.length ≤ maxLen ∧ p.2.2.2.2.2.1.length * 8 ≤ 140737488351232 ∧ ∀ e_ ∈ p.2.2.2.2.2.1, (Lit.int .i64 e_).wf = true) ∧ (p.2.2.2.2.2.2.1.length ≤ maxLen ∧ p.2.2.2.2.2.2.1.length * 152 ≤ 140737488351232 ∧ ∀ e_ ∈ p.2.2.2.2.2.2.1, (e_.1.size ≤ 140737488351232) ∧ ((Lit.int .i64 e_.2.1).wf = true) ∧ (Ok_Ty_Type e_.2.2)) ∧ (p.2.2.2.2.2.2.2.1.length ≤ maxLen ∧ p.2.2.2.2.2.2.2.1.length * 128 ≤ 140737488351232 ∧ ∀ e_ ∈ p.2.2.2.2.2.2.2.1, Ok_Ty_Type e_) ∧ ((Lit.int .i64 p.2.2.2.2.2.2.2.2).wf = true)) := by
  induction n with
  | zero => exact opv_zero
  | succ n ih =>
    refine opv_imp (opv_struct (L := 9) Tryz.underlying27 (by kernel_rfl) (opvF_cons (off' := 1) (ss := [.int .i64]) (ss' := [.int .i64, .bool, .bool, .arr 9, .arr 2, .arr 180, .arr 27, .int .i64]) rfl (by kernel_rfl) (opv2 n) (opvF_cons (off' := 2) (ss := [.int .i64]) (ss' := [.bool, .bool, .arr 9, .arr 2, .arr 180, .arr 27, .int .i64]) rfl (by kernel_rfl) (opv2 n) (opvF_cons (off' := 3) (ss := [.bool]) (ss' := [.bool, .arr 9, .arr 2, .arr 180, .arr 27, .int .i64]) rfl (by kernel_rfl) (opv4 n) (opvF_cons (off' := 4) (ss := [.bool]) (ss' := [.arr 9, .arr 2, .arr 180, .arr 27, .int .i64]) rfl (by kernel_rfl) (opv4 n) (opvF_cons (off' := 5) (ss := [.arr 9]) (ss' := [.arr 2, .arr 180, .arr 27, .int .i64]) rfl (by kernel_rfl) (opv22 n) (opvF_cons (off' := 6) (ss := [.arr 2]) (ss' := [.arr 180, .arr 27, .int .i64]) rfl (by kernel_rfl) (opv23 n) (opvF_cons (off' := 7) (ss := [.arr 180]) (ss' := [.arr 27, .int .i64]) rfl (by kernel_rfl) (opv24_r27 n ih) (opvF_cons (off' := 8) (ss := [.arr 27]) (ss' := [.int .i64]) rfl (by kernel_rfl) (opv25_r27 n ih) (opvF_one rfl (by kernel_rfl) (opv2 n))))))))))) ?_
    rintro p ⟨a0, b0, rfl, h0, ⟨a1, b1, rfl, h1, ⟨a2, b2, rfl, h2, ⟨a3, b3, rfl, h3, ⟨a4, b4, rfl, h4, ⟨a5, b5, rfl, h5, ⟨a6, b6, rfl, h6, ⟨a7, b7, rfl, h7, h8⟩⟩⟩⟩⟩⟩⟩⟩
    exact ⟨h0, h1, h2, h3, h4, h5, h6, h7, h8⟩
set_option maxRecDepth 100000 in
theorem lifted (os : Os) (started : os.Started) (H : Type) (enc : TypeId × Value → H) :
    ReturnsInHanded {} Tryz.checked os 6 .any (fun w args => (Rows.fnExactElementTextSpec.pre enc Tryz.prog Tryz.f6 Rows.fnExactElementTextRow.domain false w args ∧ laidMetH Tryz.prog Rows.fnExactElementTextRow.laid w) ∧ sizedMet enc Tryz.prog Tryz.f6 (OpenSpec.ofChange Rows.fnExactElementTextSpec) false w args) (Rows.fnExactElementTextSpec.post enc Tryz.prog Tryz.f6 false true false false) := by
  refine handed_and_shaped (C := Tryz.checked) (X := fun w _ => laidMetH Tryz.prog Rows.fnExactElementTextRow.laid w) (fun _ _ _ hh h => h.of_heap hh) own started (by kernel_rfl) Tryz.func6
    (ChangeSpec.witness_shaped (enc := enc) (C := Tryz.checked) (os := os) (X := fun w _ => laidMetH Tryz.prog Rows.fnExactElementTextRow.laid w) false (World.laidAll Tryz.prog os Rows.fnExactElementTextRow.laid) #[.agg #[.int .i64 0, .int .i64 0, .bool false, .bool false, .slice none 0 0, .slice none 0 0, .slice none 0 0, .slice none 0 0, .int .i64 0], .string ⟨#[]⟩] 64 (World.laidAll_os _ _ _)
      (World.shaped_of_ZipB (by kernel_rfl) (by kernel_rfl)) (by kernel_rfl) (by kernel_rfl) (by kernel_rfl) (by rw [MakeChecks.laidMetH_plain _ _ _ (by kernel_rfl)]; exact laidMet_laidAll _ (by kernel_rfl) (by kernel_rfl))) ?_
  intro W base args ds gs before hval0 hW hcnd hsz0 hlaid hsh _
  have hsz : (DataW.weightsEach Tryz.prog (Tryz.f6.params.toList ++ Rows.fnExactElementTextSpec.plain.varTypes Tryz.prog) (ds ++ gs)).all (· ≤ reachBytes) = true := hsz0
  have hval : ∀ (j : Nat) t v, Tryz.f6.params[j]? = some t → args[j]? = some v → Value.okWide Tryz.prog W .any base t v := hval0
  have hW' := hW
  obtain ⟨p, q, hA0, hV, rfl, hfz, hnd⟩ := hW
  have hA : DataW.TrodAll enc Tryz.prog W 0 (fun _ => true) true Tryz.f6.params.toList args.toList ds p := hA0
  rw [Tryz.params6] at hA hval hsz
  obtain ⟨v0, vs0, d0, ds0, p0, q0, hargs, rfl, rfl, h0, r0⟩ := trodAll_cons hA
  obtain ⟨v1, vs1, d1, ds1, p1, q1, rfl, rfl, rfl, h1, r1⟩ := trodAll_cons r0
  obtain ⟨rfl, rfl, rfl⟩ := trodAll_nil r1
  obtain rfl : args = #[v0, v1] := by cases args; simp_all
  obtain ⟨rfl, rfl⟩ := trodVars_none hV
  have lt0 := trod_old h0
  obtain ⟨cs0, rfl, _⟩ := okWide_struct Tryz.underlying27 (hval 0 27 v0 rfl rfl)
  obtain ⟨a0, K0, O0⟩ := opv_use opv27 h0 hsz (j := 0) rfl rfl
  have lt1 := trod_old h1
  obtain ⟨b1, rfl⟩ := okWide_string Tryz.underlying9 (hval 1 9 v1 rfl rfl)
  obtain ⟨a1, K1, O1⟩ := opv_use opv9 h1 hsz (j := 1) rfl rfl
  have hk : laws_FnExactElementText a0.1 a0.2.1 a0.2.2.1 a0.2.2.2.1 a0.2.2.2.2.1 a0.2.2.2.2.2.1 a0.2.2.2.2.2.2.1 a0.2.2.2.2.2.2.2.1 a0.2.2.2.2.2.2.2.2 a1 = some true := pure_FnExactElementText a0.1 a0.2.1 a0.2.2.1 a0.2.2.2.1 a0.2.2.2.2.1 a0.2.2.2.2.2.1 a0.2.2.2.2.2.2.1 a0.2.2.2.2.2.2.2.1 a0.2.2.2.2.2.2.2.2 a1 O0 O1
  have hC := oks.call 6 0 (a0.1, a0.2.1, a0.2.2.1, a0.2.2.2.1, a0.2.2.2.2.1, a0.2.2.2.2.2.1, a0.2.2.2.2.2.2.1, a0.2.2.2.2.2.2.2.1, a0.2.2.2.2.2.2.2.2, a1) true hk
  obtain ⟨A, hAnn⟩ : ∃ A, E.ann 6 0 = some A := ⟨_, rfl⟩
  have hin : A.inL = ⟨[(0, .a [.d (.int .i64), .d (.int .i64), .d (.bool), .d (.bool), .d (.arr 9), .d (.arr 2), .d (.arr 180), .d (.arr 27), .d (.int .i64)]), (1, .c (.d (.str)))], []⟩ ∧ A.outL = ⟨[(0, .c (.d .bool))], []⟩ := by have := Option.some.inj (hAnn.symm.trans (show E.ann 6 0 = some _ from rfl)); subst this; exact ⟨rfl, rfl⟩
  refine (call_pure rfl hC hAnn (xs := [(0, .a [.int .i64 a0.1, .int .i64 a0.2.1, .bool a0.2.2.1, .bool a0.2.2.2.1, .arr 9 a0.2.2.2.2.1, .arr 2 a0.2.2.2.2.2.1, .arr 180 a0.2.2.2.2.2.2.1, .arr 27 a0.2.2.2.2.2.2.2.1, .int .i64 a0.2.2.2.2.2.2.2.2]), (1, .c (.str a1))]) (by rw [hin.1]; rfl) (vs := #[.agg cs0, .string b1]) (w := W) ?_ (hfix := (fixed_pow 1 (by kernel_rfl) (tab_of_laid (d := Rows.laid_internal_strconv_uint64pow10) (by kernel_rfl) 1 303 246 20 (by kernel_rfl) (by kernel_rfl) (by kernel_rfl) (by kernel_rfl) (by kernel_rfl) (by kernel_rfl) (laidMet_tl (laidMet_tl (Eq.mp (MakeChecks.laidMetH_plain _ _ _ (by kernel_rfl)) hlaid)))) fixed_nil))).mono ?_
  · intro t x hx
    simp only [List.mem_cons, List.not_mem_nil, or_false, Prod.mk.injEq] at hx
    rcases hx with ⟨rfl, rfl⟩ | ⟨rfl, rfl⟩
    · exact ⟨cs0.toList, by simp, creps_data (D := fun _ => False) (φ := fun _ => ⟨none, 0, 0, 0⟩) K0⟩
    · exact crep_data1 (D := fun _ => False) (φ := fun _ => ⟨none, 0, 0, 0⟩) K1
  rintro e W' ⟨v, res, blks, φ, Fz, rfl, bel0, hres, hv⟩
  rw [hin.2] at hres
  obtain ⟨rfl, rfl⟩ : res = [(0, .c (.bool true))] ∧ blks = [] := by have := Option.some.inj (show some _ = some _ from hres); exact ⟨(congrArg Prod.fst this).symm, (congrArg Prod.snd this).symm⟩
  obtain rfl : v = .bool true := by
    have h : TRep S Fz W' (.bool true) v := hv
    generalize v = u at h
    cases h
    rfl
  have bel : Below W.heap.size W W' := bel0
  exact ⟨_, rfl, _, _, _, [], _, [], hW', trodAll_mk1 (shut_bool Tryz.underlying4 _), (trodAll_cons_mk (Below.trod laidOut (by kernel_rfl) (of_decide_eq_true (by kernel_rfl)) h0 bel lt0) (trodAll_cons_mk (Below.trod laidOut (by kernel_rfl) (of_decide_eq_true (by kernel_rfl)) h1 bel lt1) trodAll_mk0)), rfl, bel.frame _, fun h => by cases h⟩
end Go.Proofs.YtaijkhkgjedkaaaGreatDoor.rowFnExactElementText
