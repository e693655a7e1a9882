/- ValidCut of the program answers as the reference's, for all arguments. -/
import Derived.Test.YtpachmimhampfaaKit
import Derived.Test.YtpachmimhampfaaPFnExactValidCutx1
import Derived.Test.YtpachmimhampfaaStmFnExactValidCut
namespace Go.Proofs.Ytpachmimhampfaa.Pure
open Go.RowKit Go.Proofs.Ytpachmimhampfaa.PFnExactValidCut Go.Proofs.YtpachmimhampfaaW.PrintWords Go.Proofs.YtpachmimhampfaaW.PrintLast Go.Proofs.Ytpachmimhampfaa.Kit

/-! ### l00In -/
theorem l00In_eq (a b c : Int) : spec_l00In.f a b c = some (decide (b ≤ a ∧ a ≤ c)) := by
  unfold spec_l00In.f
  by_cases h : b ≤ a
  · rw [if_pos h]; simp [h]
  · rw [if_neg h]; simp [h]

/-! ### specValidCut -/
theorem specValid_eq (a b c : Int) : spec_ValidCut.f a b c = some (decide ((0 ≤ a ∧ a ≤ 1073741823) ∧ (-1 ≤ b ∧ b ≤ 599) ∧ (0 ≤ c ∧ c ≤ 64))) := by
  unfold spec_ValidCut.f
  simp only [l00In_eq, obind, decide_eq_true_eq, ite_and]

/-! ### within -/
theorem within_eq (a b c : Int) : impl_within.f a b c = some (decide (b ≤ a ∧ a ≤ c)) := by
  unfold impl_within.f
  by_cases h : b ≤ a
  · rw [if_pos h]; simp [h]
  · rw [if_neg h]; simp [h]

/-! ### implValidCut -/
theorem implValid_eq (a b c : Int) : impl_ValidCut.f a b c = some (decide ((0 ≤ a ∧ a ≤ 1073741823) ∧ (-1 ≤ b ∧ b ≤ 599) ∧ (0 ≤ c ∧ c ≤ 64))) := by
  unfold impl_ValidCut.f
  simp only [within_eq, obind, decide_eq_true_eq, ite_and]

theorem FnExactValidCut : laws_FnExactValidCut.Pure := by
  intro a b c _ _ _
  unfold laws_FnExactValidCut.f laws_toCut.f
  simp only [obind, specValid_eq, implValid_eq]
  simp

end Go.Proofs.Ytpachmimhampfaa.Pure
