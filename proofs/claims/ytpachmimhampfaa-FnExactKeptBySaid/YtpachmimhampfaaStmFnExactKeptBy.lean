/- What 'FnExactKeptBy' comes to over plain data, laid by a program of this session (row.py). -/
import Derived.Test.YtpachmimhampfaaPFnExactKeptByx2
namespace Go.Proofs.Ytpachmimhampfaa.PFnExactKeptBy
open Go.RowKit Go.Proofs.YtpachmimhampfaaW.PrintWords
def laws_FnExactKeptBy.Pure : Prop := ∀ (a0_0 : Int) (a0_1 : Int) (a0_2 : Int) (a1 : Int), (Lit.int .i64 a0_0).wf = true → (Lit.int .i64 a0_1).wf = true → (Lit.int .i64 a0_2).wf = true → (Lit.int .i64 a1).wf = true → ∃ k, laws_FnExactKeptBy.f k a0_0 a0_1 a0_2 a1 = some true
end Go.Proofs.Ytpachmimhampfaa.PFnExactKeptBy
