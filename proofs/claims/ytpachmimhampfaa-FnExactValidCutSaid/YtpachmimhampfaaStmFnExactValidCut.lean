/- What 'FnExactValidCut' comes to over plain data, laid by a program of this session (row.py). -/
import Derived.Test.YtpachmimhampfaaPFnExactValidCutx1
namespace Go.Proofs.Ytpachmimhampfaa.PFnExactValidCut
open Go.RowKit Go.Proofs.YtpachmimhampfaaW.PrintWords
def laws_FnExactValidCut.Pure : Prop := ∀ (a0_0 : Int) (a0_1 : Int) (a0_2 : Int), (Lit.int .i64 a0_0).wf = true → (Lit.int .i64 a0_1).wf = true → (Lit.int .i64 a0_2).wf = true → laws_FnExactValidCut.f a0_0 a0_1 a0_2 = some true
end Go.Proofs.Ytpachmimhampfaa.PFnExactValidCut
