/- What 'FnExactDropName' comes to over plain data, laid by a program of this session (row.py). -/
import Derived.Test.YtlcbbiiohhplfaaMFnExactDropNamex6
namespace Go.Proofs.Ytlcbbiiohhplfaa.PFnExactDropName
open Go.RowKit Go.Proofs.YtlcbbiiohhplfaaW.PrintWords
def laws_FnExactDropName.Pure : Prop := ∀ (l0_0 : (List ByteArray)) (a1 : Int), (l0_0.length ≤ maxLen ∧ l0_0.length * 16 ≤ 140737488351232 ∧ ∀ e_ ∈ l0_0, e_.size ≤ 140737488351232) → (Lit.int .i64 a1).wf = true → ∃ k, laws_FnExactDropName.f k l0_0 a1 = some true
end Go.Proofs.Ytlcbbiiohhplfaa.PFnExactDropName
