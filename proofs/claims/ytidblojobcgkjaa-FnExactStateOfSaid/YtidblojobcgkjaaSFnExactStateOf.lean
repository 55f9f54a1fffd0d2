-- Written by wip/tools/myprint.py, a program of this session, by way of the kit's print.
import Derived.Test.YtidblojobcgkjaaMx12
namespace Go.Proofs.Ytidblojobcgkjaa.M
open Go.RowKit Go.Proofs.YtidblojobcgkjaaW.PrintWords Go.Proofs.YtidblojobcgkjaaW.PrintLast Go.Proofs.YtidblojobcgkjaaW.PrintMore

def wf64 (x : S64) : Prop := (Lit.int .u64 x.f0).wf = true ∧ True
/-- The one pure statement of laws_FnExactStateOf. -/
def laws_FnExactStateOf.Pure : Prop := ∀ (a0_0 : Int) (a0_1 : Int) (l0_2 : List (S64)), (Lit.int .i8 a0_0).wf = true → (Lit.int .i8 a0_1).wf = true → l0_2.length ≤ maxLen → (∀ x_ ∈ l0_2, wf64 x_) → ∃ k, laws_FnExactStateOf.f k a0_0 a0_1 l0_2 = some true
end Go.Proofs.Ytidblojobcgkjaa.M
