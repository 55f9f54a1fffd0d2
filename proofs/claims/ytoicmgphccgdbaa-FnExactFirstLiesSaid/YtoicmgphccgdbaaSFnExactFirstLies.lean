-- Written by wip/tools/myprint.py, a program of this session, by way of the kit's print.
import Derived.Test.YtoicmgphccgdbaaMx41
namespace Go.Proofs.Ytoicmgphccgdbaa.M
open Go.RowKit Go.Proofs.YtoicmgphccgdbaaW.PrintWords Go.Proofs.YtoicmgphccgdbaaW.PrintLast Go.Proofs.YtoicmgphccgdbaaW.PrintMore

def wf97 (x : S97) : Prop := (Lit.int .u64 x.f0).wf = true ∧ True
/-- The one pure statement of laws_FnExactFirstLies. -/
def laws_FnExactFirstLies.Pure : Prop := ∀ (a0_0 : Int) (a0_1 : Int) (l0_2 : List (S97)) (a1 : Int), (Lit.int .i8 a0_0).wf = true → (Lit.int .i8 a0_1).wf = true → l0_2.length ≤ maxLen → (∀ x_ ∈ l0_2, wf97 x_) → (Lit.int .i64 a1).wf = true → ∃ k, laws_FnExactFirstLies.f k a0_0 a0_1 l0_2 a1 = some true
end Go.Proofs.Ytoicmgphccgdbaa.M
