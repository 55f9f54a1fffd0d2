-- Written by wip/tools/myprint.py, a program of this session, by way of the kit's print.
import Derived.Test.YtoicmgphccgdbaaXx12
namespace Go.Proofs.Ytoicmgphccgdbaa.X
open Go.RowKit Go.Proofs.YtoicmgphccgdbaaW.PrintWords Go.Proofs.YtoicmgphccgdbaaW.PrintLast Go.Proofs.YtoicmgphccgdbaaW.PrintMore

def wf97 (x : S97) : Prop := (Lit.int .u64 x.f0).wf = true ∧ True
/-- The one pure statement of laws_FnExactAddAsk. -/
def laws_FnExactAddAsk.Pure : Prop := ∀ (a0_0 : Int) (a0_1 : Int) (l0_2 : List (S97)) (a1 : Int) (a2 : Bool), (Lit.int .i8 a0_0).wf = true → (Lit.int .i8 a0_1).wf = true → l0_2.length ≤ maxLen → (∀ x_ ∈ l0_2, wf97 x_) → (Lit.int .u64 a1).wf = true → ∃ k, laws_FnExactAddAsk.f k a0_0 a0_1 l0_2 a1 a2 = some true
end Go.Proofs.Ytoicmgphccgdbaa.X
