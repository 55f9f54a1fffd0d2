-- Written by wip/tools/myprint.py, a program of this session, by way of the kit's print.
import Derived.Test.YtikdnhhegknplaaXx14
namespace Go.Proofs.Ytikdnhhegknplaa.X
open Go.RowKit Go.Proofs.YtikdnhhegknplaaW.PrintWords Go.Proofs.YtikdnhhegknplaaW.PrintLast Go.Proofs.YtikdnhhegknplaaW.PrintMore

/-- The one pure statement of laws_FnExactCrossWith. -/
def laws_FnExactCrossWith.Pure : Prop := ∀ (a0_0 : Int) (a0_1 : Int) (l0_2 : List Int) (a1_0 : Int) (a1_1 : Bool) (a2 : Int), (Lit.int .i8 a0_0).wf = true → (Lit.int .i8 a0_1).wf = true → l0_2.length ≤ maxLen → (∀ x_ ∈ l0_2, (Lit.int .u16 x_).wf = true) → (Lit.int .u16 a1_0).wf = true → (Lit.int .u16 a2).wf = true → ∃ k, laws_FnExactCrossWith.f k a0_0 a0_1 l0_2 a1_0 a1_1 a2 = some true
end Go.Proofs.Ytikdnhhegknplaa.X
