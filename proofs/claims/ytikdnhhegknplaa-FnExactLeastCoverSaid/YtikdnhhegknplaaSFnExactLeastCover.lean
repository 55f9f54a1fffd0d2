-- Written by wip/tools/myprint.py, a program of this session, by way of the kit's print.
import Derived.Test.YtikdnhhegknplaaMx19
namespace Go.Proofs.Ytikdnhhegknplaa.M
open Go.RowKit Go.Proofs.YtikdnhhegknplaaW.PrintWords Go.Proofs.YtikdnhhegknplaaW.PrintLast Go.Proofs.YtikdnhhegknplaaW.PrintMore

/-- The one pure statement of laws_FnExactLeastCover. -/
def laws_FnExactLeastCover.Pure : Prop := ∀ (a0_0 : Int) (a0_1 : Int) (l0_2 : List Int), (Lit.int .i8 a0_0).wf = true → (Lit.int .i8 a0_1).wf = true → l0_2.length ≤ maxLen → (∀ x_ ∈ l0_2, (Lit.int .u16 x_).wf = true) → ∃ k, laws_FnExactLeastCover.f k a0_0 a0_1 l0_2 = some true
end Go.Proofs.Ytikdnhhegknplaa.M
