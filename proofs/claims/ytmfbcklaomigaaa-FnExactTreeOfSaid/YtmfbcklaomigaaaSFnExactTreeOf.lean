-- Written by wip/tools/myprint.py.
import Derived.Test.YtmfbcklaomigaaaMx31
namespace Go.Proofs.Ytmfbcklaomigaaa.M
open Go.RowKit Go.Proofs.YtmfbcklaomigaaaW.PrintWords Go.Proofs.YtmfbcklaomigaaaW.PrintLast Go.Proofs.YtmfbcklaomigaaaW.PrintMore
def wf42 (x : S42) : Prop := (Lit.int .i8 x.f0).wf = true ∧ (Lit.int .i8 x.f1).wf = true ∧ (Lit.int .i8 x.f2).wf = true ∧ (Lit.int .i8 x.f3).wf = true
/-- The one pure statement of laws_FnExactTreeOf. -/
def laws_FnExactTreeOf.Pure : Prop := ∀ (a0_0 : Int) (a0_1 : Int) (l0_2 : List (S42)), (Lit.int .i8 a0_0).wf = true → (Lit.int .i8 a0_1).wf = true → l0_2.length ≤ maxLen → (∀ x_ ∈ l0_2, wf42 x_) → ∃ k, laws_FnExactTreeOf.f k a0_0 a0_1 l0_2 = some true
end Go.Proofs.Ytmfbcklaomigaaa.M
