-- Written by wip/tools/myprint.py.
import Derived.Test.YtmmonhpjjjdnjaaVx25
namespace Go.Proofs.Ytmmonhpjjjdnjaa.V
open Go.RowKit Go.Proofs.YtmmonhpjjjdnjaaW.PrintWords Go.Proofs.YtmmonhpjjjdnjaaW.PrintLast Go.Proofs.YtmmonhpjjjdnjaaW.PrintMore
def wf58 (x : S58) : Prop := (Lit.int .i8 x.f0.f0).wf = true ∧ (Lit.int .i8 x.f0.f1).wf = true ∧ (Lit.int .i8 x.f0.f2).wf = true ∧ (Lit.int .i8 x.f0.f3).wf = true ∧ (Lit.int .i8 x.f0.f4).wf = true ∧ (Lit.int .i8 x.f0.f5).wf = true ∧ (Lit.int .i8 x.f0.f6).wf = true ∧ (Lit.int .i8 x.f0.f7).wf = true ∧ (Lit.int .i8 x.f0.f8).wf = true ∧ (Lit.int .i8 x.f0.f9).wf = true ∧ (Lit.int .i8 x.f0.f10).wf = true ∧ (Lit.int .i8 x.f0.f11).wf = true ∧ (Lit.int .i8 x.f0.f12).wf = true ∧ (Lit.int .i8 x.f0.f13).wf = true ∧ (Lit.int .i16 x.f1.f0).wf = true ∧ (Lit.int .i16 x.f1.f1).wf = true ∧ (Lit.int .i16 x.f1.f2).wf = true ∧ (Lit.int .i8 x.f2.f0).wf = true ∧ True ∧ True
/-- The one pure statement of laws_FnExactSwapInPlan. -/
def laws_FnExactSwapInPlan.Pure : Prop := ∀ (a0_0 : Int) (a0_1 : Int) (a0_2 : Bool) (a0_3 : Bool) (l1 : List (S58)) (a2 : Int) (a3 : Int), (Lit.int .i8 a0_0).wf = true → (Lit.int .i8 a0_1).wf = true → l1.length ≤ maxLen → (∀ x_ ∈ l1, wf58 x_) → (Lit.int .i64 a2).wf = true → (Lit.int .i64 a3).wf = true → ∃ k, laws_FnExactSwapInPlan.f k a0_0 a0_1 a0_2 a0_3 l1 a2 a3 = some true
end Go.Proofs.Ytmmonhpjjjdnjaa.V
