-- Written by wip/tools/myprint.py, a program of this session, by way of the kit's print.
import Derived.Test.YtmmonhpjjjdnjaaUx25
namespace Go.Proofs.Ytmmonhpjjjdnjaa.U
open Go.RowKit Go.Proofs.YtmmonhpjjjdnjaaW.PrintWords Go.Proofs.YtmmonhpjjjdnjaaW.PrintLast Go.Proofs.YtmmonhpjjjdnjaaW.PrintMore

def wf58 (x : S58) : Prop := (Lit.int .i8 x.f0.f0).wf = true ∧ (Lit.int .i8 x.f0.f1).wf = true ∧ (Lit.int .i8 x.f0.f2).wf = true ∧ (Lit.int .i8 x.f0.f3).wf = true ∧ (Lit.int .i8 x.f0.f4).wf = true ∧ (Lit.int .i8 x.f0.f5).wf = true ∧ (Lit.int .i8 x.f0.f6).wf = true ∧ (Lit.int .i8 x.f0.f7).wf = true ∧ (Lit.int .i8 x.f0.f8).wf = true ∧ (Lit.int .i8 x.f0.f9).wf = true ∧ (Lit.int .i8 x.f0.f10).wf = true ∧ (Lit.int .i8 x.f0.f11).wf = true ∧ (Lit.int .i8 x.f0.f12).wf = true ∧ (Lit.int .i8 x.f0.f13).wf = true ∧ (Lit.int .i16 x.f1.f0).wf = true ∧ (Lit.int .i16 x.f1.f1).wf = true ∧ (Lit.int .i16 x.f1.f2).wf = true ∧ (Lit.int .i8 x.f2.f0).wf = true ∧ True ∧ True
/-- The one pure statement of laws_FnExactFirstUntold. -/
def laws_FnExactFirstUntold.Pure : Prop := ∀ (a0_0 : Int) (a0_1 : Int) (a0_2 : Bool) (a0_3 : Bool) (l1 : List (S58)), (Lit.int .i8 a0_0).wf = true → (Lit.int .i8 a0_1).wf = true → l1.length ≤ maxLen → (∀ x_ ∈ l1, wf58 x_) → ∃ k, laws_FnExactFirstUntold.f k a0_0 a0_1 a0_2 a0_3 l1 = some true
end Go.Proofs.Ytmmonhpjjjdnjaa.U
