-- Written by wip/tools/myprint.py, a program of this session, by way of the kit's print.
import Derived.Test.YteciomagemjjaaaJx21
namespace Go.Proofs.Yteciomagemjjaaa.J
open Go.RowKit Go.Proofs.YteciomagemjjaaaW.PrintWords Go.Proofs.YteciomagemjjaaaW.PrintLast Go.Proofs.YteciomagemjjaaaW.PrintMore

/-- The one pure statement of laws_FnExactAmountsIn. -/
def laws_FnExactAmountsIn.Pure : Prop := ∀ (l0_0 : List Int) (a0_1 : Int) (a0_2 : Int) (a0_3 : Int) (a0_4 : Int) (a0_5 : Bool), l0_0.length ≤ maxLen → (∀ x_ ∈ l0_0, (Lit.int .i16 x_).wf = true) → (Lit.int .i16 a0_1).wf = true → (Lit.int .i16 a0_2).wf = true → (Lit.int .i16 a0_3).wf = true → (Lit.int .i16 a0_4).wf = true → ∃ k, laws_FnExactAmountsIn.f k l0_0 a0_1 a0_2 a0_3 a0_4 a0_5 = some true
end Go.Proofs.Yteciomagemjjaaa.J
