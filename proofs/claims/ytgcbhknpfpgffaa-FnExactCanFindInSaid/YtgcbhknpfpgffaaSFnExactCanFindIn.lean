-- Written by wip/tools/myprint.py, a program of this session, by way of the kit's print.
import Derived.Test.YtgcbhknpfpgffaaCx9
namespace Go.Proofs.Ytgcbhknpfpgffaa.C
open Go.RowKit Go.Proofs.YtgcbhknpfpgffaaW.PrintWords Go.Proofs.YtgcbhknpfpgffaaW.PrintLast Go.Proofs.YtgcbhknpfpgffaaW.PrintMore

/-- The one pure statement of laws_FnExactCanFindIn. -/
def laws_FnExactCanFindIn.Pure : Prop := ∀ (a0 : Int) (a1_0 : Int) (a1_1 : Int) (a1_2 : Int) (a1_3 : Int) (a2 : Int), (Lit.int .i64 a0).wf = true → (Lit.int .i64 a1_0).wf = true → (Lit.int .i64 a1_1).wf = true → (Lit.int .i64 a1_2).wf = true → (Lit.int .i64 a1_3).wf = true → (Lit.int .i64 a2).wf = true → ∃ k, laws_FnExactCanFindIn.f k a0 a1_0 a1_1 a1_2 a1_3 a2 = some true
end Go.Proofs.Ytgcbhknpfpgffaa.C
