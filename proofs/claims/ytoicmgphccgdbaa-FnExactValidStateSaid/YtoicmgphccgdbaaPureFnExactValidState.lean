/- Proved: the program's ValidState answers as the reference's for every number of lies and state. No conditions. -/
import Derived.Test.YtoicmgphccgdbaaLSBase
import Derived.Test.YtoicmgphccgdbaaSFnExactValidState
namespace Go.Proofs.Ytoicmgphccgdbaa.Pure
open Go.RowKit Go.Proofs.Ytoicmgphccgdbaa.M Go.Proofs.YtoicmgphccgdbaaW.PrintWords Go.Proofs.YtoicmgphccgdbaaW.PrintLast Go.Proofs.YtoicmgphccgdbaaW.PrintMore
set_option linter.unusedVariables false
set_option linter.unusedSimpArgs false

theorem FnExactValidState : laws_FnExactValidState.Pure := by
  intro a0 a b c d _ _ _ _ _
  refine ⟨10, ?_⟩
  unfold laws_FnExactValidState.f spec_ValidState.f
  rw [toState_f a b c d 10 (by omega)]
  simp only [Option.bind_some]
  obtain ⟨v, e, _⟩ := valid_some a0 a b c d 10 (by omega)
  rw [valid_f, e]
  simp

end Go.Proofs.Ytoicmgphccgdbaa.Pure
