/- Proved: the program's WeightOf answers as the reference's for every number of lies, state and number of asks. No conditions. -/
import Derived.Test.YtoicmgphccgdbaaLSWeight
import Derived.Test.YtoicmgphccgdbaaMx10
import Derived.Test.YtoicmgphccgdbaaMx11
import Derived.Test.YtoicmgphccgdbaaSFnExactWeightOf
namespace Go.Proofs.Ytoicmgphccgdbaa.Pure
open Go.RowKit Go.Proofs.Ytoicmgphccgdbaa.M Go.Proofs.YtoicmgphccgdbaaW.PrintWords Go.Proofs.YtoicmgphccgdbaaW.PrintLast Go.Proofs.YtoicmgphccgdbaaW.PrintMore
set_option linter.unusedVariables false
set_option linter.unusedSimpArgs false

theorem both (x0 a b c d n : Int) : ∃ v, spec_WeightOf.f 200 x0 a b c d n = some v ∧ impl_WeightOf.f 200 x0 a b c d n = some v := by
  obtain ⟨v, e, g⟩ := valid_some x0 a b c d 200 (by omega)
  unfold spec_WeightOf.f impl_WeightOf.f
  rw [valid_f, e]
  simp only [Option.bind_some]
  cases v
  · exact ⟨(0, 1), rfl, rfl⟩
  · have g := g rfl
    unfold spec_l00In.f impl_within.f
    simp only [if_true]
    by_cases c1 : 0 ≤ n
    · rw [if_pos (show n ≥ 0 from c1)]
      by_cases c2 : n ≤ 40
      · simp only [Option.bind_some, decide_eq_true c2, if_true]
        rw [specWeight_f g c1 c2 200 (by omega), implWeight_f g 200 (by omega)]
        exact ⟨_, rfl, rfl⟩
      · simp only [Option.bind_some, decide_eq_false c2, Bool.false_eq_true, if_false]
        exact ⟨_, rfl, rfl⟩
    · rw [if_neg (show ¬ n ≥ 0 from c1)]
      exact ⟨(0, 2), rfl, rfl⟩
theorem FnExactWeightOf : laws_FnExactWeightOf.Pure := by
  intro x0 a b c d n _ _ _ _ _ _
  refine ⟨200, ?_⟩
  unfold laws_FnExactWeightOf.f
  rw [toState_f a b c d 200 (by omega)]
  simp only [Option.bind_some]
  obtain ⟨v, e, f⟩ := both x0 a b c d n
  rw [e, f]
  simp

end Go.Proofs.Ytoicmgphccgdbaa.Pure
