/- Proved: the program's ValidGame answers as the reference's for every game, and leaves it as it was. No conditions. -/
import Derived.Test.YtoicmgphccgdbaaLGValid
import Derived.Test.YtoicmgphccgdbaaSFnExactValidGame
namespace Go.Proofs.Ytoicmgphccgdbaa.Pure
open Go.RowKit Go.Proofs.Ytoicmgphccgdbaa.M Go.Proofs.YtoicmgphccgdbaaW.PrintWords Go.Proofs.YtoicmgphccgdbaaW.PrintLast Go.Proofs.YtoicmgphccgdbaaW.PrintMore
set_option linter.unusedVariables false
set_option linter.unusedSimpArgs false

theorem FnExactValidGame : laws_FnExactValidGame.Pure := by
  intro a b xs ha hb hx _
  refine ⟨1048580, ?_⟩
  unfold laws_FnExactValidGame.f spec_ValidGame.f
  rw [szGame_f a b xs _ (by omega) (by omega) hx]
  by_cases q : (1048576 : Int) < xs.length
  · rw [if_pos q]; simp
  · rw [if_neg q]
    simp only [Option.bind_some]
    rw [if_neg (by omega), toGame_f a b xs (by omega) _ (by omega)]
    simp only [Option.bind_some]
    rw [specOk_f (i8_wf ha) (i8_wf hb) _ (by omega), implOk_f (i8_wf ha) (i8_wf hb) _ (by omega)]
    simp only [Option.bind_some, bne_self_eq_false, Bool.false_eq_true, if_false]
    rw [eqGame_f a b (xs.map cv) (by rw [List.length_map]; omega) _ (by omega)]
    rfl

end Go.Proofs.Ytoicmgphccgdbaa.Pure
