/- Proved: the program's ValidFerry answers as the reference's for every ferry, and leaves it as it was. No conditions. -/
import Derived.Test.YtikdnhhegknplaaLFValid
import Derived.Test.YtikdnhhegknplaaSFnExactValidFerry
namespace Go.Proofs.Ytikdnhhegknplaa.Pure
open Go.RowKit Go.Proofs.Ytikdnhhegknplaa.M Go.Proofs.YtikdnhhegknplaaW.PrintWords Go.Proofs.YtikdnhhegknplaaW.PrintLast Go.Proofs.YtikdnhhegknplaaW.PrintMore
set_option linter.unusedVariables false
set_option linter.unusedSimpArgs false

theorem FnExactValidFerry : laws_FnExactValidFerry.Pure := by
  intro a b xs ha hb hx hw
  refine ⟨1048580, ?_⟩
  unfold laws_FnExactValidFerry.f
  rw [szFerry_f a b xs _ (by omega) (by omega) hx]
  by_cases q : (1048576 : Int) < xs.length
  · rw [if_pos q]; simp
  · rw [if_neg q]
    simp only [Option.bind_some]
    rw [if_neg (by omega), toFerry_f a b xs (by omega) _ (by omega)]
    simp only [Option.bind_some]
    unfold spec_ValidFerry.f
    rw [specOk_f hw (i8_wf ha) (i8_wf hb) (by omega) _ (by omega), implOk_f hw (i8_wf ha) (i8_wf hb) (by omega) _ (by omega)]
    simp only [Option.bind_some, bne_self_eq_false, Bool.false_eq_true, if_false]
    rw [eqFerry_f a b xs (by omega) _ (by omega)]
    rfl

end Go.Proofs.Ytikdnhhegknplaa.Pure
