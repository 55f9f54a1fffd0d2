/- Proved: the program's SameFerry answers as the reference's for every two ferries, and leaves them as they were. No conditions. -/
import Derived.Test.YtikdnhhegknplaaLFSame
import Derived.Test.YtikdnhhegknplaaSFnExactSameFerry
namespace Go.Proofs.Ytikdnhhegknplaa.Pure
open Go.RowKit Go.Proofs.Ytikdnhhegknplaa.M Go.Proofs.YtikdnhhegknplaaW.PrintWords Go.Proofs.YtikdnhhegknplaaW.PrintLast Go.Proofs.YtikdnhhegknplaaW.PrintMore
set_option linter.unusedVariables false
set_option linter.unusedSimpArgs false

theorem FnExactSameFerry : laws_FnExactSameFerry.Pure := by
  intro a b xs c e ys _ _ hx _ _ _ hy _
  refine ⟨1048580, ?_⟩
  unfold laws_FnExactSameFerry.f
  rw [szFerry_f a b xs _ (by omega) (by omega) hx]
  by_cases q : (1048576 : Int) < xs.length
  · rw [if_pos q]; simp
  · rw [if_neg q]
    simp only [Option.bind_some]
    rw [if_neg (by omega), szFerry_f c e ys _ (by omega) (by omega) hy]
    by_cases q2 : (1048576 : Int) - xs.length < ys.length
    · rw [if_pos q2]; simp
    · rw [if_neg q2]
      simp only [Option.bind_some]
      rw [if_neg (by omega), toFerry_f a b xs (by omega) _ (by omega), toFerry_f c e ys (by omega) _ (by omega)]
      simp only [Option.bind_some]
      rw [specSame_f a b c e xs ys (by omega) _ (by omega), implSame_f a b c e xs ys (by omega) _ (by omega)]
      simp only [Option.bind_some, bne_self_eq_false, Bool.false_eq_true, if_false]
      rw [eqFerry_f a b xs (by omega) _ (by omega), eqFerry_f c e ys (by omega) _ (by omega)]
      rfl

end Go.Proofs.Ytikdnhhegknplaa.Pure
