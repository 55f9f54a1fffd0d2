/- Proved: the program's ValidBank answers as the reference's for every ferry and bank, and leaves the ferry as it was. No conditions. -/
import Derived.Test.YtikdnhhegknplaaLFSafe
import Derived.Test.YtikdnhhegknplaaSFnExactValidBank
namespace Go.Proofs.Ytikdnhhegknplaa.Pure
open Go.RowKit Go.Proofs.Ytikdnhhegknplaa.M Go.Proofs.YtikdnhhegknplaaW.PrintWords Go.Proofs.YtikdnhhegknplaaW.PrintLast Go.Proofs.YtikdnhhegknplaaW.PrintMore
set_option linter.unusedVariables false
set_option linter.unusedSimpArgs false

theorem FnExactValidBank : laws_FnExactValidBank.Pure := by
  intro a b xs t f ha hb hx hw ht
  refine ⟨1048580, ?_⟩
  unfold laws_FnExactValidBank.f laws_toBank.f
  rw [szFerry_f a b xs _ (by omega) (by omega) hx]
  by_cases q : (1048576 : Int) < xs.length
  · rw [if_pos q]; simp
  · rw [if_neg q]
    simp only [Option.bind_some]
    rw [if_neg (by omega), toFerry_f a b xs (by omega) _ (by omega)]
    simp only [Option.bind_some]
    unfold spec_ValidBank.f impl_ValidBank.f
    rw [specOk_f hw (i8_wf ha) (i8_wf hb) (by omega) _ (by omega), implOk_f hw (i8_wf ha) (i8_wf hb) (by omega) _ (by omega)]
    simp only [Option.bind_some]
    by_cases o : okF a b xs = true
    · rw [if_pos o, if_pos o, specBank_f t f o _ (by omega), implBank_f t f o _ (by omega)]
      simp only [Option.bind_some, bne_self_eq_false, Bool.false_eq_true, if_false]
      rw [eqFerry_f a b xs (by omega) _ (by omega)]
      rfl
    · rw [if_neg o, if_neg o]
      simp only [Option.bind_some, bne_self_eq_false, Bool.false_eq_true, if_false]
      rw [eqFerry_f a b xs (by omega) _ (by omega)]
      rfl

end Go.Proofs.Ytikdnhhegknplaa.Pure
