/- Proved: the program's HardestWater answers as the reference's for every puzzle. No conditions. -/
import Derived.Test.YteciomagemjjaaaJx17
import Derived.Test.YteciomagemjjaaaLHard0J
import Derived.Test.YteciomagemjjaaaSFnExactHardestWater
namespace Go.Proofs.Yteciomagemjjaaa.Pure
open Go.RowKit Go.Proofs.Yteciomagemjjaaa.J Go.Proofs.YteciomagemjjaaaW.PrintWords Go.Proofs.YteciomagemjjaaaW.PrintLast Go.Proofs.YteciomagemjjaaaW.PrintMore
set_option linter.unusedVariables false
set_option linter.unusedSimpArgs false
theorem FnExactHardestWater : laws_FnExactHardestWater.Pure := by
  intro l a b c d tap hm _ _ _ _ _
  obtain ⟨k, hk⟩ : ∃ k, 3000000 ≤ k := ⟨_, Nat.le_refl _⟩
  refine ⟨k + 1, ?_⟩
  unfold laws_FnExactHardestWater.f
  rw [szPuzzle_f l a b c d tap hm]
  simp only [Option.bind_some]
  by_cases big : 1048576 < l.length
  · rw [if_pos big, if_pos (by decide)]
  · rw [if_neg big, if_neg (by omega)]
    rw [zue l a b c d tap (by omega) (k + 1) (by omega)]
    simp only [Option.bind_some]
    obtain ⟨⟨v0, v1, v2, v3, v4, v5⟩, hv⟩ := hard_f l a b c d tap (by omega)
    rw [(hv (k + 1) (by omega)).1, (hv (k + 1) (by omega)).2]
    simp only [Option.bind_some]
    rw [eqWater_f v0 v1 v2 v3 (k + 1) (by omega)]
    simp only [Option.bind_some, if_true, bne_self_eq_false, laws_FnExactHardestWater.j0, Bool.false_eq_true, if_false]
    rw [zue l a b c d tap (by omega) k (by omega)]
    simp only [Option.bind_some]
    rw [eqPuzzle_f l a b c d tap (by omega) k (by omega)]
    rfl
end Go.Proofs.Yteciomagemjjaaa.Pure
