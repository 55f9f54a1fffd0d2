/- Proved: the program's AmountsIn answers as the reference's for every puzzle. No conditions. -/
import Derived.Test.YteciomagemjjaaaLAm0J
import Derived.Test.YteciomagemjjaaaLMrk0J
import Derived.Test.YteciomagemjjaaaLMrk6J
import Derived.Test.YteciomagemjjaaaSFnExactAmountsIn
namespace Go.Proofs.Yteciomagemjjaaa.Pure
open Go.RowKit Go.Proofs.Yteciomagemjjaaa.J Go.Proofs.YteciomagemjjaaaW.PrintWords Go.Proofs.YteciomagemjjaaaW.PrintLast Go.Proofs.YteciomagemjjaaaW.PrintMore
set_option linter.unusedVariables false
set_option linter.unusedSimpArgs false

theorem FnExactAmountsIn : laws_FnExactAmountsIn.Pure := by
  intro l a b c d tap hm _ _ _ _ _
  obtain ⟨k, hk⟩ : ∃ k, 3000000 ≤ k := ⟨_, Nat.le_refl _⟩
  refine ⟨k + 3, ?_⟩
  unfold laws_FnExactAmountsIn.f
  rw [szPuzzle_f l a b c d tap hm]
  simp only [Option.bind_some]
  by_cases big : 1048576 < l.length
  · rw [if_pos big, if_pos (by decide)]
  · rw [if_neg big, if_neg (by omega)]
    rw [zjd l a b c d tap (by omega) (k + 3) (by omega)]
    simp only [Option.bind_some]
    obtain ⟨⟨t, e⟩, hlen, hv⟩ := amts_f l a b c d tap (by omega)
    dsimp only at hlen
    have eqt : ∀ k, 5000 < k → laws_eqInt64S.f k t t = some true := fun k h => eq6_f t (by omega) k (by omega)
    rw [(hv (k + 3) (by omega)).1, (hv (k + 3) (by omega)).2]
    simp only [Option.bind_some]
    rw [eqt (k + 3) (by omega)]
    simp only [Option.bind_some, if_true, bne_self_eq_false, laws_FnExactAmountsIn.j0, Bool.false_eq_true, if_false]
    rw [zjd l a b c d tap (by omega) (k + 2) (by omega)]
    simp only [Option.bind_some]
    rw [eqPuzzle_f l a b c d tap (by omega) (k + 2) (by omega)]
    obtain ⟨ys, -, m1, -⟩ := marked l (by omega)
    obtain ⟨zs, -, n1, n2⟩ := marked6 t (by omega)
    have nneg : ¬ (1 + (l.length : Int) < 0) := by omega
    have nneg2 : ¬ (1 + (t.length : Int) < 0) := by omega
    unfold laws_markPuzzle.f
    rw [m1 (k + 2) (by omega)]
    simp only [Option.bind_some, if_true]
    rw [if_neg nneg, eqt (k + 2) (by omega)]
    simp only [Option.bind_some, if_true, laws_FnExactAmountsIn.j1, Bool.false_eq_true, if_false]
    rw [n1 (k + 1) (by omega)]
    simp only [Option.bind_some]
    rw [n2 (k + 1) (by omega)]
    simp only [Option.bind_some]
    rw [if_neg nneg2, if_pos trivial, zjd l a b c d tap (by omega) (k + 1) (by omega)]
    simp only [Option.bind_some]
    rw [(hv (k + 1) (by omega)).2]
    simp only [Option.bind_some]
    rw [eqt (k + 1) (by omega)]
    simp only [Option.bind_some, if_true, bne_self_eq_false, laws_FnExactAmountsIn.j2, Bool.false_eq_true, if_false]
    rw [n2 k (by omega)]
    simp only [Option.bind_some]
    rw [if_neg nneg2, if_pos trivial]

end Go.Proofs.Yteciomagemjjaaa.Pure
