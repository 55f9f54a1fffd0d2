/- Proved: the program's StateOf answers as the reference's for every game, and leaves the game as it was. No conditions. -/
import Derived.Test.YtidblojobcgkjaaLGLies
import Derived.Test.YtidblojobcgkjaaMx1
import Derived.Test.YtidblojobcgkjaaSFnExactStateOf
namespace Go.Proofs.Ytidblojobcgkjaa.Pure
open Go.RowKit Go.Proofs.Ytidblojobcgkjaa.M Go.Proofs.YtidblojobcgkjaaW.PrintWords Go.Proofs.YtidblojobcgkjaaW.PrintLast Go.Proofs.YtidblojobcgkjaaW.PrintMore
set_option linter.unusedVariables false
set_option linter.unusedSimpArgs false

theorem eqState_f (p q r s : Int) (k : Nat) (hk : 10 < k) : laws_eqState.f k p q r s p q r s = some true := by
  unfold laws_eqState.f
  obtain ⟨k, rfl⟩ : ∃ m, k = m + 1 + 1 + 1 + 1 + 1 := ⟨k - 5, by omega⟩
  have w1 : wrap64 (0 + 1) = 1 := by decide +kernel
  have w2 : wrap64 (1 + 1) = 2 := by decide +kernel
  have w3 : wrap64 (2 + 1) = 3 := by decide +kernel
  have w4 : wrap64 (3 + 1) = 4 := by decide +kernel
  rw [laws_eqState.l0.eq_2, if_pos (by decide), if_pos (by decide), if_pos rfl, w1, laws_eqState.l0.eq_2, if_pos (by decide), if_pos (by decide), if_pos rfl, w2, laws_eqState.l0.eq_2, if_pos (by decide), if_pos (by decide), if_pos rfl, w3, laws_eqState.l0.eq_2, if_pos (by decide), if_pos (by decide), if_pos rfl, w4, laws_eqState.l0.eq_2, if_neg (by decide)]
theorem FnExactStateOf : laws_FnExactStateOf.Pure := by
  intro a b xs ha hb hx _
  obtain ⟨k, hk⟩ : ∃ k : Nat, 1048580 ≤ k := ⟨1048580, by omega⟩
  refine ⟨k + 1, ?_⟩
  unfold laws_FnExactStateOf.f
  rw [szGame_f a b xs _ (by omega) (by omega) hx]
  by_cases q : (1048576 : Int) < xs.length
  · rw [if_pos q]; simp
  · rw [if_neg q]
    simp only [Option.bind_some]
    rw [if_neg (by omega), toGame_f a b xs (by omega) _ (by omega)]
    simp only [Option.bind_some]
    obtain ⟨⟨p, q', r, s, c⟩, hv⟩ := both (l := xs.map cv) (i8_wf ha) (i8_wf hb)
    rw [(hv (k + 1) (by omega)).1, (hv (k + 1) (by omega)).2]
    simp only [Option.bind_some]
    rw [eqState_f p q' r s (k + 1) (by omega)]
    simp only [Option.bind_some, bne_self_eq_false, Bool.false_eq_true, if_false, if_true, laws_FnExactStateOf.j0]
    rw [toGame_f a b xs (by omega) _ (by omega)]
    simp only [Option.bind_some]
    rw [eqGame_f a b (xs.map cv) (by rw [List.length_map]; omega) _ (by omega)]
    rfl

end Go.Proofs.Ytidblojobcgkjaa.Pure
