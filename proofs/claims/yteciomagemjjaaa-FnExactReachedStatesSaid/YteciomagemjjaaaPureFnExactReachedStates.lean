/- Proved: the program's ReachedStates answers as the reference's for every puzzle. No conditions. -/
import Derived.Test.YteciomagemjjaaaJx16
import Derived.Test.YteciomagemjjaaaJx6
import Derived.Test.YteciomagemjjaaaLReachJ
import Derived.Test.YteciomagemjjaaaLSrcJ
import Derived.Test.YteciomagemjjaaaSFnExactReachedStates
namespace Go.Proofs.Yteciomagemjjaaa.Pure
open Go.RowKit Go.Proofs.Yteciomagemjjaaa.J Go.Proofs.YteciomagemjjaaaW.PrintWords Go.Proofs.YteciomagemjjaaaW.PrintLast Go.Proofs.YteciomagemjjaaaW.PrintMore
set_option linter.unusedVariables false
set_option linter.unusedSimpArgs false

theorem reached_f (l : List Int) (a b c d : Int) (tap : Bool) (hl : l.length ≤ 1048576) : ∃ v : Int × Int, ∀ k, 2000000 < k → spec_ReachedStates.f k l a b c d tap = some v ∧ impl_ReachedStates.f k l a b c d tap = some v := by
  obtain ⟨v, hv, hk⟩ := ok_f l a b c d tap hl
  cases v with
  | false =>
    refine ⟨(0, 1), fun k h => ?_⟩
    obtain ⟨h1, h2, -⟩ := hk k (by omega)
    unfold spec_ReachedStates.f impl_ReachedStates.f
    rw [h1, h2]
    exact ⟨rfl, rfl⟩
  | true =>
    obtain ⟨o1, o2, o3, o4, o5⟩ := hv rfl
    obtain ⟨P, q, t, f, bb, -, -, hF⟩ := both_f ⟨o1, o2, o3, o4⟩ a b c d tap o5 (fun k h => (hk k h).2.2 rfl)
    refine ⟨((q.length : Int), 0), fun k h => ?_⟩
    obtain ⟨h1, h2, -⟩ := hk k (by omega)
    obtain ⟨f1, f2⟩ := hF k h
    unfold spec_ReachedStates.f impl_ReachedStates.f
    rw [h1, h2]
    simp only [Option.bind_some, if_true]
    rw [f1, f2]
    simp only [Option.bind_some, impl_reached.f]
    exact ⟨by simp [ords], trivial⟩
theorem FnExactReachedStates : laws_FnExactReachedStates.Pure := by
  intro l a b c d tap hm _ _ _ _ _
  obtain ⟨k, hk⟩ : ∃ k, 3000000 ≤ k := ⟨_, Nat.le_refl _⟩
  refine ⟨k + 1, ?_⟩
  unfold laws_FnExactReachedStates.f
  rw [szPuzzle_f l a b c d tap hm]
  simp only [Option.bind_some]
  by_cases big : 1048576 < l.length
  · rw [if_pos big, if_pos (by decide)]
  · rw [if_neg big, if_neg (by omega)]
    rw [toPuzzle_f l a b c d tap (by omega) (k + 1) (by omega)]
    simp only [Option.bind_some]
    obtain ⟨⟨v0, v1⟩, hv⟩ := reached_f l a b c d tap (by omega)
    rw [(hv (k + 1) (by omega)).1, (hv (k + 1) (by omega)).2]
    simp only [Option.bind_some, if_true, bne_self_eq_false, laws_FnExactReachedStates.j0, Bool.false_eq_true, if_false]
    rw [toPuzzle_f l a b c d tap (by omega) k (by omega)]
    simp only [Option.bind_some]
    rw [eqPuzzle_f l a b c d tap (by omega) k (by omega)]
    rfl

end Go.Proofs.Yteciomagemjjaaa.Pure
