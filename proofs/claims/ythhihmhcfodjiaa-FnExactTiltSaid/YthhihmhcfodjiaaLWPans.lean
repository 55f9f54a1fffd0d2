/- What the two pans come to. -/
import Derived.Test.YthhihmhcfodjiaaLWBase
import Derived.Test.YthhihmhcfodjiaaMx11
namespace Go.Proofs.Ythhihmhcfodjiaa.M
open Go.RowKit Go.Proofs.YthhihmhcfodjiaaW.PrintWords Go.Proofs.YthhihmhcfodjiaaW.PrintLast Go.Proofs.YthhihmhcfodjiaaW.PrintMore
set_option linter.unusedVariables false
set_option linter.unusedSimpArgs false

theorem pans_l0 (xs ps : List Int) (hw : ∀ x ∈ xs, (Lit.int .i16 x).wf = true) (hn : xs.length ≤ 16) (he : ps.length = xs.length) (hp : ps.all placed = true) (d : Nat) :
    ∀ (j : Nat) (L R : Int), j + d = ps.length → (-(32768 * j) ≤ L ∧ L ≤ 32768 * j) → (-(32768 * j) ≤ R ∧ R ≤ 32768 * j) → ∀ k, d < k →
    ∃ L' R', impl_Weights_pans.l0 k xs L R ps ps.length j = some (L', R') ∧ (-524288 ≤ L' ∧ L' ≤ 524288) ∧ (-524288 ≤ R' ∧ R' ≤ 524288) := by
  induction d with
  | zero =>
    intro j L R hj hL hR k hk
    obtain ⟨k, rfl⟩ : ∃ m, k = m + 1 := ⟨k - 1, by omega⟩
    refine ⟨L, R, ?_, by omega, by omega⟩
    simp only [impl_Weights_pans.l0]; rw [if_neg (by omega)]
  | succ d ih =>
    intro j L R hj hL hR k hk
    obtain ⟨k, rfl⟩ : ∃ m, k = m + 1 := ⟨k - 1, by omega⟩
    have w := i16_at hw j (by omega)
    simp only [impl_Weights_pans.l0]
    rw [if_pos (by omega), if_pos (by omega), if_pos (by omega), rd_at, rd_at, next_i (n := ps.length) (by omega) (by omega)]
    rw [show wrap64 (xs.getD j 0) = xs.getD j 0 by unfold wrap64; omega, show wrap64 (L + xs.getD j 0) = L + xs.getD j 0 by unfold wrap64; omega, show wrap64 (R + xs.getD j 0) = R + xs.getD j 0 by unfold wrap64; omega]
    rcases placed_at hp j (by omega) with e | e | e
    · rw [e, if_pos rfl, if_pos (by omega)]; exact ih (j + 1) _ _ (by omega) (by omega) (by omega) k (by omega)
    · rw [e, if_neg (by decide), if_neg (by decide)]; exact ih (j + 1) _ _ (by omega) (by omega) (by omega) k (by omega)
    · rw [e, if_neg (by decide), if_pos rfl, if_pos (by omega)]; exact ih (j + 1) _ _ (by omega) (by omega) (by omega) k (by omega)

end Go.Proofs.Ythhihmhcfodjiaa.M
