/- The mass is what the right pan has over the left. -/
import Derived.Test.YthhihmhcfodjiaaLWPans
import Derived.Test.YthhihmhcfodjiaaMx11
namespace Go.Proofs.Ythhihmhcfodjiaa.M
open Go.RowKit Go.Proofs.YthhihmhcfodjiaaW.PrintWords Go.Proofs.YthhihmhcfodjiaaW.PrintLast Go.Proofs.YthhihmhcfodjiaaW.PrintMore
set_option linter.unusedVariables false
set_option linter.unusedSimpArgs false

theorem mass_l0 (xs ps : List Int) (hw : ∀ x ∈ xs, (Lit.int .i16 x).wf = true) (hn : xs.length ≤ 16) (he : ps.length = xs.length) (hp : ps.all placed = true) (d : Nat) :
    ∀ (j : Nat) (L R L' R' : Int), j + d = ps.length → (-(32768 * j) ≤ L ∧ L ≤ 32768 * j) → (-(32768 * j) ≤ R ∧ R ≤ 32768 * j) → ∀ k k2, d < k → d < k2 →
    impl_Weights_pans.l0 k2 xs L R ps ps.length j = some (L', R') → spec_l01Mass.l0 k xs ps (R - L) j = some (R' - L') := by
  induction d with
  | zero =>
    intro j L R L' R' hj hL hR k k2 hk hk2 h
    obtain ⟨k, rfl⟩ : ∃ m, k = m + 1 := ⟨k - 1, by omega⟩
    obtain ⟨k2, rfl⟩ : ∃ m, k2 = m + 1 := ⟨k2 - 1, by omega⟩
    simp only [impl_Weights_pans.l0, spec_l01Mass.l0] at h ⊢
    rw [if_neg (by omega)] at h ⊢
    simp only [Option.some.injEq, Prod.mk.injEq] at h
    rw [h.1, h.2]
  | succ d ih =>
    intro j L R L' R' hj hL hR k k2 hk hk2 h
    obtain ⟨k, rfl⟩ : ∃ m, k = m + 1 := ⟨k - 1, by omega⟩
    obtain ⟨k2, rfl⟩ : ∃ m, k2 = m + 1 := ⟨k2 - 1, by omega⟩
    have w := i16_at hw j (by omega)
    simp only [impl_Weights_pans.l0, spec_l01Mass.l0] at h ⊢
    rw [if_pos (by omega), if_pos (by omega), if_pos (by omega), rd_at, rd_at, next_i (n := ps.length) (by omega) (by omega)] at h
    rw [if_pos (by omega), if_pos (by omega), if_pos (by omega), rd_at, rd_at, next_i (n := ps.length) (by omega) (by omega)]
    rw [show wrap64 (xs.getD j 0) = xs.getD j 0 by unfold wrap64; omega, show wrap64 (L + xs.getD j 0) = L + xs.getD j 0 by unfold wrap64; omega, show wrap64 (R + xs.getD j 0) = R + xs.getD j 0 by unfold wrap64; omega] at h
    rw [show wrap64 (xs.getD j 0) = xs.getD j 0 by unfold wrap64; omega]
    rcases placed_at hp j (by omega) with e | e | e
    · rw [e, if_pos rfl, if_pos (by omega)] at h
      rw [e, show wrap64 (R - L + wrap64 (xs.getD j 0 * wrap64 (-1))) = R - (L + xs.getD j 0) by
        rw [show wrap64 (-1) = -1 by unfold wrap64; omega, Int.mul_neg, Int.mul_one]; unfold wrap64; omega]
      exact ih (j + 1) _ _ _ _ (by omega) (by omega) (by omega) k k2 (by omega) (by omega) h
    · rw [e, if_neg (by decide), if_neg (by decide)] at h
      rw [e, show wrap64 (R - L + wrap64 (xs.getD j 0 * wrap64 0)) = R - L by
        rw [show wrap64 0 = 0 by unfold wrap64; omega, Int.mul_zero]; unfold wrap64; omega]
      exact ih (j + 1) _ _ _ _ (by omega) (by omega) (by omega) k k2 (by omega) (by omega) h
    · rw [e, if_neg (by decide), if_pos rfl, if_pos (by omega)] at h
      rw [e, show wrap64 (R - L + wrap64 (xs.getD j 0 * wrap64 1)) = R + xs.getD j 0 - L by
        rw [show wrap64 1 = 1 by unfold wrap64; omega, Int.mul_one]; unfold wrap64; omega]
      exact ih (j + 1) _ _ _ _ (by omega) (by omega) (by omega) k k2 (by omega) (by omega) h
theorem mass_f (xs ps : List Int) (hw : ∀ x ∈ xs, (Lit.int .i16 x).wf = true) (hn : xs.length ≤ 16) (he : ps.length = xs.length) (hp : ps.all placed = true) (k : Nat) (hk : 100 < k) :
    ∃ L R, impl_Weights_pans.f k xs ps = some (L, R) ∧ spec_l01Mass.f k xs ps = some (R - L) ∧ (-524288 ≤ L ∧ L ≤ 524288) ∧ (-524288 ≤ R ∧ R ≤ 524288) := by
  obtain ⟨L, R, h, b1, b2⟩ := pans_l0 xs ps hw hn he hp ps.length 0 0 0 (by omega) (by omega) (by omega) k (by omega)
  have m := mass_l0 xs ps hw hn he hp ps.length 0 0 0 L R (by omega) (by omega) (by omega) k k (by omega) (by omega) h
  exact ⟨L, R, h, m, b1, b2⟩

end Go.Proofs.Ythhihmhcfodjiaa.M
