/- Proved: the program's TiltOfArms answers as the reference's for all weights and placings, and leaves them as they were. No conditions. -/
import Derived.Test.YthhihmhcfodjiaaLWMass
import Derived.Test.YthhihmhcfodjiaaMx18
import Derived.Test.YthhihmhcfodjiaaWSized
namespace Go.Proofs.Ythhihmhcfodjiaa.Pure
open Go.RowKit Go.Proofs.Ythhihmhcfodjiaa.M Go.Proofs.YthhihmhcfodjiaaW.PrintWords Go.Proofs.YthhihmhcfodjiaaW.PrintLast Go.Proofs.YthhihmhcfodjiaaW.PrintMore
set_option linter.unusedVariables false
set_option linter.unusedSimpArgs false

theorem arms_l0 (xs ps : List Int) (u v : Int) (hw : ∀ x ∈ xs, (Lit.int .i16 x).wf = true) (hn : xs.length ≤ 16) (he : ps.length = xs.length) (hp : ps.all placed = true) (a : Int) (ha : 0 ≤ a ∧ a ≤ 1000000) (d : Nat) :
    ∀ (j : Nat) (L R L' R' : Int), j + d = ps.length → (-(32768 * j) ≤ L ∧ L ≤ 32768 * j) → (-(32768 * j) ≤ R ∧ R ≤ 32768 * j) → ∀ k k2, d < k → d < k2 →
    impl_Weights_pans.l0 k2 xs L R ps ps.length j = some (L', R') → spec_TiltOfArms.l0 k xs ps u v (a + L) R j = (spec_l01Sign.f (wrap64 ((wrap64 (R' * v)) - (wrap64 ((a + L') * u))))).bind fun t268 => (some (t268, 0)) := by
  induction d with
  | zero =>
    intro j L R L' R' hj hL hR k k2 hk hk2 h
    obtain ⟨k, rfl⟩ : ∃ m, k = m + 1 := ⟨k - 1, by omega⟩
    obtain ⟨k2, rfl⟩ : ∃ m, k2 = m + 1 := ⟨k2 - 1, by omega⟩
    simp only [impl_Weights_pans.l0, spec_TiltOfArms.l0] at h ⊢
    rw [if_neg (by omega)] at h ⊢
    simp only [Option.some.injEq, Prod.mk.injEq] at h
    rw [h.1, h.2]
  | succ d ih =>
    intro j L R L' R' hj hL hR k k2 hk hk2 h
    obtain ⟨k, rfl⟩ : ∃ m, k = m + 1 := ⟨k - 1, by omega⟩
    obtain ⟨k2, rfl⟩ : ∃ m, k2 = m + 1 := ⟨k2 - 1, by omega⟩
    have w := i16_at hw j (by omega)
    simp only [impl_Weights_pans.l0, spec_TiltOfArms.l0] at h ⊢
    rw [if_pos (by omega), if_pos (by omega), if_pos (by omega), rd_at, rd_at, next_i (n := ps.length) (by omega) (by omega)] at h
    rw [if_pos (by omega), if_pos (by omega), if_pos (by omega), rd_at, rd_at, next_i (n := ps.length) (by omega) (by omega)]
    rw [show wrap64 (xs.getD j 0) = xs.getD j 0 by unfold wrap64; omega, show wrap64 (L + xs.getD j 0) = L + xs.getD j 0 by unfold wrap64; omega, show wrap64 (R + xs.getD j 0) = R + xs.getD j 0 by unfold wrap64; omega] at h
    rw [show wrap64 (xs.getD j 0) = xs.getD j 0 by unfold wrap64; omega, show wrap64 (a + L + xs.getD j 0) = a + (L + xs.getD j 0) by unfold wrap64; omega, show wrap64 (R + xs.getD j 0) = R + xs.getD j 0 by unfold wrap64; omega]
    rcases placed_at hp j (by omega) with e | e | e
    · rw [e, if_pos rfl, if_pos (by omega)] at h
      rw [e, if_pos (by decide), if_neg (by decide)]
      exact ih (j + 1) _ _ _ _ (by omega) (by omega) (by omega) k k2 (by omega) (by omega) h
    · rw [e, if_neg (by decide), if_neg (by decide)] at h
      rw [e, if_neg (by decide), if_neg (by decide)]
      exact ih (j + 1) _ _ _ _ (by omega) (by omega) (by omega) k k2 (by omega) (by omega) h
    · rw [e, if_neg (by decide), if_pos rfl, if_pos (by omega)] at h
      rw [e, if_neg (by decide), if_pos (by decide)]
      exact ih (j + 1) _ _ _ _ (by omega) (by omega) (by omega) k k2 (by omega) (by omega) h
theorem times_le {y x : Int} (hy : -2000000 ≤ y ∧ y ≤ 2000000) (hx : 1 ≤ x ∧ x ≤ 100) : -200000000 ≤ y * x ∧ y * x ≤ 200000000 := by
  have a := Int.mul_le_mul_of_nonneg_right hy.1 (show 0 ≤ x by omega)
  have b := Int.mul_le_mul_of_nonneg_right hy.2 (show 0 ≤ x by omega)
  omega
theorem both (xs ps : List Int) (a u v : Int) (hx : xs.length ≤ 1048576) (hp : ps.length ≤ 1048576) (hw : ∀ x ∈ xs, (Lit.int .i16 x).wf = true) (k : Nat) (hk : 2097161 < k) :
    ∃ z, spec_TiltOfArms.f k xs ps a u v = some z ∧ impl_TiltOfArms.f k xs ps a u v = some z := by
  obtain ⟨k, rfl⟩ : ∃ m, k = m + 1 := ⟨k - 1, by omega⟩
  obtain ⟨z, s, i, w⟩ := fits xs ps hx hp (k + 1) (by omega)
  unfold spec_TiltOfArms.f impl_TiltOfArms.f
  rw [s, i]
  simp only [Option.bind_some]
  cases z
  · exact ⟨(0, 1), rfl, rfl⟩
  · obtain ⟨w1, w2, w3⟩ := w rfl
    obtain ⟨L, R, e1, b1, b2⟩ := pans_l0 xs ps hw w1 w2 w3 ps.length 0 0 0 (by omega) (by omega) (by omega) k (by omega)
    have e2 : impl_Weights_pans.f k xs ps = some (L, R) := e1
    unfold spec_l01Heavy.f spec_l00In.f impl_within.f
    by_cases c1 : 0 ≤ a
    · by_cases c2 : a ≤ 1000000
      · rw [if_pos (show a ≥ 0 by omega), decide_eq_true c2]
        simp only [Option.bind_some, if_true]
        by_cases u1 : 1 ≤ u
        · by_cases u2 : u ≤ 100
          · rw [if_pos (show u ≥ 1 by omega), decide_eq_true u2]
            simp only [Option.bind_some, if_true]
            by_cases v1 : 1 ≤ v
            · by_cases v2 : v ≤ 100
              · rw [if_pos (show v ≥ 1 by omega), decide_eq_true v2]
                simp only [Option.bind_some, Bool.not_true, spec_TiltOfArms.j0, impl_TiltOfArms.j0, Bool.false_eq_true, if_false]
                have q := arms_l0 xs ps u v hw w1 w2 w3 a ⟨c1, c2⟩ ps.length 0 0 0 L R (by omega) (by omega) (by omega) k k (by omega) (by omega) e1
                rw [show a + 0 = a by omega] at q
                have q' : spec_TiltOfArms.l0 k xs ps u v a 0 0 = (spec_l01Sign.f (wrap64 ((wrap64 (R * v)) - (wrap64 ((a + L) * u))))).bind fun t268 => (some (t268, 0)) := q
                rw [q', e2]
                simp only [Option.bind_some]
                rw [show wrap64 (a + L) = a + L by unfold wrap64; omega]
                have t1 := times_le (y := R) (x := v) (by omega) ⟨v1, v2⟩
                have t2 := times_le (y := a + L) (x := u) (by omega) ⟨u1, u2⟩
                generalize R * v = P at t1 ⊢
                generalize (a + L) * u = Q at t2 ⊢
                rw [show wrap64 P = P by unfold wrap64; omega, show wrap64 Q = Q by unfold wrap64; omega, show wrap64 (P - Q) = P - Q by unfold wrap64; omega]
                unfold spec_l01Sign.f impl_seen.f
                by_cases d1 : P - Q < 0
                · rw [if_pos d1, if_pos (by omega)]; exact ⟨_, rfl, rfl⟩
                · rw [if_neg d1]
                  by_cases d2 : P - Q > 0
                  · rw [if_pos d2, if_neg (by omega), if_pos (by omega)]; exact ⟨_, rfl, rfl⟩
                  · rw [if_neg d2, if_neg (by omega), if_neg (by omega)]; exact ⟨_, rfl, rfl⟩
              · rw [if_pos (show v ≥ 1 by omega), decide_eq_false v2]
                exact ⟨(0, 2), rfl, rfl⟩
            · rw [if_neg (show ¬ v ≥ 1 by omega)]
              exact ⟨(0, 2), rfl, rfl⟩
          · rw [if_pos (show u ≥ 1 by omega), decide_eq_false u2]
            exact ⟨(0, 2), rfl, rfl⟩
        · rw [if_neg (show ¬ u ≥ 1 by omega)]
          exact ⟨(0, 2), rfl, rfl⟩
      · rw [if_pos (show a ≥ 0 by omega), decide_eq_false c2]
        exact ⟨(0, 2), rfl, rfl⟩
    · rw [if_neg (show ¬ a ≥ 0 by omega)]
      exact ⟨(0, 2), rfl, rfl⟩
theorem FnExactTiltOfArms : laws_FnExactTiltOfArms.Pure := by
  intro xs ps a u v _ _ hx _ _ hp  _ _ _
  obtain ⟨k, hk⟩ : ∃ k : Nat, 2097170 ≤ k := ⟨2097170, by omega⟩
  refine ⟨k + 1, ?_⟩
  unfold laws_FnExactTiltOfArms.f
  by_cases big : (xs.length : Int) > 1048576
  · rw [if_pos big]
  · rw [if_neg big]
    by_cases big2 : (ps.length : Int) > 1048576
    · rw [if_pos big2]
    · rw [if_neg big2]
      obtain ⟨v, s, i⟩ := both xs ps a u v (by omega) (by omega) hx (k + 1) (by omega)
      rw [laws_toWeights_f xs (by omega) _ (by omega), laws_toPlacing_f ps (by omega) _ (by omega)]
      simp only [Option.bind_some]
      rw [s, i]
      simp only [Option.bind_some, bne_self_eq_false, Bool.false_eq_true, if_false, if_true, laws_FnExactTiltOfArms.j0]
      rw [laws_toWeights_f xs (by omega) _ (by omega), laws_toPlacing_f ps (by omega) _ (by omega)]
      simp only [Option.bind_some]
      rw [laws_eqWeights_f xs (by omega) _ (by omega), laws_eqPlacing_f ps (by omega) _ (by omega)]
      rfl

end Go.Proofs.Ythhihmhcfodjiaa.Pure
namespace Go.Proofs.Ythhihmhcfodjiaa.PrintWords
/-- The printed row names this theorem by the name that it bears outside of OWN=1. -/
abbrev sized_ints := @Go.Proofs.YthhihmhcfodjiaaW.PrintWords.sized_ints
end Go.Proofs.Ythhihmhcfodjiaa.PrintWords
